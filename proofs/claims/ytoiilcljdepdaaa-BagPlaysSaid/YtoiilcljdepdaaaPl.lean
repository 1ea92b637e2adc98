/- BagPlays: the walk. -/
import Derived.Test.YtoiilcljdepdaaaKd
namespace Go.Proofs.Ytoiilcljdepdaaa.Bg
set_option linter.unusedVariables false
set_option linter.unusedSimpArgs false
open Go.RowKit Go.Proofs.YtoiilcljdepdaaaW.PrintWords Go.Proofs.YtoiilcljdepdaaaW.PrintLast Go.Proofs.YtoiilcljdepdaaaW.PrintMore Go.Proofs.Ytoiilcljdepdaaa.PBagPlays
attribute [local go_sem] max2_int min2_int max_two min_two max_three min_three max_four min_four
theorem sent_len {xs : List ByteArray} {x : ByteArray} (h : xs.length ≤ 64) : (sent xs x).length ≤ 64 := by
  unfold sent; split
  · simp; omega
  · exact h
theorem rm_len {xs : List ByteArray} {i : Int} (h : xs.length ≤ 64) : (rmL xs i).length ≤ 64 := by
  unfold rmL; split
  · rw [List.length_eraseIdx]; split <;> omega
  · exact h
theorem cp_len {xs : List ByteArray} {i : Int} (h : xs.length ≤ 64) : (cpL xs i).length ≤ 64 := by unfold cpL; split; exact sent_len h; exact h
theorem Bg.set {t u : Nat} {w0 W : World} {g o k : Nat} {v : Value} {xs : List ByteArray} {cs : Array Value} (h : Bg t w0 W g v xs) (ho : W.heap[o]? = some (.cells cs u (0, 0))) (h1 : t ≠ u) (h2 : 9 ≠ u) (y : Value) : Bg t w0 (W.setCell ⟨o, k, none⟩ y) g v xs := by
  have hgo : g ≠ o := by rintro rfl; rw [h.1] at ho; injection ho with ho; injection ho with _ ho; exact h1 ho
  refine ⟨blk_far (p := ⟨o, k, none⟩) h.1 hgo _, h.2.1, ?_⟩
  have hR := Kd.R_types h.2.2 ho (fun q hq => by simp [show Kd.string.E = [] from rfl] at hq; subst hq; exact h2)
  exact Kd.R_mono (Kd.R_far hR (p := ⟨o, k, none⟩) (fun k hk => hk.2) y) (fun k hk => hk.1)
theorem Two.set {u : Nat} {w0 W : World} {ga gb o k : Nat} {xs ys : List ByteArray} {cs : Array Value} (h : Two w0 W ga gb xs ys) (ho : W.heap[o]? = some (.cells cs u (0, 0))) (h1 : 43 ≠ u) (h3 : 45 ≠ u) (h2 : 9 ≠ u) (y : Value) : Two w0 (W.setCell ⟨o, k, none⟩ y) ga gb xs ys := by
  obtain ⟨va, vb, ha, hb, hd⟩ := h
  exact ⟨va, vb, Bg.set ha ho h1 h2 y, Bg.set hb ho h3 h2 y, hd⟩
set_option maxHeartbeats 8000000 in
set_option maxRecDepth 100000 in
theorem plays (A : Option Addr) (c : Nat) (l : List S29) (w : World) (hr : Kd.C k29 w A l.length l) (hc : l.length ≤ c) {V : Prop} (_ : V) :
    Calls Try.prog 3 #[.slice A l.length c] w fun e w' => e = .returned (.bool true) ∧ Below w.heap.size w w' := by
  have H := Below.refl w.heap.size w
  go_enter Try.func3, Try.ntmps3
  go_wp2_with fail
  refine (awake_any w _ H).mono ?_; rintro e w1 ⟨rfl, H⟩
  go_wp2_with fail
  refine (New1 w _ H).mono ?_; rintro e w2 ⟨ga, rfl, HI, H, -⟩
  go_wp2_with fail
  refine (rNew2 ga [] w _ HI H).mono ?_; rintro e w3 ⟨gb, rfl, HI, H, -⟩
  replace HI := Aside0.mk HI
  replace HB := Aside0.mk H
  clear H
  go_wp2_with fail
  go_loopg [6] 300 (fun kq v6 w' => ∃ (i : Nat) (xs : List ByteArray), v6 = .int .i64 (i : Int) ∧ i + kq = 300 ∧ xs.length ≤ 64 ∧ Aside0 (Two w w' ga gb xs xs) ∧ Aside0 (Below w.heap.size w w'))
  case atStart => exact ⟨0, [], rfl, rfl, by decide, HI, HB⟩
  case round =>
    clear HI HB
    obtain ⟨i, xs, rfl, hik, hxl, HI, HB⟩ := hrel
    by_cases h1 : i < l.length ∧ i < 300
    · obtain ⟨m, rfl⟩ : ∃ m, gk = m + 1 := ⟨gk - 1, by omega⟩
      have d1 : decide ((i : Int) < (l.length : Int)) = true := by simp; exact h1.1
      have d2 : decide ((i : Int) < 300) = true := by simp; omega
      have p1 : 0 ≤ (i : Int) := by omega
      have q1 : (i : Int) < (l.length : Int) := by omega
      have e1 : (i : Int).toNat = i := Int.toNat_natCast i
      obtain ⟨ad, rfl, hx0, hx1, hx2, hx3⟩ := at29 hr i h1.1
      replace hx0 := (HB.out.cell (World.block_lt_of_cell? w _ hx0)).trans hx0
      replace hx1 := (HB.out.cell (World.block_lt_of_cell? w _ hx1)).trans hx1
      replace hx2 := (HB.out.cell (World.block_lt_of_cell? w _ hx2)).trans hx2
      replace hx3 := (HB.out.cell (World.block_lt_of_cell? w _ hx3)).trans hx3
      replace p1 := eq_true p1
      replace q1 := eq_true q1
      go_upto_if 46 with fail
      have hO := heap_alloc_new wr (.cells #[.int .i64 (rd29 l i).f0, .int .i64 (rd29 l i).f1, .bool (rd29 l i).f2, .string (rd29 l i).f3] 29)
      have HBa := below_alloc (Below.refl wr.heap.size wr) (.cells #[.int .i64 (rd29 l i).f0, .int .i64 (rd29 l i).f1, .bool (rd29 l i).f2, .string (rd29 l i).f3] 29)
      replace HI := Aside0.mk (HI.out.below HBa)
      have hwr := HB.out.size
      replace HB := Aside0.mk (HB.out.trans (HBa.mono HB.out.size))
      clear hx0 hx1 hx2 hx3 HBa
      have hge : w.heap.size ≤ wr.heap.size := hwr
      generalize hox : wr.heap.size = ox at *
      generalize wr.alloc (.cells #[.int .i64 (rd29 l i).f0, .int .i64 (rd29 l i).f1, .bool (rd29 l i).f2, .string (rd29 l i).f3] 29) = wa at *
      generalize rd29 l i = X at *
      have hX2 := blk_cell hO 2
      have hX1 := blk_cell hO 1
      have hF1 := blk_frozen hO 1
      go_cut [7] (fun s7 wx => ∃ a : Int, s7 = .pointer (some ⟨ox, 0, none⟩) ∧ wx.heap[ox]? = some (.cells #[.int .i64 X.f0, .int .i64 a, .bool X.f2, .string X.f3] 29 (0, 0)) ∧ Aside0 (Two w wx ga gb xs xs) ∧ Aside0 (Below w.heap.size w wx))
      case first =>
        cases hn : X.f2 with
        | true =>
          rw [hn] at hO
          go_wp2_with fail
          have hXb := blk_cell hO 1
          have hq : IntKind.i64.wrap (1 + (xs.length : Int)) = 1 + (xs.length : Int) := IntWalk.i64_in _ (by omega)
          refine wp_region_still_tail 6 (by kernel_rfl) (by kernel_rfl) ?_
          simp only [List.take_succ_cons, List.take_zero, List.drop_succ_cons, List.drop_zero]
          still_step
          still_step
          still_step
          still_call ((rLen2 ga gb xs xs w _ (HI.out.below (below_drew (Below.refl _ _)))).mono (fun _ _ h => ⟨h.1, h.2.symm⟩))
          still_step
          still_call ((pick_any X.f1 (1 + (xs.length : Int)) _ (by omega)).mono (fun _ _ h => ⟨h.1, h.2.symm⟩))
          refine wpStill_nil ?_
          change wpList _ _ _ _ _ wa.drew
          clear hq hXb hX1 hX2 hF1
          replace hO : wa.drew.heap[ox]? = _ := hO
          replace HI := Aside0.mk (HI.out.below (below_drew (Below.refl _ _)))
          replace HB := Aside0.mk HB.out.drew
          generalize wa.drew = wb at *
          have hF1 := blk_frozen hO 1
          have hX1 := (blk_cell hO 1).trans rfl
          generalize hpk : pickR X.f1 (1 + (xs.length : Int)) = pk
          go_wp2_with fail
          go_meet
          exact ⟨pk, rfl, by first | exact blk_put hO 1 _ rfl | (rw [hn]; exact blk_put hO 1 _ rfl), Aside0.mk (HI.out.set hO (by decide) (by decide) (by decide) _), Aside0.mk (HB.out.setCell (p := ⟨ox, 1, none⟩) hge _)⟩
        | false =>
          rw [hn] at hO
          go_wp2_with fail
          go_meet
          exact ⟨X.f1, rfl, by first | exact hO | (rw [hn]; exact hO), HI, HB⟩
      case rest =>
        clear hO hX1 hX2 hF1 HI HB
        obtain ⟨a, rfl, hO, HI, HB⟩ := hcut
        generalize hm7 : pickR X.f0 7 = m7
        have hX0 := (blk_cell hO 0).trans rfl
        have hX1 := (blk_cell hO 1).trans rfl
        have hX3 := (blk_cell hO 3).trans rfl
        go_upto_block 2 with (go_at_call 9; refine (pick_any X.f0 7 _ (by decide)).mono ?_; rintro e w' ⟨rfl, rfl⟩; rw [hm7])
        go_cut [8] (fun s8 wx => s8 = .bool true ∧ ∃ ys : List ByteArray, ys.length ≤ 64 ∧ wx.heap[ox]? = some (.cells #[.int .i64 X.f0, .int .i64 a, .bool X.f2, .string X.f3] 29 (0, 0)) ∧ Aside0 (Two w wx ga gb ys ys) ∧ Aside0 (Below w.heap.size w wx))
        case first =>
          rcases (show m7 = 0 ∨ m7 = 1 ∨ m7 = 2 ∨ m7 = 3 ∨ m7 = 4 ∨ m7 = 5 ∨ (m7 ≠ 0 ∧ m7 ≠ 1 ∧ m7 ≠ 2 ∧ m7 ≠ 3 ∧ m7 ≠ 4 ∧ m7 ≠ 5) from by omega) with h | h | h | h | h | h | ⟨h, h2, h3, h4, h5, h6⟩
          · subst h
            go_wp2_with fail
            go_region_held3 (fun w' => w'.cell? ⟨ox, 3, none⟩ = some (.string X.f3)) (first | exact hX3 | exact hX3a | exact hX3b)
              (first | (go_at_call 11; refine (Send2 ga gb xs xs X.f3 w _ (HI.out.below (below_drew (Below.refl _ _))) HB.out.drew).mono ?_; rintro e w4 ⟨rfl, hi4, hb4, hk4⟩; have hO4 := hk4 ox _ _ _ (by decide) (by decide) (by decide) hO; have hX3a := (blk_cell hO4 3).trans rfl) | (go_at_call 12; refine (rSend2 ga gb _ xs X.f3 w _ hi4 hb4).mono ?_; rintro e w5 ⟨rfl, hi5, hb5, hk5⟩; have hO5 := hk5 ox _ _ _ (by decide) (by decide) (by decide) hO4; have hX3b := (blk_cell hO5 3).trans rfl))
            go_wp2_with fail
            go_meet
            exact ⟨by simp, _, sent_len hxl, hO5, Aside0.mk hi5, Aside0.mk hb5⟩
          · subst h
            go_wp2_with fail
            go_region_held3 (fun w' => w'.cell? ⟨ox, 3, none⟩ = some (.string X.f3)) (first | exact hX3 | exact hX3a | exact hX3b)
              (first | (go_at_call 11; refine (Send2 ga gb xs xs X.f3 w _ (HI.out.below (below_drew (Below.refl _ _))) HB.out.drew).mono ?_; rintro e w4 ⟨rfl, hi4, hb4, hk4⟩; have hO4 := hk4 ox _ _ _ (by decide) (by decide) (by decide) hO; have hX3a := (blk_cell hO4 3).trans rfl) | (go_at_call 12; refine (rSend2 ga gb _ xs X.f3 w _ hi4 hb4).mono ?_; rintro e w5 ⟨rfl, hi5, hb5, hk5⟩; have hO5 := hk5 ox _ _ _ (by decide) (by decide) (by decide) hO4; have hX3b := (blk_cell hO5 3).trans rfl))
            go_wp2_with fail
            go_meet
            exact ⟨by simp, _, sent_len hxl, hO5, Aside0.mk hi5, Aside0.mk hb5⟩
          · subst h
            go_wp2_with fail
            go_region_held3 (fun w' => w'.cell? ⟨ox, 3, none⟩ = some (.string X.f3)) (first | exact hX3 | exact hX3a | exact hX3b)
              (first | (go_at_call 11; refine (Send2 ga gb xs xs X.f3 w _ (HI.out.below (below_drew (Below.refl _ _))) HB.out.drew).mono ?_; rintro e w4 ⟨rfl, hi4, hb4, hk4⟩; have hO4 := hk4 ox _ _ _ (by decide) (by decide) (by decide) hO; have hX3a := (blk_cell hO4 3).trans rfl) | (go_at_call 12; refine (rSend2 ga gb _ xs X.f3 w _ hi4 hb4).mono ?_; rintro e w5 ⟨rfl, hi5, hb5, hk5⟩; have hO5 := hk5 ox _ _ _ (by decide) (by decide) (by decide) hO4; have hX3b := (blk_cell hO5 3).trans rfl))
            go_wp2_with fail
            go_meet
            exact ⟨by simp, _, sent_len hxl, hO5, Aside0.mk hi5, Aside0.mk hb5⟩
          · subst h
            go_wp2_with (first | (go_at_call 13; refine (Take2 ga gb xs xs a w _ HI.out HB.out).mono ?_; rintro e w4 ⟨rfl, hi4, hb4, hk4⟩; have hO4 := hk4 ox _ _ _ (by decide) (by decide) (by decide) hO; have hX1a := (blk_cell hO4 1).trans rfl) | (go_at_call 14; refine (rTake2 ga gb _ xs a w _ hi4 hb4 hxl).mono ?_; rintro e w5 ⟨rfl, hi5, hb5, hk5⟩; have hO5 := hk5 ox _ _ _ (by decide) (by decide) (by decide) hO4; have hX1b := (blk_cell hO5 1).trans rfl))
            go_meet
            exact ⟨by simp, _, rm_len hxl, hO5, Aside0.mk hi5, Aside0.mk hb5⟩
          · subst h
            go_wp2_with fail
            go_region_held3 (fun w' => w'.cell? ⟨ox, 1, none⟩ = some (.int .i64 a)) (first | exact hX1 | exact hX1a | exact hX1b)
              (first | (go_at_call 15; refine (Copy2 ga gb xs xs a w _ (HI.out.below (below_drew (Below.refl _ _))) HB.out.drew).mono ?_; rintro e w4 ⟨rfl, hi4, hb4, hk4⟩; have hO4 := hk4 ox _ _ _ (by decide) (by decide) (by decide) hO; have hX1a := (blk_cell hO4 1).trans rfl) | (go_at_call 16; refine (rCopy2 ga gb _ xs a w _ hi4 hb4).mono ?_; rintro e w5 ⟨rfl, hi5, hb5, hk5⟩; have hO5 := hk5 ox _ _ _ (by decide) (by decide) (by decide) hO4; have hX1b := (blk_cell hO5 1).trans rfl))
            go_wp2_with fail
            go_meet
            exact ⟨by simp, _, cp_len hxl, hO5, Aside0.mk hi5, Aside0.mk hb5⟩
          · subst h
            go_wp2_with fail
            go_region_held3 (fun w' => w'.cell? ⟨ox, 1, none⟩ = some (.int .i64 a)) (first | exact hX1 | exact hX1a | exact hX1b)
              (first | (go_at_call 17; refine (Drop2 ga gb xs xs a w _ (HI.out.below (below_drew (Below.refl _ _))) HB.out.drew).mono ?_; rintro e w4 ⟨rfl, hi4, hb4, hk4⟩; have hO4 := hk4 ox _ _ _ (by decide) (by decide) (by decide) hO; have hX1a := (blk_cell hO4 1).trans rfl) | (go_at_call 18; refine (rDrop2 ga gb _ xs a w _ hi4 hb4 hxl).mono ?_; rintro e w5 ⟨rfl, hi5, hb5, hk5⟩; have hO5 := hk5 ox _ _ _ (by decide) (by decide) (by decide) hO4; have hX1b := (blk_cell hO5 1).trans rfl))
            go_wp2_with fail
            go_meet
            exact ⟨by simp, _, rm_len hxl, hO5, Aside0.mk hi5, Aside0.mk hb5⟩
          · have b0 : (m7 == 0) = false := beq_eq_false_iff_ne.mpr h
            have b1 : (m7 == 1) = false := beq_eq_false_iff_ne.mpr h2
            have b2 : (m7 == 2) = false := beq_eq_false_iff_ne.mpr h3
            have b3 : (m7 == 3) = false := beq_eq_false_iff_ne.mpr h4
            have b4 : (m7 == 4) = false := beq_eq_false_iff_ne.mpr h5
            have b5 : (m7 == 5) = false := beq_eq_false_iff_ne.mpr h6
            go_wp2_with fail
            go_meet
            exact ⟨rfl, xs, hxl, hO, HI, HB⟩
        case rest =>
          clear hO hX0 hX1 hX3 HI HB
          obtain ⟨rfl, ys, hyl, hO, HI, HB⟩ := hcut
          have hX1 := (blk_cell hO 1).trans rfl
          go_wp2_with (first | (go_at_call 19; refine (Look2 ga gb ys ys a w _ HI.out HB.out).mono ?_; rintro e w4 ⟨rfl, hi4, hb4, hk4⟩; have hO4 := hk4 ox _ _ _ (by decide) (by decide) (by decide) hO; have hX1a := (blk_cell hO4 1).trans rfl) | (go_at_call 20; refine (rLook2 ga gb ys ys a w _ hi4 hb4).mono ?_; rintro e w5 ⟨rfl, hi5, hb5, hk5⟩) | (go_at_call 21; refine (Len2 ga gb ys ys w _ hi5).mono ?_; rintro e w6 ⟨rfl, rfl⟩) | (go_at_call 10; refine (rLen2 ga gb ys ys w _ hi5).mono ?_; rintro e w6 ⟨rfl, rfl⟩))
          go_roundg m
          case measure => omega
          case rel => exact ⟨i + 1, ys, by rw [Int.natCast_add]; rfl, by omega, hyl, Aside0.mk hi5, Aside0.mk hb5⟩
    · have d1 : (decide ((i : Int) < (l.length : Int)) && decide ((i : Int) < 300)) = false := by
        rw [← Bool.not_eq_true, Bool.and_eq_true, decide_eq_true_eq, decide_eq_true_eq]; omega
      by_cases h2 : i < l.length
      · have d1 : decide ((i : Int) < (l.length : Int)) = true := by simp; exact h2
        have d2 : decide ((i : Int) < 300) = false := by simp; omega
        go_wp2_with fail
        go_loopg [17] xs.length (fun kq v17 w' => ∃ (j : Nat), v17 = .int .i64 (j : Int) ∧ j + kq = xs.length ∧ Aside0 (Two w w' ga gb xs xs) ∧ Aside0 (Below w.heap.size w w'))
        case atStart => exact ⟨0, rfl, by omega, HI, HB⟩
        case round =>
          clear HI HB
          obtain ⟨j, rfl, hjk, HI, HB⟩ := hrel
          by_cases h3 : j < xs.length
          · obtain ⟨m, rfl⟩ : ∃ m, gk = m + 1 := ⟨gk - 1, by omega⟩
            have d3 : decide ((j : Int) < (xs.length : Int)) = true := by simp; exact h3
            go_wp2_with (first | (go_at_call 10; refine (rLen2 ga gb xs xs w _ HI.out).mono ?_; rintro e w6 ⟨rfl, rfl⟩) | (go_at_call 19; refine (Look2 ga gb xs xs j w _ HI.out HB.out).mono ?_; rintro e w4 ⟨rfl, hi4, hb4, hk4⟩) | (go_at_call 20; refine (rLook2 ga gb xs xs j w _ hi4 hb4).mono ?_; rintro e w5 ⟨rfl, hi5, hb5, hk5⟩))
            go_roundg m
            case measure => omega
            case rel => exact ⟨j + 1, by rw [Int.natCast_add]; rfl, by omega, Aside0.mk hi5, Aside0.mk hb5⟩
          · have d3 : decide ((j : Int) < (xs.length : Int)) = false := by simp; omega
            go_wp2_with (first | (go_at_call 10; refine (rLen2 ga gb xs xs w _ HI.out).mono ?_; rintro e w6 ⟨rfl, rfl⟩))
            go_ret
            exact ⟨rfl, HB.out⟩
      · have d1 : decide ((i : Int) < (l.length : Int)) = false := by simp; omega
        go_wp2_with fail
        go_loopg [17] xs.length (fun kq v17 w' => ∃ (j : Nat), v17 = .int .i64 (j : Int) ∧ j + kq = xs.length ∧ Aside0 (Two w w' ga gb xs xs) ∧ Aside0 (Below w.heap.size w w'))
        case atStart => exact ⟨0, rfl, by omega, HI, HB⟩
        case round =>
          clear HI HB
          obtain ⟨j, rfl, hjk, HI, HB⟩ := hrel
          by_cases h3 : j < xs.length
          · obtain ⟨m, rfl⟩ : ∃ m, gk = m + 1 := ⟨gk - 1, by omega⟩
            have d3 : decide ((j : Int) < (xs.length : Int)) = true := by simp; exact h3
            go_wp2_with (first | (go_at_call 10; refine (rLen2 ga gb xs xs w _ HI.out).mono ?_; rintro e w6 ⟨rfl, rfl⟩) | (go_at_call 19; refine (Look2 ga gb xs xs j w _ HI.out HB.out).mono ?_; rintro e w4 ⟨rfl, hi4, hb4, hk4⟩) | (go_at_call 20; refine (rLook2 ga gb xs xs j w _ hi4 hb4).mono ?_; rintro e w5 ⟨rfl, hi5, hb5, hk5⟩))
            go_roundg m
            case measure => omega
            case rel => exact ⟨j + 1, by rw [Int.natCast_add]; rfl, by omega, Aside0.mk hi5, Aside0.mk hb5⟩
          · have d3 : decide ((j : Int) < (xs.length : Int)) = false := by simp; omega
            go_wp2_with (first | (go_at_call 10; refine (rLen2 ga gb xs xs w _ HI.out).mono ?_; rintro e w6 ⟨rfl, rfl⟩))
            go_ret
            exact ⟨rfl, HB.out⟩
end Go.Proofs.Ytoiilcljdepdaaa.Bg
