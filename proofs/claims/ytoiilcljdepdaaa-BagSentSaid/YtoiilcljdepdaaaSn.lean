/- BagSent: the walk. -/
import Derived.Test.YtoiilcljdepdaaaSt
namespace Go.Proofs.Ytoiilcljdepdaaa.Bg
set_option linter.unusedVariables false
set_option linter.unusedSimpArgs false
open Go.RowKit Go.Proofs.YtoiilcljdepdaaaW.PrintWords Go.Proofs.YtoiilcljdepdaaaW.PrintLast Go.Proofs.YtoiilcljdepdaaaW.PrintMore Go.Proofs.Ytoiilcljdepdaaa.PBagPlays
attribute [local go_sem] max2_int min2_int max_two min_two max_three min_three max_four min_four
def cnt (ks : List Nat) : Nat → Int := fun j => ((ks.count j : Nat) : Int)
theorem cnt_sent (ks : List Nat) (k : Nat) : upd (cnt ks) k 1 = cnt (ks ++ [k]) := by
  funext j
  unfold upd cnt
  rw [List.count_append]
  by_cases h : j = k
  · subst h; rw [if_pos rfl]; simp
  · rw [if_neg h]; simp [List.count_cons, Ne.symm h, h]
theorem split_at (ks : List Nat) (n : Nat) (hn : n < ks.length) : ks = ks.take n ++ ks.getD n 0 :: ks.drop (n + 1) := by
  have h1 := List.take_append_drop n ks
  rw [List.drop_eq_getElem_cons hn] at h1
  rw [List.getD_eq_getElem?_getD, List.getElem?_eq_getElem hn]
  exact h1.symm
theorem cnt_rm (ks : List Nat) (n : Nat) (hn : n < ks.length) : upd (cnt ks) (ks.getD n 0) (-1) = cnt (ks.eraseIdx n) := by
  funext j
  have h1 : ks.count j = (ks.take n ++ ks.getD n 0 :: ks.drop (n + 1)).count j := congrArg _ (split_at ks n hn)
  unfold upd cnt
  rw [h1, List.eraseIdx_eq_take_drop_succ, List.count_append, List.count_append, List.count_cons]
  by_cases h : j = ks.getD n 0
  · rw [if_pos h, if_pos (by simp [h])]; omega
  · rw [if_neg h, if_neg (by simp; exact fun e => h e.symm)]; omega
theorem cnt_pos (ks : List Nat) (n : Nat) (hn : n < ks.length) : 1 ≤ cnt ks (ks.getD n 0) := by
  have : 0 < ks.count (ks.getD n 0) := by
    rw [List.count_pos_iff, List.getD_eq_getElem?_getD, List.getElem?_eq_getElem hn]
    exact List.getElem_mem hn
  unfold cnt; omega
theorem cnt_le (ks : List Nat) (k : Nat) : 0 ≤ cnt ks k ∧ cnt ks k ≤ ks.length := by
  have := List.count_le_length (a := k) (l := ks)
  unfold cnt; omega
theorem getD_lt (ks : List Nat) (hks : ∀ k ∈ ks, k < 5) (n : Nat) (hn : n < ks.length) : ks.getD n 0 < 5 := by
  rw [List.getD_eq_getElem?_getD, List.getElem?_eq_getElem hn]
  exact hks _ (List.getElem_mem hn)
theorem erase_lt (ks : List Nat) (hks : ∀ k ∈ ks, k < 5) (n : Nat) : ∀ k ∈ ks.eraseIdx n, k < 5 := fun k hk => hks k (List.mem_of_mem_eraseIdx hk)
theorem app_lt (ks : List Nat) (hks : ∀ k ∈ ks, k < 5) (k : Nat) (hk : k < 5) : ∀ j ∈ ks ++ [k], j < 5 := fun j hj => by
  rcases List.mem_append.1 hj with h | h
  · exact hks j h
  · simp at h; omega
theorem pickR_in (a n : Int) (h1 : -9223372036854775808 ≤ a) (h2 : a ≤ 9223372036854775807) (hn : 0 < n) : ∃ m : Nat, pickR a n = (m : Int) ∧ (m : Int) < n := by
  unfold pickR
  by_cases h : a < 0
  · rw [if_pos h]
    have e : wrap64 (-(wrap64 (a + 1))) = -(a + 1) := by unfold wrap64; omega
    rw [e, Int.tmod_eq_emod_of_nonneg (by omega)]
    have p := Int.emod_nonneg (-(a + 1)) (show n ≠ 0 by omega)
    have q := Int.emod_lt_of_pos (-(a + 1)) hn
    exact ⟨((-(a + 1)) % n).toNat, by omega, by omega⟩
  · rw [if_neg h]
    have p := Int.emod_nonneg a (show n ≠ 0 by omega)
    have q := Int.emod_lt_of_pos a hn
    exact ⟨(a % n).toNat, by omega, by omega⟩
theorem St.cell {w0 W : World} {g bt b5 ba bl : Nat} {ks : List Nat} {u : Nat → Int} {al : Int} (h : St w0 W g bt b5 ba bl ks u al) : W.cell? ⟨bl, 0, none⟩ = some (.int .i64 al) := (blk_cell h.2.2.2.2.1 0).trans rfl
/-- BagSent's state between the rounds -/
def Inv (w0 W : World) (g bt b5 ba bl : Nat) (ks : List Nat) : Prop := St w0 W g bt b5 ba bl ks (cnt ks) ks.length ∧ (∀ k ∈ ks, k < 5) ∧ ks.length ≤ 64
theorem fin_add {w0 W : World} {g bt b5 ba bl k : Nat} {ks : List Nat} (h : St w0 W g bt b5 ba bl (sentK ks k) (upd (cnt ks) k 1) ((ks.length : Int) + 1)) (hks : ∀ k ∈ ks, k < 5) (hk : k < 5) (hl : ks.length < 64) : Inv w0 W g bt b5 ba bl (ks ++ [k]) := by
  have e : sentK ks k = ks ++ [k] := by unfold sentK; rw [if_pos hl]
  rw [e, cnt_sent] at h
  have e2 : ((ks ++ [k]).length : Int) = (ks.length : Int) + 1 := by simp
  exact ⟨by rw [e2]; exact h, app_lt ks hks k hk, by simp; omega⟩
theorem fin_rm {w0 W : World} {g bt b5 ba bl n : Nat} {ks : List Nat} (h : St w0 W g bt b5 ba bl (ks.eraseIdx n) (upd (cnt ks) (ks.getD n 0) (-1)) ((ks.length : Int) + -1)) (hks : ∀ k ∈ ks, k < 5) (hn : n < ks.length) (hl : ks.length ≤ 64) : Inv w0 W g bt b5 ba bl (ks.eraseIdx n) := by
  rw [cnt_rm ks n hn] at h
  have e2 : ((ks.eraseIdx n).length : Int) = (ks.length : Int) + -1 := by rw [List.length_eraseIdx_of_lt hn]; omega
  exact ⟨by rw [e2]; exact h, erase_lt ks hks n, by rw [List.length_eraseIdx_of_lt hn]; omega⟩
theorem fin_full {w0 W : World} {g bt b5 ba bl k : Nat} {ks : List Nat} (h : St w0 W g bt b5 ba bl (sentK ks k) (cnt ks) ks.length) (hks : ∀ k ∈ ks, k < 5) (hl : ks.length ≤ 64) (hf : ¬ ks.length < 64) : Inv w0 W g bt b5 ba bl ks := by
  have e : sentK ks k = ks := by unfold sentK; rw [if_neg hf]
  rw [e] at h
  exact ⟨h, hks, hl⟩
theorem start {w0 w2 : World} {g : Nat} (h : One w0 w2 g []) (hB : Below w0.heap.size w0 w2) :
    Inv w0 ((((w2.alloc (.cells #[.string ⟨#[97]⟩, .string ⟨#[98]⟩, .string ⟨#[99]⟩, .string ⟨#[100]⟩, .string ⟨#[101]⟩] 9)).alloc (.cells #[.slice (some ⟨w2.heap.size, 0, none⟩) 5 5] 37)).alloc (.cells #[.int .i64 0, .int .i64 0, .int .i64 0, .int .i64 0, .int .i64 0] 38)).alloc (.cells #[.int .i64 0] 3)) g (w2.heap.size + 1) w2.heap.size (w2.heap.size + 1 + 1) (w2.heap.size + 1 + 1 + 1) [] := by
  obtain ⟨v, hv⟩ := h
  have hle := hB.size
  have hb : Below w2.heap.size w2 ((((w2.alloc (.cells #[.string ⟨#[97]⟩, .string ⟨#[98]⟩, .string ⟨#[99]⟩, .string ⟨#[100]⟩, .string ⟨#[101]⟩] 9)).alloc (.cells #[.slice (some ⟨w2.heap.size, 0, none⟩) 5 5] 37)).alloc (.cells #[.int .i64 0, .int .i64 0, .int .i64 0, .int .i64 0, .int .i64 0] 38)).alloc (.cells #[.int .i64 0] 3)) := below_alloc (below_alloc (below_alloc (below_alloc (Below.refl _ _) _) _) _) _
  refine ⟨⟨⟨v, Bg.below hv hb, fun e => by have := Kd.R_lt hv.2.2 _ e; omega⟩, ?_, ?_, ?_, ?_, hB.trans (hb.mono hle), by omega, by omega⟩, by simp, by simp⟩
  · have := heap_alloc_new (w2.alloc (.cells #[.string ⟨#[97]⟩, .string ⟨#[98]⟩, .string ⟨#[99]⟩, .string ⟨#[100]⟩, .string ⟨#[101]⟩] 9)) (.cells #[.slice (some ⟨w2.heap.size, 0, none⟩) 5 5] 37)
    rw [szA] at this
    exact blk_alloc (blk_alloc this _) _
  · exact blk_alloc (blk_alloc (blk_alloc (heap_alloc_new w2 _) _) _) _
  · have := heap_alloc_new ((w2.alloc (.cells #[.string ⟨#[97]⟩, .string ⟨#[98]⟩, .string ⟨#[99]⟩, .string ⟨#[100]⟩, .string ⟨#[101]⟩] 9)).alloc (.cells #[.slice (some ⟨w2.heap.size, 0, none⟩) 5 5] 37)) (.cells #[.int .i64 0, .int .i64 0, .int .i64 0, .int .i64 0, .int .i64 0] 38)
    rw [szA, szA] at this
    exact blk_alloc this _
  · have := heap_alloc_new (((w2.alloc (.cells #[.string ⟨#[97]⟩, .string ⟨#[98]⟩, .string ⟨#[99]⟩, .string ⟨#[100]⟩, .string ⟨#[101]⟩] 9)).alloc (.cells #[.slice (some ⟨w2.heap.size, 0, none⟩) 5 5] 37)).alloc (.cells #[.int .i64 0, .int .i64 0, .int .i64 0, .int .i64 0, .int .i64 0] 38)) (.cells #[.int .i64 0] 3)
    rw [szA, szA, szA] at this
    exact this
set_option maxHeartbeats 8000000 in
set_option maxRecDepth 100000 in
theorem sentW (A : Option Addr) (c : Nat) (l : List S29) (w : World) (hr : Kd.C k29 w A l.length l) (hc : l.length ≤ c) (hV : ∀ x ∈ l, -9223372036854775808 ≤ x.f1 ∧ x.f1 ≤ 9223372036854775807) :
    Calls Try.prog 4 #[.slice A l.length c] w fun e w' => e = .returned (.bool true) ∧ Below w.heap.size w w' := by
  have H := Below.refl w.heap.size w
  go_enter Try.func4, Try.ntmps4
  go_wp2_with fail
  refine (awake_any w _ H).mono ?_; rintro e w1 ⟨rfl, H⟩
  go_wp2_with fail
  refine (New1 w _ H).mono ?_; rintro e w2 ⟨g, rfl, HI, H, -⟩
  replace HI := Aside0.mk HI
  replace HB := Aside0.mk H
  clear H
  go_wp2_with fail
  have HS := Aside0.mk (start HI.out HB.out)
  have hle := HB.out.size
  clear HI HB
  revert HS
  generalize ((((w2.alloc (.cells #[.string ⟨#[97]⟩, .string ⟨#[98]⟩, .string ⟨#[99]⟩, .string ⟨#[100]⟩, .string ⟨#[101]⟩] 9)).alloc (.cells #[.slice (some ⟨w2.heap.size, 0, none⟩) 5 5] 37)).alloc (.cells #[.int .i64 0, .int .i64 0, .int .i64 0, .int .i64 0, .int .i64 0] 38)).alloc (.cells #[.int .i64 0] 3)) = wz
  generalize w2.heap.size + 1 + 1 + 1 = bl
  generalize w2.heap.size + 1 + 1 = ba
  generalize w2.heap.size + 1 = bt
  generalize w2.heap.size = b5
  intro HS
  go_loopg [9] 200 (fun kq v9 w' => ∃ (i : Nat) (ks : List Nat), v9 = .int .i64 (i : Int) ∧ i + kq = 200 ∧ Aside0 (Inv w w' g bt b5 ba bl ks))
  case atStart => exact ⟨0, [], rfl, rfl, HS⟩
  case round =>
    clear HS
    obtain ⟨i, ks, rfl, hik, HS⟩ := hrel
    by_cases h1 : i < l.length ∧ i < 200
    · obtain ⟨m, rfl⟩ : ∃ m, gk = m + 1 := ⟨gk - 1, by omega⟩
      have d1 : decide ((i : Int) < (l.length : Int)) = true := by simp; exact h1.1
      have d2 : decide ((i : Int) < 200) = true := by simp; omega
      have p1 : 0 ≤ (i : Int) := by omega
      have q1 : (i : Int) < (l.length : Int) := by omega
      have e1 : (i : Int).toNat = i := Int.toNat_natCast i
      obtain ⟨ad, rfl, hx0, hx1, hx2, hx3⟩ := at29 hr i h1.1
      have hXr := hV (rd29 l i) (by unfold rd29; rw [List.getD_eq_getElem?_getD, List.getElem?_eq_getElem h1.1]; exact List.getElem_mem h1.1)
      have HB := HS.out.1.2.2.2.2.2.1
      replace hx0 := (HB.cell (World.block_lt_of_cell? w _ hx0)).trans hx0
      replace hx1 := (HB.cell (World.block_lt_of_cell? w _ hx1)).trans hx1
      replace hx2 := (HB.cell (World.block_lt_of_cell? w _ hx2)).trans hx2
      replace hx3 := (HB.cell (World.block_lt_of_cell? w _ hx3)).trans hx3
      replace p1 := eq_true p1
      replace q1 := eq_true q1
      clear HB
      go_upto_region 13 with fail
      have hO := heap_alloc_new wr (.cells #[.int .i64 (rd29 l i).f0, .int .i64 (rd29 l i).f1, .bool (rd29 l i).f2, .string (rd29 l i).f3] 29)
      replace HS := Aside0.mk (show Inv w _ g bt b5 ba bl ks from ⟨HS.out.1.below (below_alloc (Below.refl wr.heap.size wr) (.cells #[.int .i64 (rd29 l i).f0, .int .i64 (rd29 l i).f1, .bool (rd29 l i).f2, .string (rd29 l i).f3] 29)), HS.out.2⟩)
      clear hx0 hx1 hx2 hx3
      generalize hox : wr.heap.size = ox at *
      generalize wr.alloc (.cells #[.int .i64 (rd29 l i).f0, .int .i64 (rd29 l i).f1, .bool (rd29 l i).f2, .string (rd29 l i).f3] 29) = wa at *
      generalize rd29 l i = X at *
      have hkl := HS.out.2.2
      have hX0 := (blk_cell hO 0).trans rfl
      have hX1 := (blk_cell hO 1).trans rfl
      have hcl := HS.out.1.cell
      have hn1 : 1 + (ks.length : Int) ≠ 0 := by omega
      obtain ⟨at_, hat, hatl⟩ := pickR_in X.f1 (1 + (ks.length : Int)) hXr.1 hXr.2 (by omega)
      obtain ⟨k5, hk5, hk5l⟩ := pickR_in X.f1 5 hXr.1 hXr.2 (by omega)
      generalize hm6 : pickR X.f0 6 = m6
      have hq : IntKind.i64.wrap (1 + (ks.length : Int)) = 1 + (ks.length : Int) := IntWalk.i64_in _ (by omega)
      go_wp2_with fail
      refine (pick_any X.f1 (1 + (ks.length : Int)) _ hn1).mono ?_; rintro e w' ⟨rfl, rfl⟩; rw [hat]
      clear hq
      go_wp2_with fail
      refine (pick_any X.f0 6 _ (by decide)).mono ?_; rintro e w' ⟨rfl, rfl⟩; rw [hm6]
      go_upto_block 2 with fail
      have hks := HS.out.2.1
      have hSa := Aside0.mk HS.out.1
      go_cut [11] (fun s11 wx => ∃ ks' : List Nat, Aside0 (Inv w wx g bt b5 ba bl ks'))
      case first =>
        clear HS
        by_cases hsend : m6 = 0 ∨ m6 = 1 ∨ m6 = 2
        · have hc5 := cnt_le ks k5
          have hdp : decide (cnt ks k5 + 1 ≥ 0) = true := decide_eq_true (by omega)
          have hu1 : -1000 ≤ cnt ks k5 ∧ cnt ks k5 ≤ 1000 := by omega
          have hl1 : -1000 ≤ (ks.length : Int) ∧ (ks.length : Int) ≤ 1000 := by omega
          have hk5b : k5 < 5 := by omega
          have hk50 : (0 : Int) ≤ (k5 : Int) := by omega
          have hk51 : (k5 : Int) < 5 := hk5l
          have hk52 : (k5 : Int).toNat = k5 := Int.toNat_natCast k5
          have hct := (blk_cell hSa.out.2.1 0).trans rfl
          have hc5k := (blk_cell hSa.out.2.2.1 k5).trans (TT_get k5 hk5b)
          go_upto_if 74 with fail
          go_cut [74] (fun s74 wx => s74 = .bool true ∧ wx = wa)
          case first =>
            rcases hsend with h | h | h
            · subst h
              go_wp2_with fail
              go_meet
              exact ⟨rfl, rfl⟩
            · subst h
              go_wp2_with fail
              go_meet
              exact ⟨rfl, rfl⟩
            · subst h
              go_wp2_with fail
              go_meet
              exact ⟨rfl, rfl⟩
          case rest =>
            obtain ⟨rfl, rfl⟩ := hcut
            go_upto_region 21 with fail
            go_region_held3 (fun w' => w'.cell? ⟨bt, 0, none⟩ = some (.slice (some ⟨b5, 0, none⟩) 5 5) ∧ w'.cell? ⟨ox, 1, none⟩ = some (.int .i64 X.f1) ∧ w'.cell? ⟨b5, k5, none⟩ = some (.string (tx k5))) (first | exact ⟨hct, hX1, hc5k⟩ | assumption) (first | (go_at_call 9; refine (pick_any X.f1 5 _ (by decide)).mono ?_; rintro e w' ⟨rfl, rfl⟩; rw [hk5]))
            clear hk50 hk51 hk52 hct hX1 hX0 hc5k
            replace hSa := Aside0.mk (hSa.out.below (below_drew (Below.refl _ _)))
            generalize wc.drew = wb at *
            go_upto_region 22 with fail
            have hcl := hSa.out.cell
            by_cases hf : ks.length < 64
            · have df : decide (ks.length < 64) = true := by simp; omega
              have dg : decide ((ks.length : Int) < 64) = true := by simp; omega
              have hS0 := hSa.out.below (below_drew (Below.refl _ _))
              go_region_with (first | (go_at_call 11; refine (Send_s k5 hS0).mono ?_; rintro e w4 ⟨rfl, hS4⟩; rw [df]; have hcl4 := hS4.cell) | (go_at_call 22; refine (count_s k5 1 hk5b hu1 hl1 (by decide) hS4).mono ?_; rintro e w5 ⟨rfl, hS5⟩; rw [hdp]))
              all_goals go_wp2_with fail
              all_goals go_meet
              all_goals exact ⟨_, Aside0.mk (fin_add hS5 hks hk5b hf)⟩
            · have df : decide (ks.length < 64) = false := by simp; omega
              have dg : decide ((ks.length : Int) < 64) = false := by simp; omega
              have hS0 := hSa.out.below (below_drew (Below.refl _ _))
              refine wp_region_held_drew (S := fun w' => w'.cell? ⟨bl, 0, none⟩ = some (.int .i64 (ks.length : Int))) (by kernel_rfl) hcl (fun hHeld => ?_)
              refine wpAnyH_take (i := 0) (oi := { dst := some 84, op := Op.move (Operand.tmp 4), type := 24, pos := "law.go:110", after := #[], guard := none }) (v := .pointer (some ⟨g, 0, none⟩)) rfl (by kernel_rfl) (by kernel_rfl) (by kernel_rfl) (fun _ _ _ h => h) (Or.inl ⟨by rfl, fun w hSw => by go_simp⟩) (by assumption) ?_
              simp only [Act.put, List.setIfInBounds_toArray, List.set_cons_zero, List.set_cons_succ]
              refine wpAnyH_take (i := 1) (oi := { dst := some 85, op := Op.move (Operand.tmp 12), type := 9, pos := "law.go:110", after := #[], guard := none }) (v := .string (tx k5)) rfl (by kernel_rfl) (by kernel_rfl) (by kernel_rfl) (fun _ _ _ h => h) (Or.inl ⟨by rfl, fun w hSw => by go_simp⟩) (by assumption) ?_
              simp only [Act.put, List.setIfInBounds_toArray, List.set_cons_zero, List.set_cons_succ]
              refine wpAnyH_take (i := 3) (oi := { dst := some 87, op := Op.load 3 (Operand.tmp 7), type := 3, pos := "law.go:110", after := #[], guard := none }) (v := .int .i64 (ks.length : Int)) rfl (by kernel_rfl) (by kernel_rfl) (by kernel_rfl) (fun _ _ _ h => h) (Or.inl ⟨by rfl, fun w hSw => by go_simp⟩) (by assumption) ?_
              simp only [Act.put, List.setIfInBounds_toArray, List.set_cons_zero, List.set_cons_succ]
              refine wpAnyH_take (i := 4) (oi := { dst := some 88, op := Op.binOp BinOp.lss 3 (Operand.tmp 87) (Operand.const (Value.int IntKind.i64 64)) 3, type := 4, pos := "law.go:110", after := #[{ on := 3, ground := Ground.data }], guard := none }) (v := .bool false) rfl (by kernel_rfl) (by kernel_rfl) (by kernel_rfl) (fun _ _ _ h => h) (Or.inl ⟨by rfl, fun w hSw => by go_simp⟩) (by assumption) ?_
              simp only [Act.put, List.setIfInBounds_toArray, List.set_cons_zero, List.set_cons_succ]
              refine wpAnyH_ready (rs := [2]) (by kernel_rfl) (by simp) ?_
              refine AllReadyH.cons (o := { dst := some 86, op := Op.call { callee := Callee.value (Operand.func 11), args := #[Operand.tmp 84, Operand.tmp 85], argTypes := #[24, 9] }, type := 4, pos := "law.go:110", after := #[{ on := 0, ground := Ground.data }, { on := 1, ground := Ground.data }], guard := none }) rfl (fun K hK => ?_) AllReadyH.nil
              go_simp
              go_at_call 11; refine (Send_s k5 hS0).mono ?_; rintro e w4 ⟨rfl, hS4⟩; rw [df]; have hcl4 := hS4.cell
              go_wp2_with fail
              refine hK.out _ _ hcl4 (fun hHeld => ?_)
              clear hK K
              try simp only [Act.put, List.setIfInBounds_toArray, List.set_cons_zero, List.set_cons_succ]
              refine wpAnyH_take (i := 5) (oi := { dst := some 89, op := Op.binOp BinOp.neq 4 (Operand.tmp 86) (Operand.tmp 88) 4, type := 4, pos := "law.go:110", after := #[{ on := 2, ground := Ground.data }, { on := 4, ground := Ground.data }], guard := none }) (v := .bool false) rfl (by kernel_rfl) (by kernel_rfl) (by kernel_rfl) (fun _ _ _ h => h) (Or.inl ⟨by rfl, fun w hSw => by go_simp⟩) (by assumption) ?_
              simp only [Act.put, List.setIfInBounds_toArray, List.set_cons_zero, List.set_cons_succ]
              refine wpAnyH_take (i := 6) (oi := { dst := some 90, op := Op.move (Operand.tmp 89), type := 4, pos := "law.go:110", after := #[{ on := 5, ground := Ground.data }, { on := 2, ground := Ground.chain }], guard := none }) (v := .bool false) rfl (by kernel_rfl) (by kernel_rfl) (by kernel_rfl) (fun _ _ _ h => h) (Or.inl ⟨by rfl, fun w hSw => by go_simp⟩) (by assumption) ?_
              simp only [Act.put, List.setIfInBounds_toArray, List.set_cons_zero, List.set_cons_succ]
              refine wpAnyH_take (i := 7) (oi := { dst := some 91, op := Op.load 3 (Operand.tmp 7), type := 3, pos := "law.go:110", after := #[{ on := 6, ground := Ground.guard }], guard := some (6, false) }) (v := .int .i64 (ks.length : Int)) rfl (by kernel_rfl) (by kernel_rfl) (by kernel_rfl) (fun _ _ _ h => h) (Or.inl ⟨by rfl, fun w hSw => by go_simp⟩) (by assumption) ?_
              simp only [Act.put, List.setIfInBounds_toArray, List.set_cons_zero, List.set_cons_succ]
              refine wpAnyH_take (i := 8) (oi := { dst := some 92, op := Op.binOp BinOp.lss 3 (Operand.tmp 91) (Operand.const (Value.int IntKind.i64 64)) 3, type := 4, pos := "law.go:110", after := #[{ on := 7, ground := Ground.data }, { on := 6, ground := Ground.guard }], guard := some (6, false) }) (v := .bool false) rfl (by kernel_rfl) (by kernel_rfl) (by kernel_rfl) (fun _ _ _ h => h) (Or.inl ⟨by rfl, fun w hSw => by go_simp⟩) (by assumption) ?_
              simp only [Act.put, List.setIfInBounds_toArray, List.set_cons_zero, List.set_cons_succ]
              refine wpAnyH_take (i := 9) (oi := { dst := some 93, op := Op.move (Operand.tmp 92), type := 4, pos := "law.go:110", after := #[{ on := 8, ground := Ground.data }, { on := 6, ground := Ground.chain }, { on := 6, ground := Ground.guard }], guard := some (6, false) }) (v := .bool false) rfl (by kernel_rfl) (by kernel_rfl) (by kernel_rfl) (fun _ _ _ h => h) (Or.inl ⟨by rfl, fun w hSw => by go_simp⟩) (by assumption) ?_
              simp only [Act.put, List.setIfInBounds_toArray, List.set_cons_zero, List.set_cons_succ]
              refine wpAnyH_take (i := 10) (oi := { dst := some 94, op := Op.move (Operand.tmp 8), type := 39, pos := "law.go:110", after := #[{ on := 9, ground := Ground.guard }], guard := some (9, true) }) (v := undef) rfl (by kernel_rfl) (by kernel_rfl) (by kernel_rfl) (fun _ _ _ h => h) (Or.inr ⟨by rfl, rfl⟩) (by assumption) ?_
              simp only [Act.put, List.setIfInBounds_toArray, List.set_cons_zero, List.set_cons_succ]
              refine wpAnyH_take (i := 11) (oi := { dst := some 95, op := Op.move (Operand.tmp 12), type := 9, pos := "law.go:110", after := #[{ on := 9, ground := Ground.guard }], guard := some (9, true) }) (v := undef) rfl (by kernel_rfl) (by kernel_rfl) (by kernel_rfl) (fun _ _ _ h => h) (Or.inr ⟨by rfl, rfl⟩) (by assumption) ?_
              simp only [Act.put, List.setIfInBounds_toArray, List.set_cons_zero, List.set_cons_succ]
              refine wpAnyH_ready (rs := [12]) (by kernel_rfl) (by simp) ?_
              refine AllReadyH.cons (o := { dst := some 96, op := Op.call { callee := Callee.value (Operand.tmp 94), args := #[Operand.tmp 95, Operand.const (Value.int IntKind.i64 1)], argTypes := #[9, 3] }, type := 4, pos := "law.go:110", after := #[{ on := 10, ground := Ground.data }, { on := 11, ground := Ground.data }, { on := 9, ground := Ground.chain }, { on := 9, ground := Ground.guard }], guard := some (9, true) }) rfl (fun K hK => ?_) AllReadyH.nil
              go_simp
              refine hK.out _ _ hcl4 (fun hHeld => ?_)
              clear hK K
              try simp only [Act.put, List.setIfInBounds_toArray, List.set_cons_zero, List.set_cons_succ]
              refine wpAnyH_take (i := 13) (oi := { dst := some 97, op := Op.unOp UnOp.not 4 (Operand.tmp 96), type := 4, pos := "law.go:110", after := #[{ on := 12, ground := Ground.data }, { on := 9, ground := Ground.guard }], guard := some (9, true) }) (v := undef) rfl (by kernel_rfl) (by kernel_rfl) (by kernel_rfl) (fun _ _ _ h => h) (Or.inr ⟨by rfl, rfl⟩) (by assumption) ?_
              simp only [Act.put, List.setIfInBounds_toArray, List.set_cons_zero, List.set_cons_succ]
              refine wpAnyH_take (i := 14) (oi := { dst := some 98, op := Op.pick (Operand.tmp 93) (Operand.tmp 97) (Operand.const (Value.bool false)), type := 4, pos := "law.go:110", after := #[{ on := 9, ground := Ground.data }, { on := 13, ground := Ground.data }, { on := 6, ground := Ground.guard }], guard := some (6, false) }) (v := .bool false) rfl (by kernel_rfl) (by kernel_rfl) (by kernel_rfl) (fun _ _ _ h => h) (Or.inl ⟨by rfl, fun w hSw => by go_simp⟩) (by assumption) ?_
              simp only [Act.put, List.setIfInBounds_toArray, List.set_cons_zero, List.set_cons_succ]
              refine wpAnyH_take (i := 15) (oi := { dst := some 99, op := Op.pick (Operand.tmp 90) (Operand.const (Value.bool true)) (Operand.tmp 98), type := 4, pos := "law.go:110", after := #[{ on := 6, ground := Ground.data }, { on := 14, ground := Ground.data }], guard := none }) (v := .bool false) rfl (by kernel_rfl) (by kernel_rfl) (by kernel_rfl) (fun _ _ _ h => h) (Or.inl ⟨by rfl, fun w hSw => by go_simp⟩) (by assumption) ?_
              simp only [Act.put, List.setIfInBounds_toArray, List.set_cons_zero, List.set_cons_succ]
              refine wpAnyH_done (by kernel_rfl) ?_ _
              all_goals go_wp2_with fail
              all_goals go_meet
              all_goals exact ⟨_, Aside0.mk (fin_full hS4 hks hkl hf)⟩
        by_cases hv : at_ < ks.length
        · have dlt : decide ((at_ : Int) < (ks.length : Int)) = true := by simp; omega
          have hkx := getD_lt ks hks at_ hv
          have hc1 := cnt_le ks (ks.getD at_ 0)
          have hc2 := cnt_pos ks at_ hv
          have hdm : decide (cnt ks (ks.getD at_ 0) + -1 ≥ 0) = true := decide_eq_true (by omega)
          have hdp : decide (cnt ks (ks.getD at_ 0) + 1 ≥ 0) = true := decide_eq_true (by omega)
          have hu1 : -1000 ≤ cnt ks (ks.getD at_ 0) ∧ cnt ks (ks.getD at_ 0) ≤ 1000 := by omega
          have hl1 : -1000 ≤ (ks.length : Int) ∧ (ks.length : Int) ≤ 1000 := by omega
          rcases (show m6 = 3 ∨ m6 = 4 ∨ (m6 ≠ 0 ∧ m6 ≠ 1 ∧ m6 ≠ 2 ∧ m6 ≠ 3 ∧ m6 ≠ 4) from by omega) with h | h | ⟨h, h2, h3, h4, h5⟩
          · subst h
            generalize hkk : ks.getD at_ 0 = kk at *
            go_wp2_with (first | (go_at_call 13; refine (Take_s at_ hv hSa.out).mono ?_; rintro e w4 ⟨rfl, hS4⟩; rw [hkk]; have hcl4 := hS4.cell) | (go_at_call 22; refine (count_s kk (-1) hkx hu1 hl1 (by decide) hS4).mono ?_; rintro e w5 ⟨rfl, hS5⟩; rw [hdm]))
            go_meet
            subst hkk
            exact ⟨_, Aside0.mk (fin_rm hS5 hks hv hkl)⟩
          · subst h
            generalize hkk : ks.getD at_ 0 = kk at *
            by_cases hf : ks.length < 64
            · have df : decide (ks.length < 64) = true := by simp; omega
              have dg : decide ((ks.length : Int) ≥ 64) = false := by simp; omega
              go_wp2_with (first | (go_at_call 19; refine (Look_s at_ hv hSa.out).mono ?_; rintro e w4 ⟨rfl, hS4⟩; rw [hkk]; have hcl4 := hS4.cell) | (go_at_call 15; refine (Copy_s at_ hv hS4).mono ?_; rintro e w5 ⟨rfl, hS5⟩; rw [df]; rw [hkk] at hS5) | (go_at_call 22; refine (count_s kk 1 hkx hu1 hl1 (by decide) hS5).mono ?_; rintro e w6 ⟨rfl, hS6⟩; rw [hdp]))
              go_meet
              exact ⟨_, Aside0.mk (fin_add hS6 hks hkx hf)⟩
            · have df : decide (ks.length < 64) = false := by simp; omega
              have dg : decide ((ks.length : Int) ≥ 64) = true := by simp; omega
              go_wp2_with (first | (go_at_call 19; refine (Look_s at_ hv hSa.out).mono ?_; rintro e w4 ⟨rfl, hS4⟩; rw [hkk]; have hcl4 := hS4.cell) | (go_at_call 15; refine (Copy_s at_ hv hS4).mono ?_; rintro e w5 ⟨rfl, hS5⟩; rw [df]; rw [hkk] at hS5))
              go_meet
              exact ⟨_, Aside0.mk (fin_full hS5 hks hkl hf)⟩
          · have b0 : (m6 == 0) = false := beq_eq_false_iff_ne.mpr h
            have b1 : (m6 == 1) = false := beq_eq_false_iff_ne.mpr h2
            have b2 : (m6 == 2) = false := beq_eq_false_iff_ne.mpr h3
            have b3 : (m6 == 3) = false := beq_eq_false_iff_ne.mpr h4
            have b4 : (m6 == 4) = false := beq_eq_false_iff_ne.mpr h5
            generalize hkk : ks.getD at_ 0 = kk at *
            go_wp2_with (first | (go_at_call 19; refine (Look_s at_ hv hSa.out).mono ?_; rintro e w4 ⟨rfl, hS4⟩; rw [hkk]; have hcl4 := hS4.cell) | (go_at_call 17; refine (Drop_s at_ hv hS4).mono ?_; rintro e w5 ⟨rfl, hS5⟩) | (go_at_call 22; refine (count_s kk (-1) hkx hu1 hl1 (by decide) hS5).mono ?_; rintro e w6 ⟨rfl, hS6⟩; rw [hdm]))
            go_meet
            subst hkk
            exact ⟨_, Aside0.mk (fin_rm hS6 hks hv hkl)⟩
        · have dlt : decide ((at_ : Int) < (ks.length : Int)) = false := by simp; omega
          have hno : ¬ (0 ≤ (at_ : Int) ∧ (at_ : Int) < ks.length) := by omega
          rcases (show m6 = 3 ∨ m6 = 4 ∨ (m6 ≠ 0 ∧ m6 ≠ 1 ∧ m6 ≠ 2 ∧ m6 ≠ 3 ∧ m6 ≠ 4) from by omega) with h | h | ⟨h, h2, h3, h4, h5⟩
          · subst h
            go_wp2_with (first | (go_at_call 13; refine (Take_n at_ hno hSa.out).mono ?_; rintro e w4 ⟨rfl, hS4⟩; have hcl4 := hS4.cell))
            go_meet
            exact ⟨_, Aside0.mk ⟨hS4, hks, hkl⟩⟩
          · subst h
            cases hfl : decide ((ks.length : Int) ≥ 64) with
            | true =>
              go_wp2_with (first | (go_at_call 19; refine (Look_n at_ hno hSa.out).mono ?_; rintro e w4 ⟨rfl, hS4⟩; have hcl4 := hS4.cell) | (go_at_call 15; refine (Copy_n at_ hno hS4).mono ?_; rintro e w5 ⟨rfl, hS5⟩))
              go_meet
              exact ⟨_, Aside0.mk ⟨hS5, hks, hkl⟩⟩
            | false =>
              go_wp2_with (first | (go_at_call 19; refine (Look_n at_ hno hSa.out).mono ?_; rintro e w4 ⟨rfl, hS4⟩; have hcl4 := hS4.cell) | (go_at_call 15; refine (Copy_n at_ hno hS4).mono ?_; rintro e w5 ⟨rfl, hS5⟩))
              go_meet
              exact ⟨_, Aside0.mk ⟨hS5, hks, hkl⟩⟩
          · have b0 : (m6 == 0) = false := beq_eq_false_iff_ne.mpr h
            have b1 : (m6 == 1) = false := beq_eq_false_iff_ne.mpr h2
            have b2 : (m6 == 2) = false := beq_eq_false_iff_ne.mpr h3
            have b3 : (m6 == 3) = false := beq_eq_false_iff_ne.mpr h4
            have b4 : (m6 == 4) = false := beq_eq_false_iff_ne.mpr h5
            go_wp2_with (first | (go_at_call 19; refine (Look_n at_ hno hSa.out).mono ?_; rintro e w4 ⟨rfl, hS4⟩; have hcl4 := hS4.cell) | (go_at_call 17; refine (Drop_n at_ hno hS4).mono ?_; rintro e w5 ⟨rfl, hS5⟩))
            go_meet
            exact ⟨_, Aside0.mk ⟨hS5, hks, hkl⟩⟩
      case rest =>
        clear HS hks hSa hcl hkl hat hatl hn1
        obtain ⟨ks', HS⟩ := hcut
        have hcl := HS.out.1.cell
        go_wp2_with fail
        have hS0 := HS.out.1.below (below_drew (Below.refl _ _))
        go_region_held3 (fun w' => w'.cell? ⟨bl, 0, none⟩ = some (.int .i64 (ks'.length : Int))) (exact hcl) (first | (go_at_call 21; refine (Len_s hS0).mono ?_; rintro e w' ⟨rfl, rfl⟩))
        go_wp2_with fail
        go_roundg m
        case measure => omega
        case rel => exact ⟨i + 1, ks', by rw [Int.natCast_add]; rfl, by omega, Aside0.mk ⟨hS0, HS.out.2⟩⟩
    · by_cases h2 : i < l.length
      · have d1 : decide ((i : Int) < (l.length : Int)) = true := by simp; exact h2
        have d2 : decide ((i : Int) < 200) = false := by simp; omega
        go_wp2_with fail
        go_loopg [20] ks.length (fun kq v20 w' => ∃ ks' : List Nat, ks'.length = kq ∧ Aside0 (Inv w w' g bt b5 ba bl ks'))
        case atStart => exact ⟨ks, rfl, HS⟩
        case round =>
          clear HS
          obtain ⟨kz, hkz, HS⟩ := hrel
          have hS1 := HS.out.1
          by_cases h3 : 0 < kz.length
          · obtain ⟨m, rfl⟩ : ∃ m, gk = m + 1 := ⟨gk - 1, by omega⟩
            have d3 : decide ((kz.length : Int) > 0) = true := by simp; omega
            have hks := HS.out.2.1
            have hkl := HS.out.2.2
            have hkx := getD_lt kz hks 0 h3
            have hc1 := cnt_le kz (kz.getD 0 0)
            have hc2 := cnt_pos kz 0 h3
            have hdm : decide (cnt kz (kz.getD 0 0) + -1 ≥ 0) = true := decide_eq_true (by omega)
            have hu1 : -1000 ≤ cnt kz (kz.getD 0 0) ∧ cnt kz (kz.getD 0 0) ≤ 1000 := by omega
            have hl1 : -1000 ≤ (kz.length : Int) ∧ (kz.length : Int) ≤ 1000 := by omega
            generalize hkk : kz.getD 0 0 = kk at *
            go_wp2_with (first | (go_at_call 21; refine (Len_s hS1).mono ?_; rintro e w6 ⟨rfl, rfl⟩) | (go_at_call 13; refine (Take_s 0 h3 hS1).mono ?_; rintro e w4 ⟨rfl, hS4⟩; rw [hkk]) | (go_at_call 22; refine (count_s kk (-1) hkx hu1 hl1 (by decide) hS4).mono ?_; rintro e w5 ⟨rfl, hS5⟩; rw [hdm]))
            go_roundg m
            case measure => omega
            case rel =>
              subst hkk
              have hmm : kz.length - 1 = m := by omega
              exact ⟨kz.eraseIdx 0, (List.length_eraseIdx_of_lt h3).trans hmm, Aside0.mk (fin_rm hS5 hks h3 hkl)⟩
          · have d3 : decide ((kz.length : Int) > 0) = false := decide_eq_false (by omega)
            have hcl := hS1.cell
            rw [show (kz.length : Int) = 0 from (by have h4 : kz.length = 0 := Nat.le_zero.1 (Nat.not_lt.1 h3); rw [h4]; rfl)] at hcl
            go_wp2_with (first | (go_at_call 21; refine (Len_s hS1).mono ?_; rintro e w6 ⟨rfl, rfl⟩))
            go_ret
            exact ⟨rfl, hS1.2.2.2.2.2.1⟩
      · have d1 : decide ((i : Int) < (l.length : Int)) = false := by simp; omega
        go_wp2_with fail
        go_loopg [20] ks.length (fun kq v20 w' => ∃ ks' : List Nat, ks'.length = kq ∧ Aside0 (Inv w w' g bt b5 ba bl ks'))
        case atStart => exact ⟨ks, rfl, HS⟩
        case round =>
          clear HS
          obtain ⟨kz, hkz, HS⟩ := hrel
          have hS1 := HS.out.1
          by_cases h3 : 0 < kz.length
          · obtain ⟨m, rfl⟩ : ∃ m, gk = m + 1 := ⟨gk - 1, by omega⟩
            have d3 : decide ((kz.length : Int) > 0) = true := by simp; omega
            have hks := HS.out.2.1
            have hkl := HS.out.2.2
            have hkx := getD_lt kz hks 0 h3
            have hc1 := cnt_le kz (kz.getD 0 0)
            have hc2 := cnt_pos kz 0 h3
            have hdm : decide (cnt kz (kz.getD 0 0) + -1 ≥ 0) = true := decide_eq_true (by omega)
            have hu1 : -1000 ≤ cnt kz (kz.getD 0 0) ∧ cnt kz (kz.getD 0 0) ≤ 1000 := by omega
            have hl1 : -1000 ≤ (kz.length : Int) ∧ (kz.length : Int) ≤ 1000 := by omega
            generalize hkk : kz.getD 0 0 = kk at *
            go_wp2_with (first | (go_at_call 21; refine (Len_s hS1).mono ?_; rintro e w6 ⟨rfl, rfl⟩) | (go_at_call 13; refine (Take_s 0 h3 hS1).mono ?_; rintro e w4 ⟨rfl, hS4⟩; rw [hkk]) | (go_at_call 22; refine (count_s kk (-1) hkx hu1 hl1 (by decide) hS4).mono ?_; rintro e w5 ⟨rfl, hS5⟩; rw [hdm]))
            go_roundg m
            case measure => omega
            case rel =>
              subst hkk
              have hmm : kz.length - 1 = m := by omega
              exact ⟨kz.eraseIdx 0, (List.length_eraseIdx_of_lt h3).trans hmm, Aside0.mk (fin_rm hS5 hks h3 hkl)⟩
          · have d3 : decide ((kz.length : Int) > 0) = false := decide_eq_false (by omega)
            have hcl := hS1.cell
            rw [show (kz.length : Int) = 0 from (by have h4 : kz.length = 0 := Nat.le_zero.1 (Nat.not_lt.1 h3); rw [h4]; rfl)] at hcl
            go_wp2_with (first | (go_at_call 21; refine (Len_s hS1).mono ?_; rintro e w6 ⟨rfl, rfl⟩))
            go_ret
            exact ⟨rfl, hS1.2.2.2.2.2.1⟩
theorem sent_walk (A : Option Addr) (c : Nat) (l : List S29) (w : World) (hr : Kd.C k29 w A l.length l) (hc : l.length ≤ c) {n B : Nat} {q q2 : S29 → Prop} (hV : l.length ≤ maxLen ∧ l.length * B ≤ n ∧ ∀ x ∈ l, ((Lit.int .i64 x.f0).wf = true ∧ (Lit.int .i64 x.f1).wf = true ∧ q x ∧ q2 x)) :
    Calls Try.prog 4 #[.slice A l.length c] w fun e w' => e = .returned (.bool true) ∧ Below w.heap.size w w' :=
  sentW A c l w hr hc (fun x hx => by
    have h := (hV.2.2 x hx).2.1
    have h2 := Bool.and_eq_true_iff.1 h
    exact ⟨of_decide_eq_true h2.1, of_decide_eq_true h2.2⟩)
end Go.Proofs.Ytoiilcljdepdaaa.Bg
