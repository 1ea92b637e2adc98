/- BagOrder: the walk. -/
import Derived.Test.YtoiilcljdepdaaaKd
namespace Go.Proofs.Ytoiilcljdepdaaa.Bg
set_option linter.unusedVariables false
set_option linter.unusedSimpArgs false
open Go.RowKit Go.Proofs.YtoiilcljdepdaaaW.PrintWords Go.Proofs.YtoiilcljdepdaaaW.PrintLast Go.Proofs.YtoiilcljdepdaaaW.PrintMore Go.Proofs.Ytoiilcljdepdaaa.PBagPlays
attribute [local go_sem] max2_int min2_int max_two min_two max_three min_three max_four min_four
def seg (ts : List ByteArray) (a b : Nat) : List ByteArray := (ts.take b).drop a
theorem seg_len (ts : List ByteArray) (a b : Nat) (hb : b ≤ ts.length) : (seg ts a b).length = b - a := by unfold seg; simp; omega
theorem seg_app (ts : List ByteArray) (a b : Nat) (h : a ≤ b) (hb : b < ts.length) : seg ts a b ++ [ts.getD b ByteArray.empty] = seg ts a (b + 1) := by
  unfold seg
  rw [List.take_add_one, List.getElem?_eq_getElem hb, List.drop_append_of_le_length (by simp; omega), List.getD_eq_getElem?_getD, List.getElem?_eq_getElem hb]; rfl
theorem seg_head (ts : List ByteArray) (a b : Nat) (h : a < b) (hb : b ≤ ts.length) : lookS (seg ts a b) 0 = ts.getD a ByteArray.empty ∧ lookB (seg ts a b) 0 = true ∧ rmL (seg ts a b) 0 = seg ts (a + 1) b := by
  have hl := seg_len ts a b hb
  have hv : (0 : Int) ≤ 0 ∧ (0 : Int) < (seg ts a b).length := by omega
  have he : seg ts a b = ts.getD a ByteArray.empty :: seg ts (a + 1) b := by
    unfold seg
    have ha : a < (ts.take b).length := by simp; omega
    rw [List.drop_eq_getElem_cons ha, List.getD_eq_getElem?_getD, List.getElem?_eq_getElem (by omega)]
    simp
  refine ⟨?_, by unfold lookB; exact decide_eq_true hv, ?_⟩
  · unfold lookS; rw [if_pos hv, he]; rfl
  · unfold rmL; rw [if_pos hv, he]; rfl
set_option maxHeartbeats 8000000 in
set_option maxRecDepth 100000 in
theorem order (A : Option Addr) (c : Nat) (ts : List ByteArray) (A2 : Option Addr) (c2 : Nat) (bs : List Int) (w : World) (hr : Kd.C Kd.string w A ts.length ts) (hc : ts.length ≤ c) {V : Prop} (_ : V) (hr2 : Kd.C (Kd.int .i64) w A2 bs.length bs) (hc2 : bs.length ≤ c2) {V2 : Prop} (_ : V2) :
    Calls Try.prog 5 #[.slice A ts.length c, .slice A2 bs.length c2] w fun e w' => e = .returned (.bool true) ∧ Below w.heap.size w w' := by
  have H := Below.refl w.heap.size w
  go_enter Try.func5, Try.ntmps5
  go_wp2_with fail
  refine (awake_any w _ H).mono ?_; rintro e w1 ⟨rfl, H⟩
  go_wp2_with fail
  refine (New1 w _ H).mono ?_; rintro e w2 ⟨g, rfl, HI, H, -⟩
  replace HI := Aside0.mk HI
  replace HB := Aside0.mk H
  clear H
  obtain ⟨n, hn, hn1, hn2⟩ : ∃ n : Nat, (if (64 : Int) < (ts.length : Int) then (64 : Int) else (ts.length : Int)) = (n : Int) ∧ n ≤ 64 ∧ n ≤ ts.length := by
    by_cases h : (64 : Int) < (ts.length : Int)
    · exact ⟨64, by rw [if_pos h]; rfl, by omega, by omega⟩
    · exact ⟨ts.length, by rw [if_neg h], by omega, by omega⟩
  go_upto_region 7 with fail
  go_wp2_with fail
  go_loopg [7, 9] n (fun kq v7 v9 w' => ∃ (o i : Nat), v7 = .int .i64 (o : Int) ∧ v9 = .int .i64 (i : Int) ∧ i + kq = n ∧ o ≤ i ∧ Aside0 (One w w' g (seg ts o i)) ∧ Aside0 (Below w.heap.size w w'))
  case atStart => exact ⟨0, 0, rfl, rfl, by omega, by omega, HI, HB⟩
  case round =>
    clear HI HB
    obtain ⟨o, i, rfl, rfl, hik, hoi, HI, HB⟩ := hrel
    by_cases h1 : i < n
    · obtain ⟨m, rfl⟩ : ∃ m, gk = m + 1 := ⟨gk - 1, by omega⟩
      have d1 : decide ((i : Int) < (n : Int)) = true := decide_eq_true (by omega)
      obtain ⟨ad, rfl, hx0⟩ := Kd.at_string hr (i : Int) (by omega) (by omega)
      rw [Int.toNat_natCast] at hx0
      have hx1 : w.cell? (ad.add i) = some (.string (ts.getD i ByteArray.empty)) := by rw [hx0, rdOf, Int.toNat_natCast]
      clear hx0
      obtain ⟨ad0, he0, hy0⟩ := Kd.at_string hr (o : Int) (by omega) (by omega)
      cases he0
      rw [Int.toNat_natCast] at hy0
      have hy1 : w.cell? (ad.add o) = some (.string (ts.getD o ByteArray.empty)) := by rw [hy0, rdOf, Int.toNat_natCast]
      clear hy0
      have hlx := World.block_lt_of_cell? w _ hx1
      have hly := World.block_lt_of_cell? w _ hy1
      have hx2 := (HB.out.cell hlx).trans hx1
      have e1 : (i : Int).toNat = i := Int.toNat_natCast i
      have e2 : (o : Int).toNat = o := Int.toNat_natCast o
      have p1 : (0 : Int) ≤ (i : Int) := by omega
      have q1 : (i : Int) < (ts.length : Int) := by omega
      have p2 : (0 : Int) ≤ (o : Int) := by omega
      have q2 : (o : Int) < (ts.length : Int) := by omega
      have hsl := seg_len ts o i (by omega)
      have hd64 : decide ((seg ts o i).length < 64) = true := decide_eq_true (by omega)
      have hsa : sent (seg ts o i) (ts.getD i ByteArray.empty) = seg ts o (i + 1) := by unfold sent; rw [if_pos (by omega)]; exact seg_app ts o i hoi (by omega)
      obtain ⟨f1, f2, f3⟩ := seg_head ts o (i + 1) (by omega) (by omega)
      have hsl2 := seg_len ts o (i + 1) (by omega)
      have hlp : decide (((seg ts o (i + 1)).length : Int) > 0) = true := decide_eq_true (by omega)
      have hmm : (i + 1) + m = n := by omega
      have ho1 : o ≤ i + 1 := by omega
      have ho2 : o + 1 ≤ i + 1 := by omega
      generalize hT : ts.getD i ByteArray.empty = T at *
      generalize hO : ts.getD o ByteArray.empty = O at *
      go_upto_region 12 with (first | (go_at_call 11; refine (Send1 g (seg ts o i) T w _ HI.out HB.out).mono ?_; rintro e w4 ⟨rfl, hi4, hb4, hk4⟩; rw [hd64]; rw [hsa] at hi4))
      have hy2 := (hb4.cell hly).trans hy1
      by_cases h2 : i < bs.length
      · have d2 : decide ((i : Int) < (bs.length : Int)) = true := decide_eq_true (by omega)
        have q3 : (i : Int) < (bs.length : Int) := by omega
        obtain ⟨ad2, rfl, hz0⟩ := Kd.at_int hr2 (i : Int) (by omega) (by omega)
        rw [Int.toNat_natCast] at hz0
        have hz2 := (hb4.cell (World.block_lt_of_cell? w _ hz0)).trans hz0
        generalize hm3 : pickR (rd bs i) 3 = m3
        by_cases h3 : m3 = 0
        · subst h3
          go_wp2_with (first | (go_at_call 9; refine (pick_any (rd bs i) 3 _ (by decide)).mono ?_; rintro e w' ⟨rfl, rfl⟩; rw [hm3]) | (go_at_call 21; refine (Len1 g _ w _ hi4).mono ?_; rintro e w' ⟨rfl, rfl⟩) | (go_at_call 13; refine (Take1 g _ 0 w _ hi4 hb4).mono ?_; rintro e w5 ⟨rfl, hi5, hb5, hk5⟩; rw [f1, f2]; rw [f3] at hi5; have hy3 := (hb5.cell hly).trans hy1))
          go_roundg m
          case measure => omega
          case rel => exact ⟨o + 1, i + 1, by rw [Int.natCast_add]; rfl, by rw [Int.natCast_add]; rfl, hmm, ho2, Aside0.mk hi5, Aside0.mk hb5⟩
        · have b3 : (m3 == 0) = false := beq_eq_false_iff_ne.mpr h3
          go_wp2_with (first | (go_at_call 9; refine (pick_any (rd bs i) 3 _ (by decide)).mono ?_; rintro e w' ⟨rfl, rfl⟩; rw [hm3]))
          go_roundg m
          case measure => omega
          case rel => exact ⟨o, i + 1, rfl, by rw [Int.natCast_add]; rfl, hmm, ho1, Aside0.mk hi4, Aside0.mk hb4⟩
      · have d2 : decide ((i : Int) < (bs.length : Int)) = false := decide_eq_false (by omega)
        go_wp2_with fail
        go_roundg m
        case measure => omega
        case rel => exact ⟨o, i + 1, rfl, by rw [Int.natCast_add]; rfl, hmm, ho1, Aside0.mk hi4, Aside0.mk hb4⟩
    · have d1 : decide ((i : Int) < (n : Int)) = false := decide_eq_false (by omega)
      have hin : i = n := by omega
      subst hin
      go_wp2_with fail
      go_loopg [7] (i - o) (fun kq v7 w' => ∃ (o : Nat), v7 = .int .i64 (o : Int) ∧ o + kq = i ∧ Aside0 (One w w' g (seg ts o i)) ∧ Aside0 (Below w.heap.size w w'))
      case atStart => exact ⟨o, rfl, by omega, HI, HB⟩
      case round =>
        clear HI HB
        obtain ⟨o2, rfl, hok, HI, HB⟩ := hrel
        by_cases h4 : o2 < i
        · obtain ⟨m, rfl⟩ : ∃ m, gk = m + 1 := ⟨gk - 1, by omega⟩
          have d4 : decide ((o2 : Int) < (i : Int)) = true := decide_eq_true (by omega)
          obtain ⟨ad, rfl, hy0⟩ := Kd.at_string hr (o2 : Int) (by omega) (by omega)
          rw [Int.toNat_natCast] at hy0
          have hy1 : w.cell? (ad.add o2) = some (.string (ts.getD o2 ByteArray.empty)) := by rw [hy0, rdOf, Int.toNat_natCast]
          clear hy0
          have hly := World.block_lt_of_cell? w _ hy1
          have e2 : (o2 : Int).toNat = o2 := Int.toNat_natCast o2
          have p2 : (0 : Int) ≤ (o2 : Int) := by omega
          have q2 : (o2 : Int) < (ts.length : Int) := by omega
          obtain ⟨f1, f2, f3⟩ := seg_head ts o2 i (by omega) (by omega)
          have hmm : (o2 + 1) + m = i := by omega
          generalize hO : ts.getD o2 ByteArray.empty = O at *
          go_wp2_with (first | (go_at_call 13; refine (Take1 g _ 0 w _ HI.out HB.out).mono ?_; rintro e w5 ⟨rfl, hi5, hb5, hk5⟩; rw [f1, f2]; rw [f3] at hi5; have hy3 := (hb5.cell hly).trans hy1))
          go_roundg m
          case measure => omega
          case rel => exact ⟨o2 + 1, by rw [Int.natCast_add]; rfl, hmm, Aside0.mk hi5, Aside0.mk hb5⟩
        · have d4 : decide ((o2 : Int) < (i : Int)) = false := decide_eq_false (by omega)
          have hz : (seg ts o2 i).length = 0 := by rw [seg_len ts o2 i (by omega)]; omega
          go_wp2_with (first | (go_at_call 21; refine (Len1 g _ w _ HI.out).mono ?_; rintro e w' ⟨rfl, rfl⟩; rw [hz]))
          go_ret
          exact ⟨rfl, HB.out⟩
end Go.Proofs.Ytoiilcljdepdaaa.Bg
