-- Written by a program of this session (mp.py, merge.py).
import Derived.Test.YtdgaancbeakfdaaDoorQx0
namespace Go.Proofs.YtdgaancbeakfdaaDoor.Q
open Go.RowKit Go.Proofs.YtdgaancbeakfdaaDoorW.PrintWords Go.Proofs.YtdgaancbeakfdaaDoorW.PrintLast Go.Proofs.YtdgaancbeakfdaaDoor.Mo
attribute [local go_sem] max2_int min2_int max_two min_two max_three min_three max_four min_four   -- for this text's walks alone
open Go.Proofs.YtdgaancbeakfdaaDoor.Giv Go.Proofs.YtdgaancbeakfdaaDoor.Gn
set_option linter.unusedVariables false
set_option linter.unusedSimpArgs false

theorem eqA42 (d : Nat) (w : World) (x0 y0 : ByteArray) (x1 y1 : ByteArray) (x2 y2 : Int) :
    (Op.equalIn (d + 2) 42 (.agg #[.string x0, .string x1, .int .i64 x2]) (.agg #[.string y0, .string y1, .int .i64 y2])).run Tryd.prog w = .ok (x0.toList == y0.toList && (x1.toList == y1.toList && (x2 == y2))) w := by
  refine eqA_of Tryd.underlying42 (by kernel_rfl) ?_
  refine eqf_cons (by rfl) (by go_simp; rfl) (by go_simp; rfl) (by go_simp) ?_
  refine eqf_cons (by rfl) (by go_simp; rfl) (by go_simp; rfl) (by go_simp) ?_
  exact eqf_last (by rfl) (by go_simp; rfl) (by go_simp; rfl) (by go_simp)
end Go.Proofs.YtdgaancbeakfdaaDoor.Q
namespace Go.Proofs.YtdgaancbeakfdaaDoor.Q
open Go.RowKit Go.Proofs.YtdgaancbeakfdaaDoorW.PrintWords Go.Proofs.YtdgaancbeakfdaaDoorW.PrintLast Go.Proofs.YtdgaancbeakfdaaDoor.Mo
attribute [local go_sem] max2_int min2_int max_two min_two max_three min_three max_four min_four   -- for this text's walks alone
open Go.Proofs.YtdgaancbeakfdaaDoor.Giv Go.Proofs.YtdgaancbeakfdaaDoor.Gn
set_option linter.unusedVariables false
set_option linter.unusedSimpArgs false

attribute [local go_sem high] eqA42
/-! ### billetlaw08_Same: function 39 -/
def billetlaw08_Same.l0 : Nat → List (S42) → List (S42) → Int → Option (Bool)
  | 0, _, _, _ => none
  | k + 1, x0, x1, x5 => if x5 < (x0.length : Int) then (if 0 ≤ x5 then (if x5 < (x1.length : Int) then (if (!((((rd_T42 x0 x5).f0).toList) == (((rd_T42 x1 x5).f0).toList)) || (!((((rd_T42 x0 x5).f1).toList) == (((rd_T42 x1 x5).f1).toList)) || (!(((rd_T42 x0 x5).f2) == ((rd_T42 x1 x5).f2))))) = true then (some false) else (billetlaw08_Same.l0 k x0 x1 (wrap64 (x5 + 1)))) else (none)) else (none)) else (some true)
def billetlaw08_Same.f (k : Nat) (l0 : List (S42)) (l1 : List (S42)) : Option (Bool) := if (l0.length : Int) = (l1.length : Int) then (billetlaw08_Same.l0 k l0 l1 0) else (some false)
theorem billetlaw08_Same.mono_l : ∀ k, (∀ y0 y1 y2, LeO (billetlaw08_Same.l0 k y0 y1 y2) (billetlaw08_Same.l0 (k + 1) y0 y1 y2))
  | 0 => fun _ _ _ r h => by simp [billetlaw08_Same.l0] at h
  | k + 1 => by
    have ih0 := billetlaw08_Same.mono_l k
    · intro y0 y1 y2
      unfold billetlaw08_Same.l0
      repeat' first
      | (with_reducible exact ih0 _ _ _)
      | (with_reducible exact LeO.refl _)
      | (with_reducible exact LeO.none _)
      | (with_reducible refine LeO.ite ?_ ?_)
      | (with_reducible refine LeO.bind ?_ (fun _ => ?_))
      | exact ih0 _ _ _
      | exact LeO.none _
      | refine LeO.ite ?_ ?_
      | refine LeO.bind ?_ (fun _ => ?_)
theorem billetlaw08_Same.mono : ∀ a0 a1 k, LeO (billetlaw08_Same.f k a0 a1) (billetlaw08_Same.f (k + 1) a0 a1) := by
  intro a0 a1 k
  have ih0 := billetlaw08_Same.mono_l k
  unfold billetlaw08_Same.f
  repeat' first
      | (with_reducible exact ih0 _ _ _)
      | (with_reducible exact LeO.refl _)
      | (with_reducible exact LeO.none _)
      | (with_reducible refine LeO.ite ?_ ?_)
      | (with_reducible refine LeO.bind ?_ (fun _ => ?_))
      | exact ih0 _ _ _
      | exact LeO.none _
      | refine LeO.ite ?_ ?_
      | refine LeO.bind ?_ (fun _ => ?_)
set_option maxHeartbeats 8000000 in
set_option maxRecDepth 100000 in
theorem billetlaw08_Same.calls (k : Nat) (A0 : Option Addr) (c0 : Nat) (l0 : List (S42)) (A1 : Option Addr) (c1 : Nat) (l1 : List (S42)) (r : Bool) (w : World) (hr0 : Kd.C k42 w A0 l0.length l0) (hc0 : l0.length ≤ c0) (hr1 : Kd.C k42 w A1 l1.length l1) (hc1 : l1.length ≤ c1) (h : billetlaw08_Same.f k l0 l1 = some r) :
    Calls Tryd.prog 39 #[.slice A0 l0.length c0, .slice A1 l1.length c1] w fun e w' => e = .returned (.bool r) ∧ Drawn0 w w' := by
  have hu42 := Tryd.underlying42
  have HR0 := Aside0.mk hr0
  have HC0 := Aside0.mk hc0
  clear hr0 hc0
  have HR1 := Aside0.mk hr1
  have HC1 := Aside0.mk hc1
  clear hr1 hc1
  have H : (if (l0.length : Int) = (l1.length : Int) then (billetlaw08_Same.l0 k l0 l1 0) else (some false)) = some r := h
  clear h
  by_cases c3 : (l0.length : Int) = (l1.length : Int)
  · rw [if_pos c3] at H
    have c3b0 : ((l0.length : Int) == (l1.length : Int)) = true := beq_iff_eq.mpr c3
    have c3b1 : ((l0.length : Int) != (l1.length : Int)) = false := bne_eq_false_iff_eq.mpr c3
    have c3b2 : (l0.length == l1.length) = true := by first | simpa using c3 | (simp at c3 ⊢; omega)
    clear c3
    have H' := Aside0.mk H
    clear H
    go_enter Tryd.func39, Tryd.ntmps39
    go_wp2
    repeat (go_quiet (fail); try go_wp2)
    go_loopg [5] k (fun kq v5 w' => ∃ (x5_1 : Int), v5 = .int .i64 x5_1 ∧ Aside0 (billetlaw08_Same.l0 kq l0 l1 x5_1 = some r) ∧ Aside0 (kq ≤ k) ∧ Drawn0 w w')
    case atStart => exact ⟨(0), (by first | rfl | (simp; done) | (simp [*]; done)), H', ⟨Nat.le_refl _⟩, by repeat (first | exact Drawn0.refl _ | apply Drawn0.step)⟩
    case round =>
      clear H'
      clear c3b0 c3b1 c3b2
      obtain ⟨x5_1, rfl, HA, HK1, ⟨m1, rfl⟩⟩ := hrel
      cases gk with
      | zero => exact absurd HA.out (by simp [billetlaw08_Same.l0])
      | succ k1 =>
        have H := HA.out
        clear HA
        simp only [billetlaw08_Same.l0] at H
        by_cases c4 : x5_1 < (l0.length : Int)
        · rw [if_pos c4] at H
          have c4b0 : decide (x5_1 < (l0.length : Int)) = true := decide_eq_true c4
          clear c4
          by_cases c5 : 0 ≤ x5_1
          · rw [if_pos c5] at H
            have c5b0 : decide (0 ≤ x5_1) = true := decide_eq_true c5
            clear c5
            by_cases c6 : x5_1 < (l1.length : Int)
            · rw [if_pos c6] at H
              have c6b0 : decide (x5_1 < (l1.length : Int)) = true := decide_eq_true c6
              clear c6
              by_cases c7 : (!((((rd_T42 l0 x5_1).f0).toList) == (((rd_T42 l1 x5_1).f0).toList)) || (!((((rd_T42 l0 x5_1).f1).toList) == (((rd_T42 l1 x5_1).f1).toList)) || (!(((rd_T42 l0 x5_1).f2) == ((rd_T42 l1 x5_1).f2))))) = true
              · rw [if_pos c7] at H
                have c7b0 : (!((((rd_T42 l0 x5_1).f0).toList) == (((rd_T42 l1 x5_1).f0).toList)) || (!((((rd_T42 l0 x5_1).f1).toList) == (((rd_T42 l1 x5_1).f1).toList)) || (!(((rd_T42 l0 x5_1).f2) == ((rd_T42 l1 x5_1).f2))))) = true := c7
                clear c7
                obtain rfl := Option.some.inj H
                have p227 : 0 ≤ (x5_1 : Int) := of_decide_eq_true (by first | (with_reducible assumption) | assumption)
                have q227 : x5_1 < (l0.length : Int) := of_decide_eq_true (by first | (with_reducible assumption) | assumption)
                obtain ⟨ad227, e227, hx227_0, hx227_1, hx227_2⟩ := at_T42 HR0.out x5_1 p227 q227
                cases e227
                replace p227 := eq_true p227
                (try replace p227z := eq_true p227z)
                replace q227 := eq_true q227
                (try replace q227z := eq_true q227z)
                have p228 : 0 ≤ (x5_1 : Int) := of_decide_eq_true (by first | (with_reducible assumption) | assumption)
                have q228 : x5_1 < (l1.length : Int) := of_decide_eq_true (by first | (with_reducible assumption) | assumption)
                obtain ⟨ad228, e228, hx228_0, hx228_1, hx228_2⟩ := at_T42 HR1.out x5_1 p228 q228
                cases e228
                replace p228 := eq_true p228
                (try replace p228z := eq_true p228z)
                replace q228 := eq_true q228
                (try replace q228z := eq_true q228z)
                go_wp2
                repeat (go_quiet (fail); try go_wp2)
                go_ret
                exact ⟨by first | rfl | (simp; done) | (simp [*]; done), by repeat (first | exact Drawn0.refl _ | apply Drawn0.step)⟩
              · rw [if_neg c7] at H
                have c7b0 : (!((((rd_T42 l0 x5_1).f0).toList) == (((rd_T42 l1 x5_1).f0).toList)) || (!((((rd_T42 l0 x5_1).f1).toList) == (((rd_T42 l1 x5_1).f1).toList)) || (!(((rd_T42 l0 x5_1).f2) == ((rd_T42 l1 x5_1).f2))))) = false := by simpa using c7
                clear c7
                have H' := Aside0.mk H
                clear H
                have p227 : 0 ≤ (x5_1 : Int) := of_decide_eq_true (by first | (with_reducible assumption) | assumption)
                have q227 : x5_1 < (l0.length : Int) := of_decide_eq_true (by first | (with_reducible assumption) | assumption)
                obtain ⟨ad227, e227, hx227_0, hx227_1, hx227_2⟩ := at_T42 HR0.out x5_1 p227 q227
                cases e227
                replace p227 := eq_true p227
                (try replace p227z := eq_true p227z)
                replace q227 := eq_true q227
                (try replace q227z := eq_true q227z)
                have p228 : 0 ≤ (x5_1 : Int) := of_decide_eq_true (by first | (with_reducible assumption) | assumption)
                have q228 : x5_1 < (l1.length : Int) := of_decide_eq_true (by first | (with_reducible assumption) | assumption)
                obtain ⟨ad228, e228, hx228_0, hx228_1, hx228_2⟩ := at_T42 HR1.out x5_1 p228 q228
                cases e228
                replace p228 := eq_true p228
                (try replace p228z := eq_true p228z)
                replace q228 := eq_true q228
                (try replace q228z := eq_true q228z)
                go_wp2
                repeat (go_quiet (fail); try go_wp2)
                go_roundg k1
                case measure => have := HK1.out; omega
                case rel => exact ⟨(wrap64 (x5_1 + 1)), (by first | rfl | (simp; done) | (simp [*]; done)), H', ⟨by have := HK1.out; omega⟩, by repeat (first | exact Drawn0.refl _ | apply Drawn0.step)⟩
            · rw [if_neg c6] at H
              exact absurd H (by simp)
          · rw [if_neg c5] at H
            exact absurd H (by simp)
        · rw [if_neg c4] at H
          have c4b0 : decide (x5_1 < (l0.length : Int)) = false := decide_eq_false c4
          clear c4
          obtain rfl := Option.some.inj H
          go_wp2
          repeat (go_quiet (fail); try go_wp2)
          go_ret
          exact ⟨by first | rfl | (simp; done) | (simp [*]; done), by repeat (first | exact Drawn0.refl _ | apply Drawn0.step)⟩
  · rw [if_neg c3] at H
    have c3b0 : ((l0.length : Int) == (l1.length : Int)) = false := beq_eq_false_iff_ne.mpr c3
    have c3b1 : ((l0.length : Int) != (l1.length : Int)) = true := bne_iff_ne.mpr c3
    have c3b2 : (l0.length == l1.length) = false := by first | simpa using c3 | (simp at c3 ⊢; omega)
    obtain rfl := Option.some.inj H
    go_enter Tryd.func39, Tryd.ntmps39
    go_wp2
    repeat (go_quiet (fail); try go_wp2)
    go_ret
    exact ⟨by first | rfl | (simp; done) | (simp [*]; done), by repeat (first | exact Drawn0.refl _ | apply Drawn0.step)⟩

end Go.Proofs.YtdgaancbeakfdaaDoor.Q
namespace Go.Proofs.YtdgaancbeakfdaaDoor.Q
open Go.RowKit Go.Proofs.YtdgaancbeakfdaaDoorW.PrintWords Go.Proofs.YtdgaancbeakfdaaDoorW.PrintLast Go.Proofs.YtdgaancbeakfdaaDoor.Mo
attribute [local go_sem] max2_int min2_int max_two min_two max_three min_three max_four min_four   -- for this text's walks alone
open Go.Proofs.YtdgaancbeakfdaaDoor.Giv Go.Proofs.YtdgaancbeakfdaaDoor.Gn
set_option linter.unusedVariables false
set_option linter.unusedSimpArgs false

/-! ### billetlaw16_Same: function 14 -/
def billetlaw16_Same.f (k : Nat) (a0_0 : Int) (a0_1 : Int) (a0_2 : Int) (a0_3 : Int) (a0_4 : Int) (a0_5 : Int) (l0_6 : List (S42)) (a1_0 : Int) (a1_1 : Int) (a1_2 : Int) (a1_3 : Int) (a1_4 : Int) (a1_5 : Int) (l1_6 : List (S42)) : Option (Bool) := if a0_0 = a1_0 then (if a0_1 = a1_1 then (if a0_2 = a1_2 then (if a0_3 = a1_3 then (if a0_4 = a1_4 then (if a0_5 = a1_5 then ((billetlaw08_Same.f k l0_6 l1_6).bind fun tC => (some tC)) else (some false)) else (some false)) else (some false)) else (some false)) else (some false)) else (some false)
theorem billetlaw16_Same.mono : ∀ a0 a1 a2 a3 a4 a5 a6 a7 a8 a9 a10 a11 a12 a13 k, LeO (billetlaw16_Same.f k a0 a1 a2 a3 a4 a5 a6 a7 a8 a9 a10 a11 a12 a13) (billetlaw16_Same.f (k + 1) a0 a1 a2 a3 a4 a5 a6 a7 a8 a9 a10 a11 a12 a13) := by
 intro a0 a1 a2 a3 a4 a5 a6 a7 a8 a9 a10 a11 a12 a13 k
 unfold billetlaw16_Same.f
 repeat' first
   | (with_reducible exact billetlaw08_Same.mono _ _ _)
   | (with_reducible exact LeO.refl _)
   | (with_reducible exact LeO.none _)
   | (with_reducible refine LeO.ite ?_ ?_)
   | (with_reducible refine LeO.bind ?_ (fun _ => ?_))
   | exact billetlaw08_Same.mono _ _ _
   | exact LeO.none _
   | refine LeO.ite ?_ ?_
   | refine LeO.bind ?_ (fun _ => ?_)
set_option maxHeartbeats 8000000 in
set_option maxRecDepth 100000 in
theorem billetlaw16_Same.calls (k : Nat) (a0_0 : Int) (a0_1 : Int) (a0_2 : Int) (a0_3 : Int) (a0_4 : Int) (a0_5 : Int) (A0_6 : Option Addr) (c0_6 : Nat) (l0_6 : List (S42)) (a1_0 : Int) (a1_1 : Int) (a1_2 : Int) (a1_3 : Int) (a1_4 : Int) (a1_5 : Int) (A1_6 : Option Addr) (c1_6 : Nat) (l1_6 : List (S42)) (r : Bool) (w : World) (hr0_6 : Kd.C k42 w A0_6 l0_6.length l0_6) (hc0_6 : l0_6.length ≤ c0_6) (hr1_6 : Kd.C k42 w A1_6 l1_6.length l1_6) (hc1_6 : l1_6.length ≤ c1_6) (h : billetlaw16_Same.f k a0_0 a0_1 a0_2 a0_3 a0_4 a0_5 l0_6 a1_0 a1_1 a1_2 a1_3 a1_4 a1_5 l1_6 = some r) :
  Calls Tryd.prog 14 #[.agg #[.int .i64 a0_0, .int .i64 a0_1, .int .i64 a0_2, .int .i64 a0_3, .int .i64 a0_4, .int .i64 a0_5, .slice A0_6 l0_6.length c0_6], .agg #[.int .i64 a1_0, .int .i64 a1_1, .int .i64 a1_2, .int .i64 a1_3, .int .i64 a1_4, .int .i64 a1_5, .slice A1_6 l1_6.length c1_6]] w fun e w' => e = .returned (.bool r) ∧ Below w.heap.size w w' := by
 have hu24 := Tryd.underlying24
 have HR0_6 := Aside0.mk hr0_6
 have HC0_6 := Aside0.mk hc0_6
 clear hr0_6 hc0_6
 have HR1_6 := Aside0.mk hr1_6
 have HC1_6 := Aside0.mk hc1_6
 clear hr1_6 hc1_6
 have HB := Aside0.mk (Below.refl w.heap.size w)
 have H : (if a0_0 = a1_0 then (if a0_1 = a1_1 then (if a0_2 = a1_2 then (if a0_3 = a1_3 then (if a0_4 = a1_4 then (if a0_5 = a1_5 then ((billetlaw08_Same.f k l0_6 l1_6).bind fun tC => (some tC)) else (some false)) else (some false)) else (some false)) else (some false)) else (some false)) else (some false)) = some r := h
 clear h
 by_cases c3 : a0_0 = a1_0
 ·rw [if_pos c3] at H
  have c3b0 : (a0_0 == a1_0) = true := beq_iff_eq.mpr c3
  have c3b1 : (a0_0 != a1_0) = false := bne_eq_false_iff_eq.mpr c3
  clear c3
  by_cases c4 : a0_1 = a1_1
  ·rw [if_pos c4] at H
   have c4b0 : (a0_1 == a1_1) = true := beq_iff_eq.mpr c4
   have c4b1 : (a0_1 != a1_1) = false := bne_eq_false_iff_eq.mpr c4
   clear c4
   by_cases c5 : a0_2 = a1_2
   ·rw [if_pos c5] at H
    have c5b0 : (a0_2 == a1_2) = true := beq_iff_eq.mpr c5
    have c5b1 : (a0_2 != a1_2) = false := bne_eq_false_iff_eq.mpr c5
    clear c5
    by_cases c6 : a0_3 = a1_3
    ·rw [if_pos c6] at H
     have c6b0 : (a0_3 == a1_3) = true := beq_iff_eq.mpr c6
     have c6b1 : (a0_3 != a1_3) = false := bne_eq_false_iff_eq.mpr c6
     clear c6
     by_cases c7 : a0_4 = a1_4
     ·rw [if_pos c7] at H
      have c7b0 : (a0_4 == a1_4) = true := beq_iff_eq.mpr c7
      have c7b1 : (a0_4 != a1_4) = false := bne_eq_false_iff_eq.mpr c7
      clear c7
      by_cases c8 : a0_5 = a1_5
      ·rw [if_pos c8] at H
       have c8b0 : (a0_5 == a1_5) = true := beq_iff_eq.mpr c8
       have c8b1 : (a0_5 != a1_5) = false := bne_eq_false_iff_eq.mpr c8
       clear c8
       replace H := Option.bind_eq_some_iff.mp H
       obtain ⟨tC, A90, H⟩ := H
       replace H : (some tC) = some r := H
       have A9 := Aside0.mk A90
       clear A90
       obtain rfl := Option.some.inj H
       go_enter Tryd.func14, Tryd.ntmps14
       go_wp2_with (first | ((with_reducible refine gate_dst (N := 2) rfl ?_); refine box_event ?hg (N := 2) ?hd (cs := #[.int .i64 a0_0, .int .i64 a0_1, .int .i64 a0_2, .int .i64 a0_3, .int .i64 a0_4, .int .i64 a0_5, .slice A0_6 l0_6.length c0_6]) (t := 24) ?hr ?_; (case hd => rfl); (case hg => rfl); (case hr => first | (go_simp; done) | (go_simp; rfl)); intro gbA hg w10 hbox hb; have n0_ := Aside0.mk (below_step (by repeat (first | (with_reducible first | exact HB.out | apply below_alloc | apply pw_below_drewN | apply below_drew1) | exact HB.out)) hb); have n1_ := Aside0.mk (hbox); have n2_ := Aside0.mk ((by rw [hg]; exact (below_size (by repeat (first | (with_reducible first | exact HB.out | apply below_alloc | apply pw_below_drewN | apply below_drew1) | exact HB.out))) : w.heap.size ≤ gbA)); have n3_ := Aside0.mk ((by rw [hg]; exact (below_size (by repeat (first | (with_reducible first | exact HB.out | apply below_alloc | apply pw_below_drewN | apply below_drew1) | exact HB.out))) : w.heap.size ≤ gbA)); clear HB; have HB := n0_; have BKA := n1_; have GWA := n2_; have GEA := n3_; clear n0_ n1_ n2_ n3_; clear hb hbox hg) | ((with_reducible refine gate_dst (N := 3) rfl ?_); refine box_event ?hg (N := 3) ?hd (cs := #[.int .i64 a1_0, .int .i64 a1_1, .int .i64 a1_2, .int .i64 a1_3, .int .i64 a1_4, .int .i64 a1_5, .slice A1_6 l1_6.length c1_6]) (t := 24) ?hr ?_; (case hd => rfl); (case hg => rfl); (case hr => first | (go_simp; done) | (go_simp; rfl)); intro gbB hg w11 hbox hb; have n0_ := Aside0.mk (blk_below (g := gbA) (o := .cells #[.int .i64 a0_0, .int .i64 a0_1, .int .i64 a0_2, .int .i64 a0_3, .int .i64 a0_4, .int .i64 a0_5, .slice A0_6 l0_6.length c0_6] 24 (0, 0)) (by (with_reducible repeat (first | refine blk_drewN ?_ _ | refine blk_drew ?_ | refine blk_alloc ?_ _)); exact BKA.out) hb); have n1_ := Aside0.mk (below_step (by repeat (first | (with_reducible first | exact HB.out | apply below_alloc | apply pw_below_drewN | apply below_drew1 | refine below_set ?_ GEA.out) | exact HB.out)) hb); have n2_ := Aside0.mk (hbox); have n3_ := Aside0.mk ((by rw [hg]; exact (below_size (by repeat (first | (with_reducible first | exact HB.out | apply below_alloc | apply pw_below_drewN | apply below_drew1 | refine below_set ?_ GEA.out) | exact HB.out))) : w.heap.size ≤ gbB)); have n4_ := Aside0.mk ((by rw [hg]; exact (below_size (by repeat (first | (with_reducible first | exact HB.out | apply below_alloc | apply pw_below_drewN | apply below_drew1 | refine below_set ?_ GEA.out) | exact HB.out))) : w.heap.size ≤ gbB)); have n5_ := Aside0.mk ((by rw [hg]; exact Nat.ne_of_lt (blk_lt (g := gbA) (o := .cells #[.int .i64 a0_0, .int .i64 a0_1, .int .i64 a0_2, .int .i64 a0_3, .int .i64 a0_4, .int .i64 a0_5, .slice A0_6 l0_6.length c0_6] 24 (0, 0)) (by (with_reducible repeat (first | refine blk_drewN ?_ _ | refine blk_drew ?_ | refine blk_alloc ?_ _)); exact BKA.out)) : gbA ≠ gbB)); have n6_ := Aside0.mk ((by rw [hg]; exact Nat.ne_of_gt (blk_lt (g := gbA) (o := .cells #[.int .i64 a0_0, .int .i64 a0_1, .int .i64 a0_2, .int .i64 a0_3, .int .i64 a0_4, .int .i64 a0_5, .slice A0_6 l0_6.length c0_6] 24 (0, 0)) (by (with_reducible repeat (first | refine blk_drewN ?_ _ | refine blk_drew ?_ | refine blk_alloc ?_ _)); exact BKA.out)) : gbB ≠ gbA)); clear BKA; clear HB; have BKA := n0_; have HB := n1_; have BKB := n2_; have GWB := n3_; have GEB := n4_; have NBA_B := n5_; have NBB_A := n6_; clear n0_ n1_ n2_ n3_ n4_ n5_ n6_; clear hb hbox hg; have hnb12 := NBA_B.out; have hnc12 := NBB_A.out; have hcz13_0 : w11.cell? ⟨gbA, 0, none⟩ = some (.int .i64 a0_0) := (blk_cell BKA.out 0).trans rfl; have hcz13_1 : w11.cell? ⟨gbA, 1, none⟩ = some (.int .i64 a0_1) := (blk_cell BKA.out 1).trans rfl; have hcz13_2 : w11.cell? ⟨gbA, 2, none⟩ = some (.int .i64 a0_2) := (blk_cell BKA.out 2).trans rfl; have hcz13_3 : w11.cell? ⟨gbA, 3, none⟩ = some (.int .i64 a0_3) := (blk_cell BKA.out 3).trans rfl; have hcz13_4 : w11.cell? ⟨gbA, 4, none⟩ = some (.int .i64 a0_4) := (blk_cell BKA.out 4).trans rfl; have hcz13_5 : w11.cell? ⟨gbA, 5, none⟩ = some (.int .i64 a0_5) := (blk_cell BKA.out 5).trans rfl; have hcz13_6 : w11.cell? ⟨gbA, 6, none⟩ = some (.slice A0_6 l0_6.length c0_6) := (blk_cell BKA.out 6).trans rfl; have hfz13_0 := blk_frozen BKA.out 0; have hfz13_1 := blk_frozen BKA.out 1; have hfz13_2 := blk_frozen BKA.out 2; have hfz13_3 := blk_frozen BKA.out 3; have hfz13_4 := blk_frozen BKA.out 4; have hfz13_5 := blk_frozen BKA.out 5; have hfz13_6 := blk_frozen BKA.out 6; have hcz14_0 : w11.cell? ⟨gbB, 0, none⟩ = some (.int .i64 a1_0) := (blk_cell BKB.out 0).trans rfl; have hcz14_1 : w11.cell? ⟨gbB, 1, none⟩ = some (.int .i64 a1_1) := (blk_cell BKB.out 1).trans rfl; have hcz14_2 : w11.cell? ⟨gbB, 2, none⟩ = some (.int .i64 a1_2) := (blk_cell BKB.out 2).trans rfl; have hcz14_3 : w11.cell? ⟨gbB, 3, none⟩ = some (.int .i64 a1_3) := (blk_cell BKB.out 3).trans rfl; have hcz14_4 : w11.cell? ⟨gbB, 4, none⟩ = some (.int .i64 a1_4) := (blk_cell BKB.out 4).trans rfl; have hcz14_5 : w11.cell? ⟨gbB, 5, none⟩ = some (.int .i64 a1_5) := (blk_cell BKB.out 5).trans rfl; have hcz14_6 : w11.cell? ⟨gbB, 6, none⟩ = some (.slice A1_6 l1_6.length c1_6) := (blk_cell BKB.out 6).trans rfl; have hfz14_0 := blk_frozen BKB.out 0; have hfz14_1 := blk_frozen BKB.out 1; have hfz14_2 := blk_frozen BKB.out 2; have hfz14_3 := blk_frozen BKB.out 3; have hfz14_4 := blk_frozen BKB.out 4; have hfz14_5 := blk_frozen BKB.out 5; have hfz14_6 := blk_frozen BKB.out 6) | (go_at_call 39; (with_reducible refine (billetlaw08_Same.calls k _ _ l0_6 _ _ l1_6 tC _ ?side1 ?side2 ?side3 ?side4 A9.out).mono ?_); (case side1 => repeat (first | exact (Kd.C_below HR0_6.out HB.out) | (with_reducible refine Kd.C_alloc ?_ _) | (with_reducible refine Kd.C_drewN ?_ _) | (with_reducible refine Kd.C_drew ?_))); (case side2 => exact HC0_6.out); (case side3 => repeat (first | exact (Kd.C_below HR1_6.out HB.out) | (with_reducible refine Kd.C_alloc ?_ _) | (with_reducible refine Kd.C_drewN ?_ _) | (with_reducible refine Kd.C_drew ?_))); (case side4 => exact HC1_6.out); rintro e w' ⟨rfl, ⟨nd, rfl⟩⟩))
       go_ret
       exact ⟨by first | rfl | (simp [errW_none, errW_some] <;> rfl) | (simp [*, errW_none, errW_some] <;> rfl), by repeat (first | (with_reducible first | exact HB.out | apply below_alloc | apply pw_below_drewN | apply below_drew1 | refine below_set ?_ GEA.out | refine below_set ?_ GEB.out) | exact HB.out)⟩
      ·rw [if_neg c8] at H
       have c8b0 : (a0_5 == a1_5) = false := beq_eq_false_iff_ne.mpr c8
       have c8b1 : (a0_5 != a1_5) = true := bne_iff_ne.mpr c8
       obtain rfl := Option.some.inj H
       go_enter Tryd.func14, Tryd.ntmps14
       go_wp2_with (first | ((with_reducible refine gate_dst (N := 2) rfl ?_); refine box_event ?hg (N := 2) ?hd (cs := #[.int .i64 a0_0, .int .i64 a0_1, .int .i64 a0_2, .int .i64 a0_3, .int .i64 a0_4, .int .i64 a0_5, .slice A0_6 l0_6.length c0_6]) (t := 24) ?hr ?_; (case hd => rfl); (case hg => rfl); (case hr => first | (go_simp; done) | (go_simp; rfl)); intro gbA hg w15 hbox hb; have n0_ := Aside0.mk (below_step (by repeat (first | (with_reducible first | exact HB.out | apply below_alloc | apply pw_below_drewN | apply below_drew1) | exact HB.out)) hb); have n1_ := Aside0.mk (hbox); have n2_ := Aside0.mk ((by rw [hg]; exact (below_size (by repeat (first | (with_reducible first | exact HB.out | apply below_alloc | apply pw_below_drewN | apply below_drew1) | exact HB.out))) : w.heap.size ≤ gbA)); have n3_ := Aside0.mk ((by rw [hg]; exact (below_size (by repeat (first | (with_reducible first | exact HB.out | apply below_alloc | apply pw_below_drewN | apply below_drew1) | exact HB.out))) : w.heap.size ≤ gbA)); clear HB; have HB := n0_; have BKA := n1_; have GWA := n2_; have GEA := n3_; clear n0_ n1_ n2_ n3_; clear hb hbox hg) | ((with_reducible refine gate_dst (N := 3) rfl ?_); refine box_event ?hg (N := 3) ?hd (cs := #[.int .i64 a1_0, .int .i64 a1_1, .int .i64 a1_2, .int .i64 a1_3, .int .i64 a1_4, .int .i64 a1_5, .slice A1_6 l1_6.length c1_6]) (t := 24) ?hr ?_; (case hd => rfl); (case hg => rfl); (case hr => first | (go_simp; done) | (go_simp; rfl)); intro gbB hg w16 hbox hb; have n0_ := Aside0.mk (blk_below (g := gbA) (o := .cells #[.int .i64 a0_0, .int .i64 a0_1, .int .i64 a0_2, .int .i64 a0_3, .int .i64 a0_4, .int .i64 a0_5, .slice A0_6 l0_6.length c0_6] 24 (0, 0)) (by (with_reducible repeat (first | refine blk_drewN ?_ _ | refine blk_drew ?_ | refine blk_alloc ?_ _)); exact BKA.out) hb); have n1_ := Aside0.mk (below_step (by repeat (first | (with_reducible first | exact HB.out | apply below_alloc | apply pw_below_drewN | apply below_drew1 | refine below_set ?_ GEA.out) | exact HB.out)) hb); have n2_ := Aside0.mk (hbox); have n3_ := Aside0.mk ((by rw [hg]; exact (below_size (by repeat (first | (with_reducible first | exact HB.out | apply below_alloc | apply pw_below_drewN | apply below_drew1 | refine below_set ?_ GEA.out) | exact HB.out))) : w.heap.size ≤ gbB)); have n4_ := Aside0.mk ((by rw [hg]; exact (below_size (by repeat (first | (with_reducible first | exact HB.out | apply below_alloc | apply pw_below_drewN | apply below_drew1 | refine below_set ?_ GEA.out) | exact HB.out))) : w.heap.size ≤ gbB)); have n5_ := Aside0.mk ((by rw [hg]; exact Nat.ne_of_lt (blk_lt (g := gbA) (o := .cells #[.int .i64 a0_0, .int .i64 a0_1, .int .i64 a0_2, .int .i64 a0_3, .int .i64 a0_4, .int .i64 a0_5, .slice A0_6 l0_6.length c0_6] 24 (0, 0)) (by (with_reducible repeat (first | refine blk_drewN ?_ _ | refine blk_drew ?_ | refine blk_alloc ?_ _)); exact BKA.out)) : gbA ≠ gbB)); have n6_ := Aside0.mk ((by rw [hg]; exact Nat.ne_of_gt (blk_lt (g := gbA) (o := .cells #[.int .i64 a0_0, .int .i64 a0_1, .int .i64 a0_2, .int .i64 a0_3, .int .i64 a0_4, .int .i64 a0_5, .slice A0_6 l0_6.length c0_6] 24 (0, 0)) (by (with_reducible repeat (first | refine blk_drewN ?_ _ | refine blk_drew ?_ | refine blk_alloc ?_ _)); exact BKA.out)) : gbB ≠ gbA)); clear BKA; clear HB; have BKA := n0_; have HB := n1_; have BKB := n2_; have GWB := n3_; have GEB := n4_; have NBA_B := n5_; have NBB_A := n6_; clear n0_ n1_ n2_ n3_ n4_ n5_ n6_; clear hb hbox hg; have hnb17 := NBA_B.out; have hnc17 := NBB_A.out; have hcz18_0 : w16.cell? ⟨gbA, 0, none⟩ = some (.int .i64 a0_0) := (blk_cell BKA.out 0).trans rfl; have hcz18_1 : w16.cell? ⟨gbA, 1, none⟩ = some (.int .i64 a0_1) := (blk_cell BKA.out 1).trans rfl; have hcz18_2 : w16.cell? ⟨gbA, 2, none⟩ = some (.int .i64 a0_2) := (blk_cell BKA.out 2).trans rfl; have hcz18_3 : w16.cell? ⟨gbA, 3, none⟩ = some (.int .i64 a0_3) := (blk_cell BKA.out 3).trans rfl; have hcz18_4 : w16.cell? ⟨gbA, 4, none⟩ = some (.int .i64 a0_4) := (blk_cell BKA.out 4).trans rfl; have hcz18_5 : w16.cell? ⟨gbA, 5, none⟩ = some (.int .i64 a0_5) := (blk_cell BKA.out 5).trans rfl; have hcz18_6 : w16.cell? ⟨gbA, 6, none⟩ = some (.slice A0_6 l0_6.length c0_6) := (blk_cell BKA.out 6).trans rfl; have hfz18_0 := blk_frozen BKA.out 0; have hfz18_1 := blk_frozen BKA.out 1; have hfz18_2 := blk_frozen BKA.out 2; have hfz18_3 := blk_frozen BKA.out 3; have hfz18_4 := blk_frozen BKA.out 4; have hfz18_5 := blk_frozen BKA.out 5; have hfz18_6 := blk_frozen BKA.out 6; have hcz19_0 : w16.cell? ⟨gbB, 0, none⟩ = some (.int .i64 a1_0) := (blk_cell BKB.out 0).trans rfl; have hcz19_1 : w16.cell? ⟨gbB, 1, none⟩ = some (.int .i64 a1_1) := (blk_cell BKB.out 1).trans rfl; have hcz19_2 : w16.cell? ⟨gbB, 2, none⟩ = some (.int .i64 a1_2) := (blk_cell BKB.out 2).trans rfl; have hcz19_3 : w16.cell? ⟨gbB, 3, none⟩ = some (.int .i64 a1_3) := (blk_cell BKB.out 3).trans rfl; have hcz19_4 : w16.cell? ⟨gbB, 4, none⟩ = some (.int .i64 a1_4) := (blk_cell BKB.out 4).trans rfl; have hcz19_5 : w16.cell? ⟨gbB, 5, none⟩ = some (.int .i64 a1_5) := (blk_cell BKB.out 5).trans rfl; have hcz19_6 : w16.cell? ⟨gbB, 6, none⟩ = some (.slice A1_6 l1_6.length c1_6) := (blk_cell BKB.out 6).trans rfl; have hfz19_0 := blk_frozen BKB.out 0; have hfz19_1 := blk_frozen BKB.out 1; have hfz19_2 := blk_frozen BKB.out 2; have hfz19_3 := blk_frozen BKB.out 3; have hfz19_4 := blk_frozen BKB.out 4; have hfz19_5 := blk_frozen BKB.out 5; have hfz19_6 := blk_frozen BKB.out 6))
       go_ret
       exact ⟨by first | rfl | (simp [errW_none, errW_some] <;> rfl) | (simp [*, errW_none, errW_some] <;> rfl), by repeat (first | (with_reducible first | exact HB.out | apply below_alloc | apply pw_below_drewN | apply below_drew1 | refine below_set ?_ GEA.out | refine below_set ?_ GEB.out) | exact HB.out)⟩
     ·rw [if_neg c7] at H
      have c7b0 : (a0_4 == a1_4) = false := beq_eq_false_iff_ne.mpr c7
      have c7b1 : (a0_4 != a1_4) = true := bne_iff_ne.mpr c7
      obtain rfl := Option.some.inj H
      go_enter Tryd.func14, Tryd.ntmps14
      go_wp2_with (first | ((with_reducible refine gate_dst (N := 2) rfl ?_); refine box_event ?hg (N := 2) ?hd (cs := #[.int .i64 a0_0, .int .i64 a0_1, .int .i64 a0_2, .int .i64 a0_3, .int .i64 a0_4, .int .i64 a0_5, .slice A0_6 l0_6.length c0_6]) (t := 24) ?hr ?_; (case hd => rfl); (case hg => rfl); (case hr => first | (go_simp; done) | (go_simp; rfl)); intro gbA hg w20 hbox hb; have n0_ := Aside0.mk (below_step (by repeat (first | (with_reducible first | exact HB.out | apply below_alloc | apply pw_below_drewN | apply below_drew1) | exact HB.out)) hb); have n1_ := Aside0.mk (hbox); have n2_ := Aside0.mk ((by rw [hg]; exact (below_size (by repeat (first | (with_reducible first | exact HB.out | apply below_alloc | apply pw_below_drewN | apply below_drew1) | exact HB.out))) : w.heap.size ≤ gbA)); have n3_ := Aside0.mk ((by rw [hg]; exact (below_size (by repeat (first | (with_reducible first | exact HB.out | apply below_alloc | apply pw_below_drewN | apply below_drew1) | exact HB.out))) : w.heap.size ≤ gbA)); clear HB; have HB := n0_; have BKA := n1_; have GWA := n2_; have GEA := n3_; clear n0_ n1_ n2_ n3_; clear hb hbox hg) | ((with_reducible refine gate_dst (N := 3) rfl ?_); refine box_event ?hg (N := 3) ?hd (cs := #[.int .i64 a1_0, .int .i64 a1_1, .int .i64 a1_2, .int .i64 a1_3, .int .i64 a1_4, .int .i64 a1_5, .slice A1_6 l1_6.length c1_6]) (t := 24) ?hr ?_; (case hd => rfl); (case hg => rfl); (case hr => first | (go_simp; done) | (go_simp; rfl)); intro gbB hg w21 hbox hb; have n0_ := Aside0.mk (blk_below (g := gbA) (o := .cells #[.int .i64 a0_0, .int .i64 a0_1, .int .i64 a0_2, .int .i64 a0_3, .int .i64 a0_4, .int .i64 a0_5, .slice A0_6 l0_6.length c0_6] 24 (0, 0)) (by (with_reducible repeat (first | refine blk_drewN ?_ _ | refine blk_drew ?_ | refine blk_alloc ?_ _)); exact BKA.out) hb); have n1_ := Aside0.mk (below_step (by repeat (first | (with_reducible first | exact HB.out | apply below_alloc | apply pw_below_drewN | apply below_drew1 | refine below_set ?_ GEA.out) | exact HB.out)) hb); have n2_ := Aside0.mk (hbox); have n3_ := Aside0.mk ((by rw [hg]; exact (below_size (by repeat (first | (with_reducible first | exact HB.out | apply below_alloc | apply pw_below_drewN | apply below_drew1 | refine below_set ?_ GEA.out) | exact HB.out))) : w.heap.size ≤ gbB)); have n4_ := Aside0.mk ((by rw [hg]; exact (below_size (by repeat (first | (with_reducible first | exact HB.out | apply below_alloc | apply pw_below_drewN | apply below_drew1 | refine below_set ?_ GEA.out) | exact HB.out))) : w.heap.size ≤ gbB)); have n5_ := Aside0.mk ((by rw [hg]; exact Nat.ne_of_lt (blk_lt (g := gbA) (o := .cells #[.int .i64 a0_0, .int .i64 a0_1, .int .i64 a0_2, .int .i64 a0_3, .int .i64 a0_4, .int .i64 a0_5, .slice A0_6 l0_6.length c0_6] 24 (0, 0)) (by (with_reducible repeat (first | refine blk_drewN ?_ _ | refine blk_drew ?_ | refine blk_alloc ?_ _)); exact BKA.out)) : gbA ≠ gbB)); have n6_ := Aside0.mk ((by rw [hg]; exact Nat.ne_of_gt (blk_lt (g := gbA) (o := .cells #[.int .i64 a0_0, .int .i64 a0_1, .int .i64 a0_2, .int .i64 a0_3, .int .i64 a0_4, .int .i64 a0_5, .slice A0_6 l0_6.length c0_6] 24 (0, 0)) (by (with_reducible repeat (first | refine blk_drewN ?_ _ | refine blk_drew ?_ | refine blk_alloc ?_ _)); exact BKA.out)) : gbB ≠ gbA)); clear BKA; clear HB; have BKA := n0_; have HB := n1_; have BKB := n2_; have GWB := n3_; have GEB := n4_; have NBA_B := n5_; have NBB_A := n6_; clear n0_ n1_ n2_ n3_ n4_ n5_ n6_; clear hb hbox hg; have hnb22 := NBA_B.out; have hnc22 := NBB_A.out; have hcz23_0 : w21.cell? ⟨gbA, 0, none⟩ = some (.int .i64 a0_0) := (blk_cell BKA.out 0).trans rfl; have hcz23_1 : w21.cell? ⟨gbA, 1, none⟩ = some (.int .i64 a0_1) := (blk_cell BKA.out 1).trans rfl; have hcz23_2 : w21.cell? ⟨gbA, 2, none⟩ = some (.int .i64 a0_2) := (blk_cell BKA.out 2).trans rfl; have hcz23_3 : w21.cell? ⟨gbA, 3, none⟩ = some (.int .i64 a0_3) := (blk_cell BKA.out 3).trans rfl; have hcz23_4 : w21.cell? ⟨gbA, 4, none⟩ = some (.int .i64 a0_4) := (blk_cell BKA.out 4).trans rfl; have hcz23_5 : w21.cell? ⟨gbA, 5, none⟩ = some (.int .i64 a0_5) := (blk_cell BKA.out 5).trans rfl; have hcz23_6 : w21.cell? ⟨gbA, 6, none⟩ = some (.slice A0_6 l0_6.length c0_6) := (blk_cell BKA.out 6).trans rfl; have hfz23_0 := blk_frozen BKA.out 0; have hfz23_1 := blk_frozen BKA.out 1; have hfz23_2 := blk_frozen BKA.out 2; have hfz23_3 := blk_frozen BKA.out 3; have hfz23_4 := blk_frozen BKA.out 4; have hfz23_5 := blk_frozen BKA.out 5; have hfz23_6 := blk_frozen BKA.out 6; have hcz24_0 : w21.cell? ⟨gbB, 0, none⟩ = some (.int .i64 a1_0) := (blk_cell BKB.out 0).trans rfl; have hcz24_1 : w21.cell? ⟨gbB, 1, none⟩ = some (.int .i64 a1_1) := (blk_cell BKB.out 1).trans rfl; have hcz24_2 : w21.cell? ⟨gbB, 2, none⟩ = some (.int .i64 a1_2) := (blk_cell BKB.out 2).trans rfl; have hcz24_3 : w21.cell? ⟨gbB, 3, none⟩ = some (.int .i64 a1_3) := (blk_cell BKB.out 3).trans rfl; have hcz24_4 : w21.cell? ⟨gbB, 4, none⟩ = some (.int .i64 a1_4) := (blk_cell BKB.out 4).trans rfl; have hcz24_5 : w21.cell? ⟨gbB, 5, none⟩ = some (.int .i64 a1_5) := (blk_cell BKB.out 5).trans rfl; have hcz24_6 : w21.cell? ⟨gbB, 6, none⟩ = some (.slice A1_6 l1_6.length c1_6) := (blk_cell BKB.out 6).trans rfl; have hfz24_0 := blk_frozen BKB.out 0; have hfz24_1 := blk_frozen BKB.out 1; have hfz24_2 := blk_frozen BKB.out 2; have hfz24_3 := blk_frozen BKB.out 3; have hfz24_4 := blk_frozen BKB.out 4; have hfz24_5 := blk_frozen BKB.out 5; have hfz24_6 := blk_frozen BKB.out 6))
      go_ret
      exact ⟨by first | rfl | (simp [errW_none, errW_some] <;> rfl) | (simp [*, errW_none, errW_some] <;> rfl), by repeat (first | (with_reducible first | exact HB.out | apply below_alloc | apply pw_below_drewN | apply below_drew1 | refine below_set ?_ GEA.out | refine below_set ?_ GEB.out) | exact HB.out)⟩
    ·rw [if_neg c6] at H
     have c6b0 : (a0_3 == a1_3) = false := beq_eq_false_iff_ne.mpr c6
     have c6b1 : (a0_3 != a1_3) = true := bne_iff_ne.mpr c6
     obtain rfl := Option.some.inj H
     go_enter Tryd.func14, Tryd.ntmps14
     go_wp2_with (first | ((with_reducible refine gate_dst (N := 2) rfl ?_); refine box_event ?hg (N := 2) ?hd (cs := #[.int .i64 a0_0, .int .i64 a0_1, .int .i64 a0_2, .int .i64 a0_3, .int .i64 a0_4, .int .i64 a0_5, .slice A0_6 l0_6.length c0_6]) (t := 24) ?hr ?_; (case hd => rfl); (case hg => rfl); (case hr => first | (go_simp; done) | (go_simp; rfl)); intro gbA hg w25 hbox hb; have n0_ := Aside0.mk (below_step (by repeat (first | (with_reducible first | exact HB.out | apply below_alloc | apply pw_below_drewN | apply below_drew1) | exact HB.out)) hb); have n1_ := Aside0.mk (hbox); have n2_ := Aside0.mk ((by rw [hg]; exact (below_size (by repeat (first | (with_reducible first | exact HB.out | apply below_alloc | apply pw_below_drewN | apply below_drew1) | exact HB.out))) : w.heap.size ≤ gbA)); have n3_ := Aside0.mk ((by rw [hg]; exact (below_size (by repeat (first | (with_reducible first | exact HB.out | apply below_alloc | apply pw_below_drewN | apply below_drew1) | exact HB.out))) : w.heap.size ≤ gbA)); clear HB; have HB := n0_; have BKA := n1_; have GWA := n2_; have GEA := n3_; clear n0_ n1_ n2_ n3_; clear hb hbox hg) | ((with_reducible refine gate_dst (N := 3) rfl ?_); refine box_event ?hg (N := 3) ?hd (cs := #[.int .i64 a1_0, .int .i64 a1_1, .int .i64 a1_2, .int .i64 a1_3, .int .i64 a1_4, .int .i64 a1_5, .slice A1_6 l1_6.length c1_6]) (t := 24) ?hr ?_; (case hd => rfl); (case hg => rfl); (case hr => first | (go_simp; done) | (go_simp; rfl)); intro gbB hg w26 hbox hb; have n0_ := Aside0.mk (blk_below (g := gbA) (o := .cells #[.int .i64 a0_0, .int .i64 a0_1, .int .i64 a0_2, .int .i64 a0_3, .int .i64 a0_4, .int .i64 a0_5, .slice A0_6 l0_6.length c0_6] 24 (0, 0)) (by (with_reducible repeat (first | refine blk_drewN ?_ _ | refine blk_drew ?_ | refine blk_alloc ?_ _)); exact BKA.out) hb); have n1_ := Aside0.mk (below_step (by repeat (first | (with_reducible first | exact HB.out | apply below_alloc | apply pw_below_drewN | apply below_drew1 | refine below_set ?_ GEA.out) | exact HB.out)) hb); have n2_ := Aside0.mk (hbox); have n3_ := Aside0.mk ((by rw [hg]; exact (below_size (by repeat (first | (with_reducible first | exact HB.out | apply below_alloc | apply pw_below_drewN | apply below_drew1 | refine below_set ?_ GEA.out) | exact HB.out))) : w.heap.size ≤ gbB)); have n4_ := Aside0.mk ((by rw [hg]; exact (below_size (by repeat (first | (with_reducible first | exact HB.out | apply below_alloc | apply pw_below_drewN | apply below_drew1 | refine below_set ?_ GEA.out) | exact HB.out))) : w.heap.size ≤ gbB)); have n5_ := Aside0.mk ((by rw [hg]; exact Nat.ne_of_lt (blk_lt (g := gbA) (o := .cells #[.int .i64 a0_0, .int .i64 a0_1, .int .i64 a0_2, .int .i64 a0_3, .int .i64 a0_4, .int .i64 a0_5, .slice A0_6 l0_6.length c0_6] 24 (0, 0)) (by (with_reducible repeat (first | refine blk_drewN ?_ _ | refine blk_drew ?_ | refine blk_alloc ?_ _)); exact BKA.out)) : gbA ≠ gbB)); have n6_ := Aside0.mk ((by rw [hg]; exact Nat.ne_of_gt (blk_lt (g := gbA) (o := .cells #[.int .i64 a0_0, .int .i64 a0_1, .int .i64 a0_2, .int .i64 a0_3, .int .i64 a0_4, .int .i64 a0_5, .slice A0_6 l0_6.length c0_6] 24 (0, 0)) (by (with_reducible repeat (first | refine blk_drewN ?_ _ | refine blk_drew ?_ | refine blk_alloc ?_ _)); exact BKA.out)) : gbB ≠ gbA)); clear BKA; clear HB; have BKA := n0_; have HB := n1_; have BKB := n2_; have GWB := n3_; have GEB := n4_; have NBA_B := n5_; have NBB_A := n6_; clear n0_ n1_ n2_ n3_ n4_ n5_ n6_; clear hb hbox hg; have hnb27 := NBA_B.out; have hnc27 := NBB_A.out; have hcz28_0 : w26.cell? ⟨gbA, 0, none⟩ = some (.int .i64 a0_0) := (blk_cell BKA.out 0).trans rfl; have hcz28_1 : w26.cell? ⟨gbA, 1, none⟩ = some (.int .i64 a0_1) := (blk_cell BKA.out 1).trans rfl; have hcz28_2 : w26.cell? ⟨gbA, 2, none⟩ = some (.int .i64 a0_2) := (blk_cell BKA.out 2).trans rfl; have hcz28_3 : w26.cell? ⟨gbA, 3, none⟩ = some (.int .i64 a0_3) := (blk_cell BKA.out 3).trans rfl; have hcz28_4 : w26.cell? ⟨gbA, 4, none⟩ = some (.int .i64 a0_4) := (blk_cell BKA.out 4).trans rfl; have hcz28_5 : w26.cell? ⟨gbA, 5, none⟩ = some (.int .i64 a0_5) := (blk_cell BKA.out 5).trans rfl; have hcz28_6 : w26.cell? ⟨gbA, 6, none⟩ = some (.slice A0_6 l0_6.length c0_6) := (blk_cell BKA.out 6).trans rfl; have hfz28_0 := blk_frozen BKA.out 0; have hfz28_1 := blk_frozen BKA.out 1; have hfz28_2 := blk_frozen BKA.out 2; have hfz28_3 := blk_frozen BKA.out 3; have hfz28_4 := blk_frozen BKA.out 4; have hfz28_5 := blk_frozen BKA.out 5; have hfz28_6 := blk_frozen BKA.out 6; have hcz29_0 : w26.cell? ⟨gbB, 0, none⟩ = some (.int .i64 a1_0) := (blk_cell BKB.out 0).trans rfl; have hcz29_1 : w26.cell? ⟨gbB, 1, none⟩ = some (.int .i64 a1_1) := (blk_cell BKB.out 1).trans rfl; have hcz29_2 : w26.cell? ⟨gbB, 2, none⟩ = some (.int .i64 a1_2) := (blk_cell BKB.out 2).trans rfl; have hcz29_3 : w26.cell? ⟨gbB, 3, none⟩ = some (.int .i64 a1_3) := (blk_cell BKB.out 3).trans rfl; have hcz29_4 : w26.cell? ⟨gbB, 4, none⟩ = some (.int .i64 a1_4) := (blk_cell BKB.out 4).trans rfl; have hcz29_5 : w26.cell? ⟨gbB, 5, none⟩ = some (.int .i64 a1_5) := (blk_cell BKB.out 5).trans rfl; have hcz29_6 : w26.cell? ⟨gbB, 6, none⟩ = some (.slice A1_6 l1_6.length c1_6) := (blk_cell BKB.out 6).trans rfl; have hfz29_0 := blk_frozen BKB.out 0; have hfz29_1 := blk_frozen BKB.out 1; have hfz29_2 := blk_frozen BKB.out 2; have hfz29_3 := blk_frozen BKB.out 3; have hfz29_4 := blk_frozen BKB.out 4; have hfz29_5 := blk_frozen BKB.out 5; have hfz29_6 := blk_frozen BKB.out 6))
     go_ret
     exact ⟨by first | rfl | (simp [errW_none, errW_some] <;> rfl) | (simp [*, errW_none, errW_some] <;> rfl), by repeat (first | (with_reducible first | exact HB.out | apply below_alloc | apply pw_below_drewN | apply below_drew1 | refine below_set ?_ GEA.out | refine below_set ?_ GEB.out) | exact HB.out)⟩
   ·rw [if_neg c5] at H
    have c5b0 : (a0_2 == a1_2) = false := beq_eq_false_iff_ne.mpr c5
    have c5b1 : (a0_2 != a1_2) = true := bne_iff_ne.mpr c5
    obtain rfl := Option.some.inj H
    go_enter Tryd.func14, Tryd.ntmps14
    go_wp2_with (first | ((with_reducible refine gate_dst (N := 2) rfl ?_); refine box_event ?hg (N := 2) ?hd (cs := #[.int .i64 a0_0, .int .i64 a0_1, .int .i64 a0_2, .int .i64 a0_3, .int .i64 a0_4, .int .i64 a0_5, .slice A0_6 l0_6.length c0_6]) (t := 24) ?hr ?_; (case hd => rfl); (case hg => rfl); (case hr => first | (go_simp; done) | (go_simp; rfl)); intro gbA hg w30 hbox hb; have n0_ := Aside0.mk (below_step (by repeat (first | (with_reducible first | exact HB.out | apply below_alloc | apply pw_below_drewN | apply below_drew1) | exact HB.out)) hb); have n1_ := Aside0.mk (hbox); have n2_ := Aside0.mk ((by rw [hg]; exact (below_size (by repeat (first | (with_reducible first | exact HB.out | apply below_alloc | apply pw_below_drewN | apply below_drew1) | exact HB.out))) : w.heap.size ≤ gbA)); have n3_ := Aside0.mk ((by rw [hg]; exact (below_size (by repeat (first | (with_reducible first | exact HB.out | apply below_alloc | apply pw_below_drewN | apply below_drew1) | exact HB.out))) : w.heap.size ≤ gbA)); clear HB; have HB := n0_; have BKA := n1_; have GWA := n2_; have GEA := n3_; clear n0_ n1_ n2_ n3_; clear hb hbox hg) | ((with_reducible refine gate_dst (N := 3) rfl ?_); refine box_event ?hg (N := 3) ?hd (cs := #[.int .i64 a1_0, .int .i64 a1_1, .int .i64 a1_2, .int .i64 a1_3, .int .i64 a1_4, .int .i64 a1_5, .slice A1_6 l1_6.length c1_6]) (t := 24) ?hr ?_; (case hd => rfl); (case hg => rfl); (case hr => first | (go_simp; done) | (go_simp; rfl)); intro gbB hg w31 hbox hb; have n0_ := Aside0.mk (blk_below (g := gbA) (o := .cells #[.int .i64 a0_0, .int .i64 a0_1, .int .i64 a0_2, .int .i64 a0_3, .int .i64 a0_4, .int .i64 a0_5, .slice A0_6 l0_6.length c0_6] 24 (0, 0)) (by (with_reducible repeat (first | refine blk_drewN ?_ _ | refine blk_drew ?_ | refine blk_alloc ?_ _)); exact BKA.out) hb); have n1_ := Aside0.mk (below_step (by repeat (first | (with_reducible first | exact HB.out | apply below_alloc | apply pw_below_drewN | apply below_drew1 | refine below_set ?_ GEA.out) | exact HB.out)) hb); have n2_ := Aside0.mk (hbox); have n3_ := Aside0.mk ((by rw [hg]; exact (below_size (by repeat (first | (with_reducible first | exact HB.out | apply below_alloc | apply pw_below_drewN | apply below_drew1 | refine below_set ?_ GEA.out) | exact HB.out))) : w.heap.size ≤ gbB)); have n4_ := Aside0.mk ((by rw [hg]; exact (below_size (by repeat (first | (with_reducible first | exact HB.out | apply below_alloc | apply pw_below_drewN | apply below_drew1 | refine below_set ?_ GEA.out) | exact HB.out))) : w.heap.size ≤ gbB)); have n5_ := Aside0.mk ((by rw [hg]; exact Nat.ne_of_lt (blk_lt (g := gbA) (o := .cells #[.int .i64 a0_0, .int .i64 a0_1, .int .i64 a0_2, .int .i64 a0_3, .int .i64 a0_4, .int .i64 a0_5, .slice A0_6 l0_6.length c0_6] 24 (0, 0)) (by (with_reducible repeat (first | refine blk_drewN ?_ _ | refine blk_drew ?_ | refine blk_alloc ?_ _)); exact BKA.out)) : gbA ≠ gbB)); have n6_ := Aside0.mk ((by rw [hg]; exact Nat.ne_of_gt (blk_lt (g := gbA) (o := .cells #[.int .i64 a0_0, .int .i64 a0_1, .int .i64 a0_2, .int .i64 a0_3, .int .i64 a0_4, .int .i64 a0_5, .slice A0_6 l0_6.length c0_6] 24 (0, 0)) (by (with_reducible repeat (first | refine blk_drewN ?_ _ | refine blk_drew ?_ | refine blk_alloc ?_ _)); exact BKA.out)) : gbB ≠ gbA)); clear BKA; clear HB; have BKA := n0_; have HB := n1_; have BKB := n2_; have GWB := n3_; have GEB := n4_; have NBA_B := n5_; have NBB_A := n6_; clear n0_ n1_ n2_ n3_ n4_ n5_ n6_; clear hb hbox hg; have hnb32 := NBA_B.out; have hnc32 := NBB_A.out; have hcz33_0 : w31.cell? ⟨gbA, 0, none⟩ = some (.int .i64 a0_0) := (blk_cell BKA.out 0).trans rfl; have hcz33_1 : w31.cell? ⟨gbA, 1, none⟩ = some (.int .i64 a0_1) := (blk_cell BKA.out 1).trans rfl; have hcz33_2 : w31.cell? ⟨gbA, 2, none⟩ = some (.int .i64 a0_2) := (blk_cell BKA.out 2).trans rfl; have hcz33_3 : w31.cell? ⟨gbA, 3, none⟩ = some (.int .i64 a0_3) := (blk_cell BKA.out 3).trans rfl; have hcz33_4 : w31.cell? ⟨gbA, 4, none⟩ = some (.int .i64 a0_4) := (blk_cell BKA.out 4).trans rfl; have hcz33_5 : w31.cell? ⟨gbA, 5, none⟩ = some (.int .i64 a0_5) := (blk_cell BKA.out 5).trans rfl; have hcz33_6 : w31.cell? ⟨gbA, 6, none⟩ = some (.slice A0_6 l0_6.length c0_6) := (blk_cell BKA.out 6).trans rfl; have hfz33_0 := blk_frozen BKA.out 0; have hfz33_1 := blk_frozen BKA.out 1; have hfz33_2 := blk_frozen BKA.out 2; have hfz33_3 := blk_frozen BKA.out 3; have hfz33_4 := blk_frozen BKA.out 4; have hfz33_5 := blk_frozen BKA.out 5; have hfz33_6 := blk_frozen BKA.out 6; have hcz34_0 : w31.cell? ⟨gbB, 0, none⟩ = some (.int .i64 a1_0) := (blk_cell BKB.out 0).trans rfl; have hcz34_1 : w31.cell? ⟨gbB, 1, none⟩ = some (.int .i64 a1_1) := (blk_cell BKB.out 1).trans rfl; have hcz34_2 : w31.cell? ⟨gbB, 2, none⟩ = some (.int .i64 a1_2) := (blk_cell BKB.out 2).trans rfl; have hcz34_3 : w31.cell? ⟨gbB, 3, none⟩ = some (.int .i64 a1_3) := (blk_cell BKB.out 3).trans rfl; have hcz34_4 : w31.cell? ⟨gbB, 4, none⟩ = some (.int .i64 a1_4) := (blk_cell BKB.out 4).trans rfl; have hcz34_5 : w31.cell? ⟨gbB, 5, none⟩ = some (.int .i64 a1_5) := (blk_cell BKB.out 5).trans rfl; have hcz34_6 : w31.cell? ⟨gbB, 6, none⟩ = some (.slice A1_6 l1_6.length c1_6) := (blk_cell BKB.out 6).trans rfl; have hfz34_0 := blk_frozen BKB.out 0; have hfz34_1 := blk_frozen BKB.out 1; have hfz34_2 := blk_frozen BKB.out 2; have hfz34_3 := blk_frozen BKB.out 3; have hfz34_4 := blk_frozen BKB.out 4; have hfz34_5 := blk_frozen BKB.out 5; have hfz34_6 := blk_frozen BKB.out 6))
    go_ret
    exact ⟨by first | rfl | (simp [errW_none, errW_some] <;> rfl) | (simp [*, errW_none, errW_some] <;> rfl), by repeat (first | (with_reducible first | exact HB.out | apply below_alloc | apply pw_below_drewN | apply below_drew1 | refine below_set ?_ GEA.out | refine below_set ?_ GEB.out) | exact HB.out)⟩
  ·rw [if_neg c4] at H
   have c4b0 : (a0_1 == a1_1) = false := beq_eq_false_iff_ne.mpr c4
   have c4b1 : (a0_1 != a1_1) = true := bne_iff_ne.mpr c4
   obtain rfl := Option.some.inj H
   go_enter Tryd.func14, Tryd.ntmps14
   go_wp2_with (first | ((with_reducible refine gate_dst (N := 2) rfl ?_); refine box_event ?hg (N := 2) ?hd (cs := #[.int .i64 a0_0, .int .i64 a0_1, .int .i64 a0_2, .int .i64 a0_3, .int .i64 a0_4, .int .i64 a0_5, .slice A0_6 l0_6.length c0_6]) (t := 24) ?hr ?_; (case hd => rfl); (case hg => rfl); (case hr => first | (go_simp; done) | (go_simp; rfl)); intro gbA hg w35 hbox hb; have n0_ := Aside0.mk (below_step (by repeat (first | (with_reducible first | exact HB.out | apply below_alloc | apply pw_below_drewN | apply below_drew1) | exact HB.out)) hb); have n1_ := Aside0.mk (hbox); have n2_ := Aside0.mk ((by rw [hg]; exact (below_size (by repeat (first | (with_reducible first | exact HB.out | apply below_alloc | apply pw_below_drewN | apply below_drew1) | exact HB.out))) : w.heap.size ≤ gbA)); have n3_ := Aside0.mk ((by rw [hg]; exact (below_size (by repeat (first | (with_reducible first | exact HB.out | apply below_alloc | apply pw_below_drewN | apply below_drew1) | exact HB.out))) : w.heap.size ≤ gbA)); clear HB; have HB := n0_; have BKA := n1_; have GWA := n2_; have GEA := n3_; clear n0_ n1_ n2_ n3_; clear hb hbox hg) | ((with_reducible refine gate_dst (N := 3) rfl ?_); refine box_event ?hg (N := 3) ?hd (cs := #[.int .i64 a1_0, .int .i64 a1_1, .int .i64 a1_2, .int .i64 a1_3, .int .i64 a1_4, .int .i64 a1_5, .slice A1_6 l1_6.length c1_6]) (t := 24) ?hr ?_; (case hd => rfl); (case hg => rfl); (case hr => first | (go_simp; done) | (go_simp; rfl)); intro gbB hg w36 hbox hb; have n0_ := Aside0.mk (blk_below (g := gbA) (o := .cells #[.int .i64 a0_0, .int .i64 a0_1, .int .i64 a0_2, .int .i64 a0_3, .int .i64 a0_4, .int .i64 a0_5, .slice A0_6 l0_6.length c0_6] 24 (0, 0)) (by (with_reducible repeat (first | refine blk_drewN ?_ _ | refine blk_drew ?_ | refine blk_alloc ?_ _)); exact BKA.out) hb); have n1_ := Aside0.mk (below_step (by repeat (first | (with_reducible first | exact HB.out | apply below_alloc | apply pw_below_drewN | apply below_drew1 | refine below_set ?_ GEA.out) | exact HB.out)) hb); have n2_ := Aside0.mk (hbox); have n3_ := Aside0.mk ((by rw [hg]; exact (below_size (by repeat (first | (with_reducible first | exact HB.out | apply below_alloc | apply pw_below_drewN | apply below_drew1 | refine below_set ?_ GEA.out) | exact HB.out))) : w.heap.size ≤ gbB)); have n4_ := Aside0.mk ((by rw [hg]; exact (below_size (by repeat (first | (with_reducible first | exact HB.out | apply below_alloc | apply pw_below_drewN | apply below_drew1 | refine below_set ?_ GEA.out) | exact HB.out))) : w.heap.size ≤ gbB)); have n5_ := Aside0.mk ((by rw [hg]; exact Nat.ne_of_lt (blk_lt (g := gbA) (o := .cells #[.int .i64 a0_0, .int .i64 a0_1, .int .i64 a0_2, .int .i64 a0_3, .int .i64 a0_4, .int .i64 a0_5, .slice A0_6 l0_6.length c0_6] 24 (0, 0)) (by (with_reducible repeat (first | refine blk_drewN ?_ _ | refine blk_drew ?_ | refine blk_alloc ?_ _)); exact BKA.out)) : gbA ≠ gbB)); have n6_ := Aside0.mk ((by rw [hg]; exact Nat.ne_of_gt (blk_lt (g := gbA) (o := .cells #[.int .i64 a0_0, .int .i64 a0_1, .int .i64 a0_2, .int .i64 a0_3, .int .i64 a0_4, .int .i64 a0_5, .slice A0_6 l0_6.length c0_6] 24 (0, 0)) (by (with_reducible repeat (first | refine blk_drewN ?_ _ | refine blk_drew ?_ | refine blk_alloc ?_ _)); exact BKA.out)) : gbB ≠ gbA)); clear BKA; clear HB; have BKA := n0_; have HB := n1_; have BKB := n2_; have GWB := n3_; have GEB := n4_; have NBA_B := n5_; have NBB_A := n6_; clear n0_ n1_ n2_ n3_ n4_ n5_ n6_; clear hb hbox hg; have hnb37 := NBA_B.out; have hnc37 := NBB_A.out; have hcz38_0 : w36.cell? ⟨gbA, 0, none⟩ = some (.int .i64 a0_0) := (blk_cell BKA.out 0).trans rfl; have hcz38_1 : w36.cell? ⟨gbA, 1, none⟩ = some (.int .i64 a0_1) := (blk_cell BKA.out 1).trans rfl; have hcz38_2 : w36.cell? ⟨gbA, 2, none⟩ = some (.int .i64 a0_2) := (blk_cell BKA.out 2).trans rfl; have hcz38_3 : w36.cell? ⟨gbA, 3, none⟩ = some (.int .i64 a0_3) := (blk_cell BKA.out 3).trans rfl; have hcz38_4 : w36.cell? ⟨gbA, 4, none⟩ = some (.int .i64 a0_4) := (blk_cell BKA.out 4).trans rfl; have hcz38_5 : w36.cell? ⟨gbA, 5, none⟩ = some (.int .i64 a0_5) := (blk_cell BKA.out 5).trans rfl; have hcz38_6 : w36.cell? ⟨gbA, 6, none⟩ = some (.slice A0_6 l0_6.length c0_6) := (blk_cell BKA.out 6).trans rfl; have hfz38_0 := blk_frozen BKA.out 0; have hfz38_1 := blk_frozen BKA.out 1; have hfz38_2 := blk_frozen BKA.out 2; have hfz38_3 := blk_frozen BKA.out 3; have hfz38_4 := blk_frozen BKA.out 4; have hfz38_5 := blk_frozen BKA.out 5; have hfz38_6 := blk_frozen BKA.out 6; have hcz39_0 : w36.cell? ⟨gbB, 0, none⟩ = some (.int .i64 a1_0) := (blk_cell BKB.out 0).trans rfl; have hcz39_1 : w36.cell? ⟨gbB, 1, none⟩ = some (.int .i64 a1_1) := (blk_cell BKB.out 1).trans rfl; have hcz39_2 : w36.cell? ⟨gbB, 2, none⟩ = some (.int .i64 a1_2) := (blk_cell BKB.out 2).trans rfl; have hcz39_3 : w36.cell? ⟨gbB, 3, none⟩ = some (.int .i64 a1_3) := (blk_cell BKB.out 3).trans rfl; have hcz39_4 : w36.cell? ⟨gbB, 4, none⟩ = some (.int .i64 a1_4) := (blk_cell BKB.out 4).trans rfl; have hcz39_5 : w36.cell? ⟨gbB, 5, none⟩ = some (.int .i64 a1_5) := (blk_cell BKB.out 5).trans rfl; have hcz39_6 : w36.cell? ⟨gbB, 6, none⟩ = some (.slice A1_6 l1_6.length c1_6) := (blk_cell BKB.out 6).trans rfl; have hfz39_0 := blk_frozen BKB.out 0; have hfz39_1 := blk_frozen BKB.out 1; have hfz39_2 := blk_frozen BKB.out 2; have hfz39_3 := blk_frozen BKB.out 3; have hfz39_4 := blk_frozen BKB.out 4; have hfz39_5 := blk_frozen BKB.out 5; have hfz39_6 := blk_frozen BKB.out 6))
   go_ret
   exact ⟨by first | rfl | (simp [errW_none, errW_some] <;> rfl) | (simp [*, errW_none, errW_some] <;> rfl), by repeat (first | (with_reducible first | exact HB.out | apply below_alloc | apply pw_below_drewN | apply below_drew1 | refine below_set ?_ GEA.out | refine below_set ?_ GEB.out) | exact HB.out)⟩
 ·rw [if_neg c3] at H
  have c3b0 : (a0_0 == a1_0) = false := beq_eq_false_iff_ne.mpr c3
  have c3b1 : (a0_0 != a1_0) = true := bne_iff_ne.mpr c3
  obtain rfl := Option.some.inj H
  go_enter Tryd.func14, Tryd.ntmps14
  go_wp2_with (first | ((with_reducible refine gate_dst (N := 2) rfl ?_); refine box_event ?hg (N := 2) ?hd (cs := #[.int .i64 a0_0, .int .i64 a0_1, .int .i64 a0_2, .int .i64 a0_3, .int .i64 a0_4, .int .i64 a0_5, .slice A0_6 l0_6.length c0_6]) (t := 24) ?hr ?_; (case hd => rfl); (case hg => rfl); (case hr => first | (go_simp; done) | (go_simp; rfl)); intro gbA hg w40 hbox hb; have n0_ := Aside0.mk (below_step (by repeat (first | (with_reducible first | exact HB.out | apply below_alloc | apply pw_below_drewN | apply below_drew1) | exact HB.out)) hb); have n1_ := Aside0.mk (hbox); have n2_ := Aside0.mk ((by rw [hg]; exact (below_size (by repeat (first | (with_reducible first | exact HB.out | apply below_alloc | apply pw_below_drewN | apply below_drew1) | exact HB.out))) : w.heap.size ≤ gbA)); have n3_ := Aside0.mk ((by rw [hg]; exact (below_size (by repeat (first | (with_reducible first | exact HB.out | apply below_alloc | apply pw_below_drewN | apply below_drew1) | exact HB.out))) : w.heap.size ≤ gbA)); clear HB; have HB := n0_; have BKA := n1_; have GWA := n2_; have GEA := n3_; clear n0_ n1_ n2_ n3_; clear hb hbox hg) | ((with_reducible refine gate_dst (N := 3) rfl ?_); refine box_event ?hg (N := 3) ?hd (cs := #[.int .i64 a1_0, .int .i64 a1_1, .int .i64 a1_2, .int .i64 a1_3, .int .i64 a1_4, .int .i64 a1_5, .slice A1_6 l1_6.length c1_6]) (t := 24) ?hr ?_; (case hd => rfl); (case hg => rfl); (case hr => first | (go_simp; done) | (go_simp; rfl)); intro gbB hg w41 hbox hb; have n0_ := Aside0.mk (blk_below (g := gbA) (o := .cells #[.int .i64 a0_0, .int .i64 a0_1, .int .i64 a0_2, .int .i64 a0_3, .int .i64 a0_4, .int .i64 a0_5, .slice A0_6 l0_6.length c0_6] 24 (0, 0)) (by (with_reducible repeat (first | refine blk_drewN ?_ _ | refine blk_drew ?_ | refine blk_alloc ?_ _)); exact BKA.out) hb); have n1_ := Aside0.mk (below_step (by repeat (first | (with_reducible first | exact HB.out | apply below_alloc | apply pw_below_drewN | apply below_drew1 | refine below_set ?_ GEA.out) | exact HB.out)) hb); have n2_ := Aside0.mk (hbox); have n3_ := Aside0.mk ((by rw [hg]; exact (below_size (by repeat (first | (with_reducible first | exact HB.out | apply below_alloc | apply pw_below_drewN | apply below_drew1 | refine below_set ?_ GEA.out) | exact HB.out))) : w.heap.size ≤ gbB)); have n4_ := Aside0.mk ((by rw [hg]; exact (below_size (by repeat (first | (with_reducible first | exact HB.out | apply below_alloc | apply pw_below_drewN | apply below_drew1 | refine below_set ?_ GEA.out) | exact HB.out))) : w.heap.size ≤ gbB)); have n5_ := Aside0.mk ((by rw [hg]; exact Nat.ne_of_lt (blk_lt (g := gbA) (o := .cells #[.int .i64 a0_0, .int .i64 a0_1, .int .i64 a0_2, .int .i64 a0_3, .int .i64 a0_4, .int .i64 a0_5, .slice A0_6 l0_6.length c0_6] 24 (0, 0)) (by (with_reducible repeat (first | refine blk_drewN ?_ _ | refine blk_drew ?_ | refine blk_alloc ?_ _)); exact BKA.out)) : gbA ≠ gbB)); have n6_ := Aside0.mk ((by rw [hg]; exact Nat.ne_of_gt (blk_lt (g := gbA) (o := .cells #[.int .i64 a0_0, .int .i64 a0_1, .int .i64 a0_2, .int .i64 a0_3, .int .i64 a0_4, .int .i64 a0_5, .slice A0_6 l0_6.length c0_6] 24 (0, 0)) (by (with_reducible repeat (first | refine blk_drewN ?_ _ | refine blk_drew ?_ | refine blk_alloc ?_ _)); exact BKA.out)) : gbB ≠ gbA)); clear BKA; clear HB; have BKA := n0_; have HB := n1_; have BKB := n2_; have GWB := n3_; have GEB := n4_; have NBA_B := n5_; have NBB_A := n6_; clear n0_ n1_ n2_ n3_ n4_ n5_ n6_; clear hb hbox hg; have hnb42 := NBA_B.out; have hnc42 := NBB_A.out; have hcz43_0 : w41.cell? ⟨gbA, 0, none⟩ = some (.int .i64 a0_0) := (blk_cell BKA.out 0).trans rfl; have hcz43_1 : w41.cell? ⟨gbA, 1, none⟩ = some (.int .i64 a0_1) := (blk_cell BKA.out 1).trans rfl; have hcz43_2 : w41.cell? ⟨gbA, 2, none⟩ = some (.int .i64 a0_2) := (blk_cell BKA.out 2).trans rfl; have hcz43_3 : w41.cell? ⟨gbA, 3, none⟩ = some (.int .i64 a0_3) := (blk_cell BKA.out 3).trans rfl; have hcz43_4 : w41.cell? ⟨gbA, 4, none⟩ = some (.int .i64 a0_4) := (blk_cell BKA.out 4).trans rfl; have hcz43_5 : w41.cell? ⟨gbA, 5, none⟩ = some (.int .i64 a0_5) := (blk_cell BKA.out 5).trans rfl; have hcz43_6 : w41.cell? ⟨gbA, 6, none⟩ = some (.slice A0_6 l0_6.length c0_6) := (blk_cell BKA.out 6).trans rfl; have hfz43_0 := blk_frozen BKA.out 0; have hfz43_1 := blk_frozen BKA.out 1; have hfz43_2 := blk_frozen BKA.out 2; have hfz43_3 := blk_frozen BKA.out 3; have hfz43_4 := blk_frozen BKA.out 4; have hfz43_5 := blk_frozen BKA.out 5; have hfz43_6 := blk_frozen BKA.out 6; have hcz44_0 : w41.cell? ⟨gbB, 0, none⟩ = some (.int .i64 a1_0) := (blk_cell BKB.out 0).trans rfl; have hcz44_1 : w41.cell? ⟨gbB, 1, none⟩ = some (.int .i64 a1_1) := (blk_cell BKB.out 1).trans rfl; have hcz44_2 : w41.cell? ⟨gbB, 2, none⟩ = some (.int .i64 a1_2) := (blk_cell BKB.out 2).trans rfl; have hcz44_3 : w41.cell? ⟨gbB, 3, none⟩ = some (.int .i64 a1_3) := (blk_cell BKB.out 3).trans rfl; have hcz44_4 : w41.cell? ⟨gbB, 4, none⟩ = some (.int .i64 a1_4) := (blk_cell BKB.out 4).trans rfl; have hcz44_5 : w41.cell? ⟨gbB, 5, none⟩ = some (.int .i64 a1_5) := (blk_cell BKB.out 5).trans rfl; have hcz44_6 : w41.cell? ⟨gbB, 6, none⟩ = some (.slice A1_6 l1_6.length c1_6) := (blk_cell BKB.out 6).trans rfl; have hfz44_0 := blk_frozen BKB.out 0; have hfz44_1 := blk_frozen BKB.out 1; have hfz44_2 := blk_frozen BKB.out 2; have hfz44_3 := blk_frozen BKB.out 3; have hfz44_4 := blk_frozen BKB.out 4; have hfz44_5 := blk_frozen BKB.out 5; have hfz44_6 := blk_frozen BKB.out 6))
  go_ret
  exact ⟨by first | rfl | (simp [errW_none, errW_some] <;> rfl) | (simp [*, errW_none, errW_some] <;> rfl), by repeat (first | (with_reducible first | exact HB.out | apply below_alloc | apply pw_below_drewN | apply below_drew1 | refine below_set ?_ GEA.out | refine below_set ?_ GEB.out) | exact HB.out)⟩

end Go.Proofs.YtdgaancbeakfdaaDoor.Q
