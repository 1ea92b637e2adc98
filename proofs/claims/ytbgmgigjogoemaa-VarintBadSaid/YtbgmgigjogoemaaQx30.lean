-- Written by a program of this session (mp.py).
import Derived.Test.YtbgmgigjogoemaaQx0
import Derived.Test.YtbgmgigjogoemaaQx4
import Derived.Test.YtbgmgigjogoemaaQx5
import Derived.Test.YtbgmgigjogoemaaQx6
import Derived.Test.YtbgmgigjogoemaaQx8
import Derived.Test.YtbgmgigjogoemaaQx9
import Derived.Test.YtbgmgigjogoemaaQx18
import Derived.Test.YtbgmgigjogoemaaQx26
namespace Go.Proofs.Ytbgmgigjogoemaa.Q
open Go.RowKit Go.Proofs.YtbgmgigjogoemaaW.PrintWords Go.Proofs.YtbgmgigjogoemaaW.PrintLast Go.Proofs.YtbgmgigjogoemaaW.PrintMore
attribute [local go_sem] max2_int min2_int max_two min_two max_three min_three max_four min_four   -- for this text's walks alone
open Go.Proofs.Ytbgmgigjogoemaa.Giv
set_option linter.unusedVariables false
set_option linter.unusedSimpArgs false

/-! ### billetlaw01_VarintBad: function 11 -/
mutual
def billetlaw01_VarintBad.j0 : Nat → ByteArray → List (S39) → Bool → ByteArray → Int → Bool → Option (Bool)
  | 0, _, _, _, _, _, _ => none
  | k + 1, x0, x1, x24, x332000, x332001, x332002 => if x24 = true then (some false) else ((varint_Reader_Left.f x332000 x332001 x332002).bind fun bt336 => (billetlaw01_VarintBad.l0 k x0 x1 bt336.1 0 bt336.2.1 bt336.2.2.1 bt336.2.2.2))
def billetlaw01_VarintBad.l0 : Nat → ByteArray → List (S39) → Int → Int → ByteArray → Int → Bool → Option (Bool)
  | 0, _, _, _, _, _, _, _ => none
  | k + 1, x0, x1, x7, x8, x332000, x332001, x332002 => if x8 < (x1.length : Int) then (billetlaw01_VarintBad.j2 k x0 x1 x7 x8 (decide (x8 < 100)) x332000 x332001 x332002) else (billetlaw01_VarintBad.j2 k x0 x1 x7 x8 false x332000 x332001 x332002)
def billetlaw01_VarintBad.j2 : Nat → ByteArray → List (S39) → Int → Int → Bool → ByteArray → Int → Bool → Option (Bool)
  | 0, _, _, _, _, _, _, _, _ => none
  | k + 1, x0, x1, x7, x8, x34, x332000, x332001, x332002 => if x34 = true then (if 0 ≤ x8 then (if x8 < (x1.length : Int) then (if (Int.tmod ((rd_T39 x1 x8).f0) 2) = 0 then ((varint_Reader_Num.f k x332000 x332001 x332002).bind fun bt345 => (if bt345.1 = 0 then ((varint_Reader_Bad.f bt345.2.1 bt345.2.2.1 bt345.2.2.2).bind fun bt350 => (if bt350.1 = true then ((varint_Reader_Left.f bt350.2.1 bt350.2.2.1 bt350.2.2.2).bind fun bt354 => (if bt354.1 = x7 then ((varint_Reader_Ends.f bt354.2.1 bt354.2.2.1 bt354.2.2.2).bind fun bt358 => (if bt358.1 = true then (some false) else (billetlaw01_VarintBad.l0 k x0 x1 x7 (wrap64 (x8 + 1)) bt358.2.1 bt358.2.2.1 bt358.2.2.2))) else (some false))) else (some false))) else (some false))) else ((varint_Reader_Text.f k x332000 x332001 x332002 ((rd_T39 x1 x8).f1)).bind fun bt364 => (if bt364.1.toList = ([] : List UInt8) then ((varint_Reader_Bad.f bt364.2.1 bt364.2.2.1 bt364.2.2.2).bind fun bt368 => (if bt368.1 = true then ((varint_Reader_Left.f bt368.2.1 bt368.2.2.1 bt368.2.2.2).bind fun bt372 => (if bt372.1 = x7 then ((varint_Reader_Ends.f bt372.2.1 bt372.2.2.1 bt372.2.2.2).bind fun bt376 => (if bt376.1 = true then (some false) else (billetlaw01_VarintBad.l0 k x0 x1 x7 (wrap64 (x8 + 1)) bt376.2.1 bt376.2.2.1 bt376.2.2.2))) else (some false))) else (some false))) else (some false)))) else (none)) else (none)) else ((varint_Reader_Bad.f x332000 x332001 x332002).bind fun bt340 => (if bt340.1 = true then (some (x7 == (x0.size : Int))) else (some false)))
end
def billetlaw01_VarintBad.f (k : Nat) (a0 : ByteArray) (l1 : List (S39)) : Option (Bool) := (billetlaw01_awake.f k).bind fun t326 => ((varint_Num.f (-1)).bind fun t327 => (if t327.size + a0.size ≤ 9223372036854775807 then ((varint_New.f (t327 ++ a0)).bind fun bt328 => (if t326 = true then ((varint_Reader_Text.f k bt328.1 bt328.2.1 bt328.2.2 100).bind fun bt332 => (billetlaw01_VarintBad.j0 k a0 l1 (bt332.1.toList != ([] : List UInt8)) bt332.2.1 bt332.2.2.1 bt332.2.2.2)) else (billetlaw01_VarintBad.j0 k a0 l1 true bt328.1 bt328.2.1 bt328.2.2))) else (none)))
theorem billetlaw01_VarintBad.mono_l : ∀ k, (∀ y0 y1 y2 y3 y4 y5, LeO (billetlaw01_VarintBad.j0 k y0 y1 y2 y3 y4 y5) (billetlaw01_VarintBad.j0 (k + 1) y0 y1 y2 y3 y4 y5)) ∧ (∀ y0 y1 y2 y3 y4 y5 y6, LeO (billetlaw01_VarintBad.l0 k y0 y1 y2 y3 y4 y5 y6) (billetlaw01_VarintBad.l0 (k + 1) y0 y1 y2 y3 y4 y5 y6)) ∧ (∀ y0 y1 y2 y3 y4 y5 y6 y7, LeO (billetlaw01_VarintBad.j2 k y0 y1 y2 y3 y4 y5 y6 y7) (billetlaw01_VarintBad.j2 (k + 1) y0 y1 y2 y3 y4 y5 y6 y7))
  | 0 => ⟨fun _ _ _ _ _ _ r h => by simp [billetlaw01_VarintBad.j0] at h, fun _ _ _ _ _ _ _ r h => by simp [billetlaw01_VarintBad.l0] at h, fun _ _ _ _ _ _ _ _ r h => by simp [billetlaw01_VarintBad.j2] at h⟩
  | k + 1 => by
    obtain ⟨ih0, ih1, ih2⟩ := billetlaw01_VarintBad.mono_l k
    refine ⟨?_, ?_, ?_⟩
    · intro y0 y1 y2 y3 y4 y5
      unfold billetlaw01_VarintBad.j0
      repeat' first
      | (with_reducible exact ih0 _ _ _ _ _ _)
      | (with_reducible exact ih1 _ _ _ _ _ _ _)
      | (with_reducible exact ih2 _ _ _ _ _ _ _ _)
      | (with_reducible exact billetlaw01_awake.mono _)
      | (with_reducible exact varint_Reader_Num.mono _ _ _ _)
      | (with_reducible exact varint_Reader_Text.mono _ _ _ _ _)
      | (with_reducible exact LeO.refl _)
      | (with_reducible exact LeO.none _)
      | (with_reducible refine LeO.ite ?_ ?_)
      | (with_reducible refine LeO.bind ?_ (fun _ => ?_))
      | exact ih0 _ _ _ _ _ _
      | exact ih1 _ _ _ _ _ _ _
      | exact ih2 _ _ _ _ _ _ _ _
      | exact billetlaw01_awake.mono _
      | exact varint_Reader_Num.mono _ _ _ _
      | exact varint_Reader_Text.mono _ _ _ _ _
      | exact LeO.none _
      | refine LeO.ite ?_ ?_
      | refine LeO.bind ?_ (fun _ => ?_)
    · intro y0 y1 y2 y3 y4 y5 y6
      unfold billetlaw01_VarintBad.l0
      repeat' first
      | (with_reducible exact ih0 _ _ _ _ _ _)
      | (with_reducible exact ih1 _ _ _ _ _ _ _)
      | (with_reducible exact ih2 _ _ _ _ _ _ _ _)
      | (with_reducible exact billetlaw01_awake.mono _)
      | (with_reducible exact varint_Reader_Num.mono _ _ _ _)
      | (with_reducible exact varint_Reader_Text.mono _ _ _ _ _)
      | (with_reducible exact LeO.refl _)
      | (with_reducible exact LeO.none _)
      | (with_reducible refine LeO.ite ?_ ?_)
      | (with_reducible refine LeO.bind ?_ (fun _ => ?_))
      | exact ih0 _ _ _ _ _ _
      | exact ih1 _ _ _ _ _ _ _
      | exact ih2 _ _ _ _ _ _ _ _
      | exact billetlaw01_awake.mono _
      | exact varint_Reader_Num.mono _ _ _ _
      | exact varint_Reader_Text.mono _ _ _ _ _
      | exact LeO.none _
      | refine LeO.ite ?_ ?_
      | refine LeO.bind ?_ (fun _ => ?_)
    · intro y0 y1 y2 y3 y4 y5 y6 y7
      unfold billetlaw01_VarintBad.j2
      repeat' first
      | (with_reducible exact ih0 _ _ _ _ _ _)
      | (with_reducible exact ih1 _ _ _ _ _ _ _)
      | (with_reducible exact ih2 _ _ _ _ _ _ _ _)
      | (with_reducible exact billetlaw01_awake.mono _)
      | (with_reducible exact varint_Reader_Num.mono _ _ _ _)
      | (with_reducible exact varint_Reader_Text.mono _ _ _ _ _)
      | (with_reducible exact LeO.refl _)
      | (with_reducible exact LeO.none _)
      | (with_reducible refine LeO.ite ?_ ?_)
      | (with_reducible refine LeO.bind ?_ (fun _ => ?_))
      | exact ih0 _ _ _ _ _ _
      | exact ih1 _ _ _ _ _ _ _
      | exact ih2 _ _ _ _ _ _ _ _
      | exact billetlaw01_awake.mono _
      | exact varint_Reader_Num.mono _ _ _ _
      | exact varint_Reader_Text.mono _ _ _ _ _
      | exact LeO.none _
      | refine LeO.ite ?_ ?_
      | refine LeO.bind ?_ (fun _ => ?_)
theorem billetlaw01_VarintBad.mono : ∀ a0 a1 k, LeO (billetlaw01_VarintBad.f k a0 a1) (billetlaw01_VarintBad.f (k + 1) a0 a1) := by
  intro a0 a1 k
  obtain ⟨ih0, ih1, ih2⟩ := billetlaw01_VarintBad.mono_l k
  unfold billetlaw01_VarintBad.f
  repeat' first
      | (with_reducible exact ih0 _ _ _ _ _ _)
      | (with_reducible exact ih1 _ _ _ _ _ _ _)
      | (with_reducible exact ih2 _ _ _ _ _ _ _ _)
      | (with_reducible exact billetlaw01_awake.mono _)
      | (with_reducible exact varint_Reader_Num.mono _ _ _ _)
      | (with_reducible exact varint_Reader_Text.mono _ _ _ _ _)
      | (with_reducible exact LeO.refl _)
      | (with_reducible exact LeO.none _)
      | (with_reducible refine LeO.ite ?_ ?_)
      | (with_reducible refine LeO.bind ?_ (fun _ => ?_))
      | exact ih0 _ _ _ _ _ _
      | exact ih1 _ _ _ _ _ _ _
      | exact ih2 _ _ _ _ _ _ _ _
      | exact billetlaw01_awake.mono _
      | exact varint_Reader_Num.mono _ _ _ _
      | exact varint_Reader_Text.mono _ _ _ _ _
      | exact LeO.none _
      | refine LeO.ite ?_ ?_
      | refine LeO.bind ?_ (fun _ => ?_)
set_option maxHeartbeats 8000000 in
set_option maxRecDepth 100000 in
theorem billetlaw01_VarintBad.calls (k : Nat) (a0 : ByteArray) (A1 : Option Addr) (c1 : Nat) (l1 : List (S39)) (r : Bool) (w : World) (hr1 : Kd.C k39 w A1 l1.length l1) (hc1 : l1.length ≤ c1) (h : billetlaw01_VarintBad.f k a0 l1 = some r) :
    Calls Try.prog 11 #[.string a0, .slice A1 l1.length c1] w fun e w' => e = .returned (.bool r) ∧ Below w.heap.size w w' := by
  have HR1 := Aside0.mk hr1
  have HC1 := Aside0.mk hc1
  clear hr1 hc1
  have HB := Aside0.mk (Below.refl w.heap.size w)
  have H : ((billetlaw01_awake.f k).bind fun t326 => ((varint_Num.f (-1)).bind fun t327 => (if t327.size + a0.size ≤ 9223372036854775807 then ((varint_New.f (t327 ++ a0)).bind fun bt328 => (if t326 = true then ((varint_Reader_Text.f k bt328.1 bt328.2.1 bt328.2.2 100).bind fun bt332 => (billetlaw01_VarintBad.j0 k a0 l1 (bt332.1.toList != ([] : List UInt8)) bt332.2.1 bt332.2.2.1 bt332.2.2.2)) else (billetlaw01_VarintBad.j0 k a0 l1 true bt328.1 bt328.2.1 bt328.2.2))) else (none)))) = some r := h
  clear h
  replace H := Option.bind_eq_some_iff.mp H
  obtain ⟨t326, A30, H⟩ := H
  replace H : ((varint_Num.f (-1)).bind fun t327 => (if t327.size + a0.size ≤ 9223372036854775807 then ((varint_New.f (t327 ++ a0)).bind fun bt328 => (if t326 = true then ((varint_Reader_Text.f k bt328.1 bt328.2.1 bt328.2.2 100).bind fun bt332 => (billetlaw01_VarintBad.j0 k a0 l1 (bt332.1.toList != ([] : List UInt8)) bt332.2.1 bt332.2.2.1 bt332.2.2.2)) else (billetlaw01_VarintBad.j0 k a0 l1 true bt328.1 bt328.2.1 bt328.2.2))) else (none))) = some r := H
  have A3 := Aside0.mk A30
  clear A30
  replace H := Option.bind_eq_some_iff.mp H
  obtain ⟨t327, A40, H⟩ := H
  replace H : (if t327.size + a0.size ≤ 9223372036854775807 then ((varint_New.f (t327 ++ a0)).bind fun bt328 => (if t326 = true then ((varint_Reader_Text.f k bt328.1 bt328.2.1 bt328.2.2 100).bind fun bt332 => (billetlaw01_VarintBad.j0 k a0 l1 (bt332.1.toList != ([] : List UInt8)) bt332.2.1 bt332.2.2.1 bt332.2.2.2)) else (billetlaw01_VarintBad.j0 k a0 l1 true bt328.1 bt328.2.1 bt328.2.2))) else (none)) = some r := H
  have A4 := Aside0.mk A40
  clear A40
  by_cases c5 : t327.size + a0.size ≤ 9223372036854775807
  · rw [if_pos c5] at H
    have c5b0 := eq_true c5
    have c5b1 : decide (t327.size + a0.size ≤ 9223372036854775807) = true := decide_eq_true c5
    try have c5b2 : (9223372036854775807 < t327.size + a0.size) = False := eq_false (Nat.not_lt.2 c5)
    replace H := Option.bind_eq_some_iff.mp H
    obtain ⟨⟨t328, t329, t330⟩, A60, H⟩ := H
    replace H : (if t326 = true then ((varint_Reader_Text.f k t328 t329 t330 100).bind fun bt332 => (billetlaw01_VarintBad.j0 k a0 l1 (bt332.1.toList != ([] : List UInt8)) bt332.2.1 bt332.2.2.1 bt332.2.2.2)) else (billetlaw01_VarintBad.j0 k a0 l1 true t328 t329 t330)) = some r := H
    have A6 := Aside0.mk A60
    clear A60
    have HC7 := Aside0.mk H
    clear H
    go_enter Try.func11, Try.ntmps11
    go_upto_region 3 with (first | ((with_reducible refine gate_callee (f := 13) rfl ?_); refine goesL_ (some 9) rfl rfl Try.func13 (by kernel_rfl) rfl #[] rfl (by (try simp only [List.map_toArray, List.map_cons, List.map_nil]); first | done | rfl | (simp only [List.length_drop, List.length_take]; rfl)) ?_; (with_reducible refine (billetlaw01_awake.calls k  t326 _ A3.out).mono ?_); rintro e w8 ⟨rfl, hb⟩; refine ⟨_, rfl, ?_⟩; have n0_ := Aside0.mk (below_step (by repeat (first | (with_reducible first | exact HB.out | apply below_alloc | apply pw_below_drewN | apply below_drew1) | exact HB.out)) hb); clear HB; have HB := n0_; clear n0_; (try clear hb); (try clear hb2); (try clear hk); (try clear hi)) | ((with_reducible refine gate_callee (f := 14) rfl ?_); refine goesL_ (some 10) rfl rfl Try.func14 (by kernel_rfl) rfl #[.int .i64 (-1)] rfl (by (try simp only [List.map_toArray, List.map_cons, List.map_nil]); first | done | rfl | (simp only [List.length_drop, List.length_take]; rfl)) ?_; (with_reducible refine (varint_Num.calls (-1) t327 _ A4.out).mono ?_); rintro e w9 ⟨rfl, hb⟩; refine ⟨_, rfl, ?_⟩; have n0_ := Aside0.mk (below_step (by repeat (first | (with_reducible first | exact HB.out | apply below_alloc | apply pw_below_drewN | apply below_drew1) | exact HB.out)) hb); clear HB; have HB := n0_; clear n0_; (try clear hb); (try clear hb2); (try clear hk); (try clear hi)) | ((with_reducible refine gate_callee (f := 19) rfl ?_); refine goesL_ (some 13) rfl rfl Try.func19 (by kernel_rfl) rfl #[.string (t327 ++ a0)] rfl (by (try simp only [List.map_toArray, List.map_cons, List.map_nil]); first | done | rfl | (simp only [List.length_drop, List.length_take]; rfl)) ?_; (with_reducible refine (varint_New.calls (t327 ++ a0) t328 t329 t330 w _ ?side1 A6.out).mono ?_); (case side1 => repeat (first | (with_reducible first | exact HB.out | apply below_alloc | apply pw_below_drewN | apply below_drew1) | exact HB.out)); rintro e w10 ⟨g331, rfl, hi, hb, hb2⟩; refine ⟨_, rfl, ?_⟩; have n0_ := Aside0.mk (hb); have n1_ := Aside0.mk (hi); clear HB; have HB := n0_; have HI331 := n1_; clear n0_ n1_; (try clear hb); (try clear hb2); (try clear hk); (try clear hi)))
    (try simp only [Act.put, List.setIfInBounds_toArray, List.set_cons_zero, List.set_cons_succ])
    go_cut [24] (fun v24 wc => ∃ (kq : Nat) (x24_6 : Bool) (x332000_6 : ByteArray) (x332001_6 : Int) (x332002_6 : Bool), v24 = .bool x24_6 ∧ Aside0 (billetlaw01_VarintBad.j0 kq a0 l1 x24_6 x332000_6 x332001_6 x332002_6 = some r) ∧ Aside0 (kq ≤ k) ∧ Aside0 (IsS51 w wc g331 x332000_6 x332001_6 x332002_6) ∧ Aside0 (Below w.heap.size w wc))
    case first =>
      have H := HC7.out
      clear HC7
      by_cases c11 : t326 = true
      · subst c11
        have H1 : ((varint_Reader_Text.f k t328 t329 t330 100).bind fun bt332 => (billetlaw01_VarintBad.j0 k a0 l1 (bt332.1.toList != ([] : List UInt8)) bt332.2.1 bt332.2.2.1 bt332.2.2.2)) = some r := by rw [if_pos rfl] at H; exact H
        clear H
        have H := H1
        clear H1
        replace H := Option.bind_eq_some_iff.mp H
        obtain ⟨⟨t332, t333, t334, t335⟩, A120, H⟩ := H
        replace H : (billetlaw01_VarintBad.j0 k a0 l1 (t332.toList != ([] : List UInt8)) t333 t334 t335) = some r := H
        have A12 := Aside0.mk A120
        clear A120
        have H' := Aside0.mk H
        clear H
        go_wp2_with (first | (go_at_call 20; (with_reducible refine (varint_Reader_Text.calls k g331 t328 t329 t330 100 t332 t333 t334 t335 w _ ?side1 ?side2 A12.out).mono ?_); (case side1 => repeat (first | (with_reducible first | exact HI331.out | apply IsS51.alloc | apply IsS51.drewN | apply IsS51.drew | apply IsS51.set_0 | apply IsS51.set_1 | apply IsS51.set_2) | exact HI331.out)); (case side2 => repeat (first | (with_reducible first | exact HB.out | apply below_alloc | apply pw_below_drewN | apply below_drew1 | refine below_set ?_ (IsS51.ge HI331.out)) | exact HB.out)); rintro e w13 ⟨rfl, hi, hb, hk⟩; have n0_ := Aside0.mk (hb); have n1_ := Aside0.mk (hi); clear HB; clear HI331; have HB := n0_; have HI331 := n1_; clear n0_ n1_; (try clear hb); (try clear hb2); (try clear hk); (try clear hi)))
        go_meet
        case rel => exact ⟨_, ((t332.toList != ([] : List UInt8))), (t333), (t334), (t335), (by first | rfl | (simp; done) | (simp [*]; done) | (cases t332.toList <;> rfl) | (simp; cases t332.toList <;> rfl)), H', ⟨by first | omega | exact Nat.le_refl _⟩, ⟨by repeat (first | (with_reducible first | exact HI331.out | apply IsS51.alloc | apply IsS51.drewN | apply IsS51.drew | apply IsS51.set_0 | apply IsS51.set_1 | apply IsS51.set_2) | exact HI331.out)⟩, ⟨by repeat (first | (with_reducible first | exact HB.out | apply below_alloc | apply pw_below_drewN | apply below_drew1 | refine below_set ?_ (IsS51.ge HI331.out)) | exact HB.out)⟩⟩
      · replace c11 := Bool.eq_false_iff.mpr c11
        subst c11
        have H1 : (billetlaw01_VarintBad.j0 k a0 l1 true t328 t329 t330) = some r := by rw [if_neg (show ¬ (false = true) by decide)] at H; exact H
        clear H
        have H := H1
        clear H1
        have H' := Aside0.mk H
        clear H
        go_wp2
        go_meet
        case rel => exact ⟨_, (true), (t328), (t329), (t330), (by first | rfl | (simp; done) | (simp [*]; done)), H', ⟨by first | omega | exact Nat.le_refl _⟩, ⟨by repeat (first | (with_reducible first | exact HI331.out | apply IsS51.alloc | apply IsS51.drewN | apply IsS51.drew | apply IsS51.set_0 | apply IsS51.set_1 | apply IsS51.set_2) | exact HI331.out)⟩, ⟨by repeat (first | (with_reducible first | exact HB.out | apply below_alloc | apply pw_below_drewN | apply below_drew1 | refine below_set ?_ (IsS51.ge HI331.out)) | exact HB.out)⟩⟩
    case rest =>
      clear HC7
      try clear c1
      try clear p2
      try clear c5
      try clear c5b0
      try clear c5b1
      try clear c5b2
      try clear c11
      try clear c13
      obtain ⟨kq, x24_6, x332000_6, x332001_6, x332002_6, rfl, HA, HJ6, HI331, HB⟩ := hcut
      cases kq with
      | zero => exact absurd HA.out (by simp [billetlaw01_VarintBad.j0])
      | succ kj6 =>
        have H := HA.out
        clear HA
        simp only [billetlaw01_VarintBad.j0] at H
        by_cases c14 : x24_6 = true
        · subst c14
          have H1 : (some false) = some r := by rw [if_pos rfl] at H; exact H
          clear H
          have H := H1
          clear H1
          obtain rfl := Option.some.inj H
          go_wp2
          go_ret
          exact ⟨by first | rfl | (simp [errW_none, errW_some] <;> rfl) | (simp [*, errW_none, errW_some] <;> rfl), by repeat (first | (with_reducible first | exact HB.out | apply below_alloc | apply pw_below_drewN | apply below_drew1 | refine below_set ?_ (IsS51.ge HI331.out)) | exact HB.out)⟩
        · replace c14 := Bool.eq_false_iff.mpr c14
          subst c14
          have H1 : ((varint_Reader_Left.f x332000_6 x332001_6 x332002_6).bind fun bt336 => (billetlaw01_VarintBad.l0 kj6 a0 l1 bt336.1 0 bt336.2.1 bt336.2.2.1 bt336.2.2.2)) = some r := by rw [if_neg (show ¬ (false = true) by decide)] at H; exact H
          clear H
          have H := H1
          clear H1
          replace H := Option.bind_eq_some_iff.mp H
          obtain ⟨⟨t336, t337, t338, t339⟩, A150, H⟩ := H
          replace H : (billetlaw01_VarintBad.l0 kj6 a0 l1 t336 0 t337 t338 t339) = some r := H
          have A15 := Aside0.mk A150
          clear A150
          have H' := Aside0.mk H
          clear H
          go_wp2_with (first | ((with_reducible refine gate_callee (f := 22) rfl ?_); refine goesL_ (some 26) rfl rfl Try.func22 (by kernel_rfl) rfl #[.pointer (some ⟨g331, 0, none⟩)] rfl (by (try simp only [List.map_toArray, List.map_cons, List.map_nil]); first | done | rfl | (simp only [List.length_drop, List.length_take]; rfl)) ?_; (with_reducible refine (varint_Reader_Left.calls g331 x332000_6 x332001_6 x332002_6 t336 t337 t338 t339 w _ ?side1 ?side2 A15.out).mono ?_); (case side1 => repeat (first | (with_reducible first | exact HI331.out | apply IsS51.alloc | apply IsS51.drewN | apply IsS51.drew | apply IsS51.set_0 | apply IsS51.set_1 | apply IsS51.set_2) | exact HI331.out)); (case side2 => repeat (first | (with_reducible first | exact HB.out | apply below_alloc | apply pw_below_drewN | apply below_drew1 | refine below_set ?_ (IsS51.ge HI331.out)) | exact HB.out)); rintro e w16 ⟨rfl, hi, hb, hk⟩; refine ⟨_, rfl, ?_⟩; have n0_ := Aside0.mk (hb); have n1_ := Aside0.mk (hi); clear HB; clear HI331; have HB := n0_; have HI331 := n1_; clear n0_ n1_; (try clear hb); (try clear hb2); (try clear hk); (try clear hi)))
          go_loopg [8] kj6 (fun kq v8 w' => ∃ (x8_2 : Int) (x332000_2 : ByteArray) (x332001_2 : Int) (x332002_2 : Bool), v8 = .int .i64 x8_2 ∧ Aside0 (billetlaw01_VarintBad.l0 kq a0 l1 t336 x8_2 x332000_2 x332001_2 x332002_2 = some r) ∧ Aside0 (kq ≤ kj6) ∧ Aside0 (IsS51 w w' g331 x332000_2 x332001_2 x332002_2) ∧ Aside0 (Below w.heap.size w w'))
          case atStart => exact ⟨(0), (t337), (t338), (t339), (by first | rfl | (simp; done) | (simp [*]; done)), H', ⟨Nat.le_refl _⟩, ⟨by repeat (first | (with_reducible first | exact HI331.out | apply IsS51.alloc | apply IsS51.drewN | apply IsS51.drew | apply IsS51.set_0 | apply IsS51.set_1 | apply IsS51.set_2) | exact HI331.out)⟩, ⟨by repeat (first | (with_reducible first | exact HB.out | apply below_alloc | apply pw_below_drewN | apply below_drew1 | refine below_set ?_ (IsS51.ge HI331.out)) | exact HB.out)⟩⟩
          case round =>
            clear H'
            try clear c1
            try clear c2
            try clear p2
            try clear c5
            try clear c5b0
            try clear c5b1
            try clear c5b2
            try clear c11
            try clear c13
            try clear c14
            try clear p2
            obtain ⟨x8_2, x332000_2, x332001_2, x332002_2, rfl, HA, HK2, HI331, HB⟩ := hrel
            cases gk with
            | zero => exact absurd HA.out (by simp [billetlaw01_VarintBad.l0])
            | succ k2 =>
              have H := HA.out
              clear HA
              simp only [billetlaw01_VarintBad.l0] at H
              have HC17 := Aside0.mk H
              clear H
              go_upto_region 7 with (fail)
              go_cut [34] (fun v34 wc => ∃ (kq : Nat) (x34_16 : Bool), v34 = .bool x34_16 ∧ Aside0 (billetlaw01_VarintBad.j2 kq a0 l1 t336 x8_2 x34_16 x332000_2 x332001_2 x332002_2 = some r) ∧ Aside0 (kq ≤ k2) ∧ Aside0 (IsS51 w wc g331 x332000_2 x332001_2 x332002_2) ∧ Aside0 (Below w.heap.size w wc))
              case first =>
                have H := HC17.out
                clear HC17
                by_cases c18 : x8_2 < (l1.length : Int)
                · rw [if_pos c18] at H
                  have c18b0 : decide (x8_2 < (l1.length : Int)) = true := decide_eq_true c18
                  clear c18
                  (first | rw [c18b0] | (simp only [i64_w, i32_w]; rw [c18b0]) | skip)
                  have H' := Aside0.mk H
                  clear H
                  go_wp2
                  go_meet
                  case rel => exact ⟨_, (decide (x8_2 < 100)), (by first | rfl | (simp; done) | (simp [*]; done)), H', ⟨by have := HJ6.out; have := HK2.out; first | omega | exact Nat.le_refl _⟩, ⟨by repeat (first | (with_reducible first | exact HI331.out | apply IsS51.alloc | apply IsS51.drewN | apply IsS51.drew | apply IsS51.set_0 | apply IsS51.set_1 | apply IsS51.set_2) | exact HI331.out)⟩, ⟨by repeat (first | (with_reducible first | exact HB.out | apply below_alloc | apply pw_below_drewN | apply below_drew1 | refine below_set ?_ (IsS51.ge HI331.out)) | exact HB.out)⟩⟩
                · rw [if_neg c18] at H
                  have c18b0 : decide (x8_2 < (l1.length : Int)) = false := decide_eq_false c18
                  clear c18
                  (first | rw [c18b0] | (simp only [i64_w, i32_w]; rw [c18b0]) | skip)
                  have H' := Aside0.mk H
                  clear H
                  go_wp2
                  go_meet
                  case rel => exact ⟨_, (false), (by first | rfl | (simp; done) | (simp [*]; done)), H', ⟨by have := HJ6.out; have := HK2.out; first | omega | exact Nat.le_refl _⟩, ⟨by repeat (first | (with_reducible first | exact HI331.out | apply IsS51.alloc | apply IsS51.drewN | apply IsS51.drew | apply IsS51.set_0 | apply IsS51.set_1 | apply IsS51.set_2) | exact HI331.out)⟩, ⟨by repeat (first | (with_reducible first | exact HB.out | apply below_alloc | apply pw_below_drewN | apply below_drew1 | refine below_set ?_ (IsS51.ge HI331.out)) | exact HB.out)⟩⟩
              case rest =>
                clear HC17
                try clear c1
                try clear c2
                try clear p2
                try clear c5
                try clear c5b0
                try clear c5b1
                try clear c5b2
                try clear c11
                try clear c13
                try clear c14
                try clear c18
                try clear c18b0
                try clear p2
                obtain ⟨kq, x34_16, rfl, HA, HJ16, HI331, HB⟩ := hcut
                cases kq with
                | zero => exact absurd HA.out (by simp [billetlaw01_VarintBad.j2])
                | succ kj16 =>
                  have H := HA.out
                  clear HA
                  simp only [billetlaw01_VarintBad.j2] at H
                  by_cases c19 : x34_16 = true
                  · subst c19
                    have H1 : (if 0 ≤ x8_2 then (if x8_2 < (l1.length : Int) then (if (Int.tmod ((rd_T39 l1 x8_2).f0) 2) = 0 then ((varint_Reader_Num.f kj16 x332000_2 x332001_2 x332002_2).bind fun bt345 => (if bt345.1 = 0 then ((varint_Reader_Bad.f bt345.2.1 bt345.2.2.1 bt345.2.2.2).bind fun bt350 => (if bt350.1 = true then ((varint_Reader_Left.f bt350.2.1 bt350.2.2.1 bt350.2.2.2).bind fun bt354 => (if bt354.1 = t336 then ((varint_Reader_Ends.f bt354.2.1 bt354.2.2.1 bt354.2.2.2).bind fun bt358 => (if bt358.1 = true then (some false) else (billetlaw01_VarintBad.l0 kj16 a0 l1 t336 (wrap64 (x8_2 + 1)) bt358.2.1 bt358.2.2.1 bt358.2.2.2))) else (some false))) else (some false))) else (some false))) else ((varint_Reader_Text.f kj16 x332000_2 x332001_2 x332002_2 ((rd_T39 l1 x8_2).f1)).bind fun bt364 => (if bt364.1.toList = ([] : List UInt8) then ((varint_Reader_Bad.f bt364.2.1 bt364.2.2.1 bt364.2.2.2).bind fun bt368 => (if bt368.1 = true then ((varint_Reader_Left.f bt368.2.1 bt368.2.2.1 bt368.2.2.2).bind fun bt372 => (if bt372.1 = t336 then ((varint_Reader_Ends.f bt372.2.1 bt372.2.2.1 bt372.2.2.2).bind fun bt376 => (if bt376.1 = true then (some false) else (billetlaw01_VarintBad.l0 kj16 a0 l1 t336 (wrap64 (x8_2 + 1)) bt376.2.1 bt376.2.2.1 bt376.2.2.2))) else (some false))) else (some false))) else (some false)))) else (none)) else (none)) = some r := by rw [if_pos rfl] at H; exact H
                    clear H
                    have H := H1
                    clear H1
                    by_cases c20 : 0 ≤ x8_2
                    · rw [if_pos c20] at H
                      have c20b0 : decide (0 ≤ x8_2) = true := decide_eq_true c20
                      clear c20
                      by_cases c21 : x8_2 < (l1.length : Int)
                      · rw [if_pos c21] at H
                        have c21b0 : decide (x8_2 < (l1.length : Int)) = true := decide_eq_true c21
                        clear c21
                        by_cases c22 : (Int.tmod ((rd_T39 l1 x8_2).f0) 2) = 0
                        · rw [if_pos c22] at H
                          have c22b0 : ((Int.tmod ((rd_T39 l1 x8_2).f0) 2) == 0) = true := beq_iff_eq.mpr c22
                          have c22b1 : ((Int.tmod ((rd_T39 l1 x8_2).f0) 2) != 0) = false := bne_eq_false_iff_eq.mpr c22
                          clear c22
                          replace H := Option.bind_eq_some_iff.mp H
                          obtain ⟨⟨t345, t346, t347, t348⟩, A230, H⟩ := H
                          replace H : (if t345 = 0 then ((varint_Reader_Bad.f t346 t347 t348).bind fun bt350 => (if bt350.1 = true then ((varint_Reader_Left.f bt350.2.1 bt350.2.2.1 bt350.2.2.2).bind fun bt354 => (if bt354.1 = t336 then ((varint_Reader_Ends.f bt354.2.1 bt354.2.2.1 bt354.2.2.2).bind fun bt358 => (if bt358.1 = true then (some false) else (billetlaw01_VarintBad.l0 kj16 a0 l1 t336 (wrap64 (x8_2 + 1)) bt358.2.1 bt358.2.2.1 bt358.2.2.2))) else (some false))) else (some false))) else (some false)) = some r := H
                          have A23 := Aside0.mk A230
                          clear A230
                          by_cases c24 : t345 = 0
                          · rw [if_pos c24] at H
                            have c24b0 : (t345 == 0) = true := beq_iff_eq.mpr c24
                            have c24b1 : (t345 != 0) = false := bne_eq_false_iff_eq.mpr c24
                            clear c24
                            replace H := Option.bind_eq_some_iff.mp H
                            obtain ⟨⟨t350, t351, t352, t353⟩, A250, H⟩ := H
                            replace H : (if t350 = true then ((varint_Reader_Left.f t351 t352 t353).bind fun bt354 => (if bt354.1 = t336 then ((varint_Reader_Ends.f bt354.2.1 bt354.2.2.1 bt354.2.2.2).bind fun bt358 => (if bt358.1 = true then (some false) else (billetlaw01_VarintBad.l0 kj16 a0 l1 t336 (wrap64 (x8_2 + 1)) bt358.2.1 bt358.2.2.1 bt358.2.2.2))) else (some false))) else (some false)) = some r := H
                            have A25 := Aside0.mk A250
                            clear A250
                            by_cases c26 : t350 = true
                            · subst c26
                              have H1 : ((varint_Reader_Left.f t351 t352 t353).bind fun bt354 => (if bt354.1 = t336 then ((varint_Reader_Ends.f bt354.2.1 bt354.2.2.1 bt354.2.2.2).bind fun bt358 => (if bt358.1 = true then (some false) else (billetlaw01_VarintBad.l0 kj16 a0 l1 t336 (wrap64 (x8_2 + 1)) bt358.2.1 bt358.2.2.1 bt358.2.2.2))) else (some false))) = some r := by rw [if_pos rfl] at H; exact H
                              clear H
                              have H := H1
                              clear H1
                              replace H := Option.bind_eq_some_iff.mp H
                              obtain ⟨⟨t354, t355, t356, t357⟩, A270, H⟩ := H
                              replace H : (if t354 = t336 then ((varint_Reader_Ends.f t355 t356 t357).bind fun bt358 => (if bt358.1 = true then (some false) else (billetlaw01_VarintBad.l0 kj16 a0 l1 t336 (wrap64 (x8_2 + 1)) bt358.2.1 bt358.2.2.1 bt358.2.2.2))) else (some false)) = some r := H
                              have A27 := Aside0.mk A270
                              clear A270
                              by_cases c28 : t354 = t336
                              · rw [if_pos c28] at H
                                have c28b0 : (t354 == t336) = true := beq_iff_eq.mpr c28
                                have c28b1 : (t354 != t336) = false := bne_eq_false_iff_eq.mpr c28
                                clear c28
                                replace H := Option.bind_eq_some_iff.mp H
                                obtain ⟨⟨t358, t359, t360, t361⟩, A290, H⟩ := H
                                replace H : (if t358 = true then (some false) else (billetlaw01_VarintBad.l0 kj16 a0 l1 t336 (wrap64 (x8_2 + 1)) t359 t360 t361)) = some r := H
                                have A29 := Aside0.mk A290
                                clear A290
                                by_cases c30 : t358 = true
                                · subst c30
                                  have H1 : (some false) = some r := by rw [if_pos rfl] at H; exact H
                                  clear H
                                  have H := H1
                                  clear H1
                                  obtain rfl := Option.some.inj H
                                  have p344 : 0 ≤ (x8_2 : Int) := of_decide_eq_true (by first | (with_reducible assumption) | assumption)
                                  have q344 : x8_2 < (l1.length : Int) := of_decide_eq_true (by first | (with_reducible assumption) | assumption)
                                  obtain ⟨ad344, e344, hx344_0, hx344_1⟩ := at_T39 HR1.out x8_2 p344 q344
                                  cases e344
                                  replace hx344_0 := (HB.out.cell (World.block_lt_of_cell? w _ hx344_0)).trans hx344_0
                                  replace hx344_1 := (HB.out.cell (World.block_lt_of_cell? w _ hx344_1)).trans hx344_1
                                  replace p344 := eq_true p344
                                  (try replace p344z := eq_true p344z)
                                  replace q344 := eq_true q344
                                  (try replace q344z := eq_true q344z)
                                  go_wp2_with (first | (go_at_call 24; (with_reducible refine (varint_Reader_Num.calls kj16 g331 x332000_2 x332001_2 x332002_2 t345 t346 t347 t348 w _ ?side1 ?side2 A23.out).mono ?_); (case side1 => repeat (first | (with_reducible first | exact HI331.out | apply IsS51.alloc | apply IsS51.drewN | apply IsS51.drew | apply IsS51.set_0 | apply IsS51.set_1 | apply IsS51.set_2) | exact HI331.out)); (case side2 => repeat (first | (with_reducible first | exact HB.out | apply below_alloc | apply pw_below_drewN | apply below_drew1 | refine below_set ?_ (IsS51.ge HI331.out)) | exact HB.out)); rintro e w31 ⟨rfl, hi, hb, hk⟩; have n0_ := Aside0.mk (hb); have n1_ := Aside0.mk (hi); clear HB; clear HI331; have HB := n0_; have HI331 := n1_; clear n0_ n1_; (try clear hb); (try clear hb2); (try clear hk); (try clear hi); have p349 : 0 ≤ (x8_2 : Int) := of_decide_eq_true (by first | (with_reducible assumption) | assumption); have q349 : x8_2 < (l1.length : Int) := of_decide_eq_true (by first | (with_reducible assumption) | assumption); obtain ⟨ad349, e349, hx349_0, hx349_1⟩ := at_T39 HR1.out x8_2 p349 q349; obtain rfl : ad344 = ad349 := (by injection e349); replace hx349_0 := (HB.out.cell (World.block_lt_of_cell? w _ hx349_0)).trans hx349_0; replace hx349_1 := (HB.out.cell (World.block_lt_of_cell? w _ hx349_1)).trans hx349_1; replace p349 := eq_true p349; replace q349 := eq_true q349) | (go_at_call 21; (with_reducible refine (varint_Reader_Bad.calls g331 t346 t347 t348 true t351 t352 t353 w _ ?side1 ?side2 A25.out).mono ?_); (case side1 => repeat (first | (with_reducible first | exact HI331.out | apply IsS51.alloc | apply IsS51.drewN | apply IsS51.drew | apply IsS51.set_0 | apply IsS51.set_1 | apply IsS51.set_2) | exact HI331.out)); (case side2 => repeat (first | (with_reducible first | exact HB.out | apply below_alloc | apply pw_below_drewN | apply below_drew1 | refine below_set ?_ (IsS51.ge HI331.out)) | exact HB.out)); rintro e w32 ⟨rfl, hi, hb, hk⟩; have n0_ := Aside0.mk (hb); have n1_ := Aside0.mk (hi); clear HB; clear HI331; have HB := n0_; have HI331 := n1_; clear n0_ n1_; (try clear hb); (try clear hb2); (try clear hk); (try clear hi)) | (go_at_call 22; (with_reducible refine (varint_Reader_Left.calls g331 t351 t352 t353 t354 t355 t356 t357 w _ ?side1 ?side2 A27.out).mono ?_); (case side1 => repeat (first | (with_reducible first | exact HI331.out | apply IsS51.alloc | apply IsS51.drewN | apply IsS51.drew | apply IsS51.set_0 | apply IsS51.set_1 | apply IsS51.set_2) | exact HI331.out)); (case side2 => repeat (first | (with_reducible first | exact HB.out | apply below_alloc | apply pw_below_drewN | apply below_drew1 | refine below_set ?_ (IsS51.ge HI331.out)) | exact HB.out)); rintro e w33 ⟨rfl, hi, hb, hk⟩; have n0_ := Aside0.mk (hb); have n1_ := Aside0.mk (hi); clear HB; clear HI331; have HB := n0_; have HI331 := n1_; clear n0_ n1_; (try clear hb); (try clear hb2); (try clear hk); (try clear hi)) | (go_at_call 29; (with_reducible refine (varint_Reader_Ends.calls g331 t355 t356 t357 true t359 t360 t361 w _ ?side1 ?side2 A29.out).mono ?_); (case side1 => repeat (first | (with_reducible first | exact HI331.out | apply IsS51.alloc | apply IsS51.drewN | apply IsS51.drew | apply IsS51.set_0 | apply IsS51.set_1 | apply IsS51.set_2) | exact HI331.out)); (case side2 => repeat (first | (with_reducible first | exact HB.out | apply below_alloc | apply pw_below_drewN | apply below_drew1 | refine below_set ?_ (IsS51.ge HI331.out)) | exact HB.out)); rintro e w34 ⟨rfl, hi, hb, hk⟩; have n0_ := Aside0.mk (hb); have n1_ := Aside0.mk (hi); clear HB; clear HI331; have HB := n0_; have HI331 := n1_; clear n0_ n1_; (try clear hb); (try clear hb2); (try clear hk); (try clear hi)))
                                  go_ret
                                  exact ⟨by first | rfl | (simp [errW_none, errW_some] <;> rfl) | (simp [*, errW_none, errW_some] <;> rfl), by repeat (first | (with_reducible first | exact HB.out | apply below_alloc | apply pw_below_drewN | apply below_drew1 | refine below_set ?_ (IsS51.ge HI331.out)) | exact HB.out)⟩
                                · replace c30 := Bool.eq_false_iff.mpr c30
                                  subst c30
                                  have H1 : (billetlaw01_VarintBad.l0 kj16 a0 l1 t336 (wrap64 (x8_2 + 1)) t359 t360 t361) = some r := by rw [if_neg (show ¬ (false = true) by decide)] at H; exact H
                                  clear H
                                  have H := H1
                                  clear H1
                                  have H' := Aside0.mk H
                                  clear H
                                  have p344 : 0 ≤ (x8_2 : Int) := of_decide_eq_true (by first | (with_reducible assumption) | assumption)
                                  have q344 : x8_2 < (l1.length : Int) := of_decide_eq_true (by first | (with_reducible assumption) | assumption)
                                  obtain ⟨ad344, e344, hx344_0, hx344_1⟩ := at_T39 HR1.out x8_2 p344 q344
                                  cases e344
                                  replace hx344_0 := (HB.out.cell (World.block_lt_of_cell? w _ hx344_0)).trans hx344_0
                                  replace hx344_1 := (HB.out.cell (World.block_lt_of_cell? w _ hx344_1)).trans hx344_1
                                  replace p344 := eq_true p344
                                  (try replace p344z := eq_true p344z)
                                  replace q344 := eq_true q344
                                  (try replace q344z := eq_true q344z)
                                  go_wp2_with (first | (go_at_call 24; (with_reducible refine (varint_Reader_Num.calls kj16 g331 x332000_2 x332001_2 x332002_2 t345 t346 t347 t348 w _ ?side1 ?side2 A23.out).mono ?_); (case side1 => repeat (first | (with_reducible first | exact HI331.out | apply IsS51.alloc | apply IsS51.drewN | apply IsS51.drew | apply IsS51.set_0 | apply IsS51.set_1 | apply IsS51.set_2) | exact HI331.out)); (case side2 => repeat (first | (with_reducible first | exact HB.out | apply below_alloc | apply pw_below_drewN | apply below_drew1 | refine below_set ?_ (IsS51.ge HI331.out)) | exact HB.out)); rintro e w35 ⟨rfl, hi, hb, hk⟩; have n0_ := Aside0.mk (hb); have n1_ := Aside0.mk (hi); clear HB; clear HI331; have HB := n0_; have HI331 := n1_; clear n0_ n1_; (try clear hb); (try clear hb2); (try clear hk); (try clear hi); have p349 : 0 ≤ (x8_2 : Int) := of_decide_eq_true (by first | (with_reducible assumption) | assumption); have q349 : x8_2 < (l1.length : Int) := of_decide_eq_true (by first | (with_reducible assumption) | assumption); obtain ⟨ad349, e349, hx349_0, hx349_1⟩ := at_T39 HR1.out x8_2 p349 q349; obtain rfl : ad344 = ad349 := (by injection e349); replace hx349_0 := (HB.out.cell (World.block_lt_of_cell? w _ hx349_0)).trans hx349_0; replace hx349_1 := (HB.out.cell (World.block_lt_of_cell? w _ hx349_1)).trans hx349_1; replace p349 := eq_true p349; replace q349 := eq_true q349) | (go_at_call 21; (with_reducible refine (varint_Reader_Bad.calls g331 t346 t347 t348 true t351 t352 t353 w _ ?side1 ?side2 A25.out).mono ?_); (case side1 => repeat (first | (with_reducible first | exact HI331.out | apply IsS51.alloc | apply IsS51.drewN | apply IsS51.drew | apply IsS51.set_0 | apply IsS51.set_1 | apply IsS51.set_2) | exact HI331.out)); (case side2 => repeat (first | (with_reducible first | exact HB.out | apply below_alloc | apply pw_below_drewN | apply below_drew1 | refine below_set ?_ (IsS51.ge HI331.out)) | exact HB.out)); rintro e w36 ⟨rfl, hi, hb, hk⟩; have n0_ := Aside0.mk (hb); have n1_ := Aside0.mk (hi); clear HB; clear HI331; have HB := n0_; have HI331 := n1_; clear n0_ n1_; (try clear hb); (try clear hb2); (try clear hk); (try clear hi)) | (go_at_call 22; (with_reducible refine (varint_Reader_Left.calls g331 t351 t352 t353 t354 t355 t356 t357 w _ ?side1 ?side2 A27.out).mono ?_); (case side1 => repeat (first | (with_reducible first | exact HI331.out | apply IsS51.alloc | apply IsS51.drewN | apply IsS51.drew | apply IsS51.set_0 | apply IsS51.set_1 | apply IsS51.set_2) | exact HI331.out)); (case side2 => repeat (first | (with_reducible first | exact HB.out | apply below_alloc | apply pw_below_drewN | apply below_drew1 | refine below_set ?_ (IsS51.ge HI331.out)) | exact HB.out)); rintro e w37 ⟨rfl, hi, hb, hk⟩; have n0_ := Aside0.mk (hb); have n1_ := Aside0.mk (hi); clear HB; clear HI331; have HB := n0_; have HI331 := n1_; clear n0_ n1_; (try clear hb); (try clear hb2); (try clear hk); (try clear hi)) | (go_at_call 29; (with_reducible refine (varint_Reader_Ends.calls g331 t355 t356 t357 false t359 t360 t361 w _ ?side1 ?side2 A29.out).mono ?_); (case side1 => repeat (first | (with_reducible first | exact HI331.out | apply IsS51.alloc | apply IsS51.drewN | apply IsS51.drew | apply IsS51.set_0 | apply IsS51.set_1 | apply IsS51.set_2) | exact HI331.out)); (case side2 => repeat (first | (with_reducible first | exact HB.out | apply below_alloc | apply pw_below_drewN | apply below_drew1 | refine below_set ?_ (IsS51.ge HI331.out)) | exact HB.out)); rintro e w38 ⟨rfl, hi, hb, hk⟩; have n0_ := Aside0.mk (hb); have n1_ := Aside0.mk (hi); clear HB; clear HI331; have HB := n0_; have HI331 := n1_; clear n0_ n1_; (try clear hb); (try clear hb2); (try clear hk); (try clear hi)))
                                  go_roundg kj16
                                  case measure => have := HJ6.out; have := HK2.out; have := HJ16.out; omega
                                  case rel => exact ⟨(wrap64 (x8_2 + 1)), (t359), (t360), (t361), (by first | rfl | (simp; done) | (simp [*]; done)), H', ⟨by have := HJ6.out; have := HK2.out; have := HJ16.out; omega⟩, ⟨by repeat (first | (with_reducible first | exact HI331.out | apply IsS51.alloc | apply IsS51.drewN | apply IsS51.drew | apply IsS51.set_0 | apply IsS51.set_1 | apply IsS51.set_2) | exact HI331.out)⟩, ⟨by repeat (first | (with_reducible first | exact HB.out | apply below_alloc | apply pw_below_drewN | apply below_drew1 | refine below_set ?_ (IsS51.ge HI331.out)) | exact HB.out)⟩⟩
                              · rw [if_neg c28] at H
                                have c28b0 : (t354 == t336) = false := beq_eq_false_iff_ne.mpr c28
                                have c28b1 : (t354 != t336) = true := bne_iff_ne.mpr c28
                                obtain rfl := Option.some.inj H
                                have p344 : 0 ≤ (x8_2 : Int) := of_decide_eq_true (by first | (with_reducible assumption) | assumption)
                                have q344 : x8_2 < (l1.length : Int) := of_decide_eq_true (by first | (with_reducible assumption) | assumption)
                                obtain ⟨ad344, e344, hx344_0, hx344_1⟩ := at_T39 HR1.out x8_2 p344 q344
                                cases e344
                                replace hx344_0 := (HB.out.cell (World.block_lt_of_cell? w _ hx344_0)).trans hx344_0
                                replace hx344_1 := (HB.out.cell (World.block_lt_of_cell? w _ hx344_1)).trans hx344_1
                                replace p344 := eq_true p344
                                (try replace p344z := eq_true p344z)
                                replace q344 := eq_true q344
                                (try replace q344z := eq_true q344z)
                                go_wp2_with (first | (go_at_call 24; (with_reducible refine (varint_Reader_Num.calls kj16 g331 x332000_2 x332001_2 x332002_2 t345 t346 t347 t348 w _ ?side1 ?side2 A23.out).mono ?_); (case side1 => repeat (first | (with_reducible first | exact HI331.out | apply IsS51.alloc | apply IsS51.drewN | apply IsS51.drew | apply IsS51.set_0 | apply IsS51.set_1 | apply IsS51.set_2) | exact HI331.out)); (case side2 => repeat (first | (with_reducible first | exact HB.out | apply below_alloc | apply pw_below_drewN | apply below_drew1 | refine below_set ?_ (IsS51.ge HI331.out)) | exact HB.out)); rintro e w39 ⟨rfl, hi, hb, hk⟩; have n0_ := Aside0.mk (hb); have n1_ := Aside0.mk (hi); clear HB; clear HI331; have HB := n0_; have HI331 := n1_; clear n0_ n1_; (try clear hb); (try clear hb2); (try clear hk); (try clear hi); have p349 : 0 ≤ (x8_2 : Int) := of_decide_eq_true (by first | (with_reducible assumption) | assumption); have q349 : x8_2 < (l1.length : Int) := of_decide_eq_true (by first | (with_reducible assumption) | assumption); obtain ⟨ad349, e349, hx349_0, hx349_1⟩ := at_T39 HR1.out x8_2 p349 q349; obtain rfl : ad344 = ad349 := (by injection e349); replace hx349_0 := (HB.out.cell (World.block_lt_of_cell? w _ hx349_0)).trans hx349_0; replace hx349_1 := (HB.out.cell (World.block_lt_of_cell? w _ hx349_1)).trans hx349_1; replace p349 := eq_true p349; replace q349 := eq_true q349) | (go_at_call 21; (with_reducible refine (varint_Reader_Bad.calls g331 t346 t347 t348 true t351 t352 t353 w _ ?side1 ?side2 A25.out).mono ?_); (case side1 => repeat (first | (with_reducible first | exact HI331.out | apply IsS51.alloc | apply IsS51.drewN | apply IsS51.drew | apply IsS51.set_0 | apply IsS51.set_1 | apply IsS51.set_2) | exact HI331.out)); (case side2 => repeat (first | (with_reducible first | exact HB.out | apply below_alloc | apply pw_below_drewN | apply below_drew1 | refine below_set ?_ (IsS51.ge HI331.out)) | exact HB.out)); rintro e w40 ⟨rfl, hi, hb, hk⟩; have n0_ := Aside0.mk (hb); have n1_ := Aside0.mk (hi); clear HB; clear HI331; have HB := n0_; have HI331 := n1_; clear n0_ n1_; (try clear hb); (try clear hb2); (try clear hk); (try clear hi)) | (go_at_call 22; (with_reducible refine (varint_Reader_Left.calls g331 t351 t352 t353 t354 t355 t356 t357 w _ ?side1 ?side2 A27.out).mono ?_); (case side1 => repeat (first | (with_reducible first | exact HI331.out | apply IsS51.alloc | apply IsS51.drewN | apply IsS51.drew | apply IsS51.set_0 | apply IsS51.set_1 | apply IsS51.set_2) | exact HI331.out)); (case side2 => repeat (first | (with_reducible first | exact HB.out | apply below_alloc | apply pw_below_drewN | apply below_drew1 | refine below_set ?_ (IsS51.ge HI331.out)) | exact HB.out)); rintro e w41 ⟨rfl, hi, hb, hk⟩; have n0_ := Aside0.mk (hb); have n1_ := Aside0.mk (hi); clear HB; clear HI331; have HB := n0_; have HI331 := n1_; clear n0_ n1_; (try clear hb); (try clear hb2); (try clear hk); (try clear hi)))
                                go_ret
                                exact ⟨by first | rfl | (simp [errW_none, errW_some] <;> rfl) | (simp [*, errW_none, errW_some] <;> rfl), by repeat (first | (with_reducible first | exact HB.out | apply below_alloc | apply pw_below_drewN | apply below_drew1 | refine below_set ?_ (IsS51.ge HI331.out)) | exact HB.out)⟩
                            · replace c26 := Bool.eq_false_iff.mpr c26
                              subst c26
                              have H1 : (some false) = some r := by rw [if_neg (show ¬ (false = true) by decide)] at H; exact H
                              clear H
                              have H := H1
                              clear H1
                              obtain rfl := Option.some.inj H
                              have p344 : 0 ≤ (x8_2 : Int) := of_decide_eq_true (by first | (with_reducible assumption) | assumption)
                              have q344 : x8_2 < (l1.length : Int) := of_decide_eq_true (by first | (with_reducible assumption) | assumption)
                              obtain ⟨ad344, e344, hx344_0, hx344_1⟩ := at_T39 HR1.out x8_2 p344 q344
                              cases e344
                              replace hx344_0 := (HB.out.cell (World.block_lt_of_cell? w _ hx344_0)).trans hx344_0
                              replace hx344_1 := (HB.out.cell (World.block_lt_of_cell? w _ hx344_1)).trans hx344_1
                              replace p344 := eq_true p344
                              (try replace p344z := eq_true p344z)
                              replace q344 := eq_true q344
                              (try replace q344z := eq_true q344z)
                              go_wp2_with (first | (go_at_call 24; (with_reducible refine (varint_Reader_Num.calls kj16 g331 x332000_2 x332001_2 x332002_2 t345 t346 t347 t348 w _ ?side1 ?side2 A23.out).mono ?_); (case side1 => repeat (first | (with_reducible first | exact HI331.out | apply IsS51.alloc | apply IsS51.drewN | apply IsS51.drew | apply IsS51.set_0 | apply IsS51.set_1 | apply IsS51.set_2) | exact HI331.out)); (case side2 => repeat (first | (with_reducible first | exact HB.out | apply below_alloc | apply pw_below_drewN | apply below_drew1 | refine below_set ?_ (IsS51.ge HI331.out)) | exact HB.out)); rintro e w42 ⟨rfl, hi, hb, hk⟩; have n0_ := Aside0.mk (hb); have n1_ := Aside0.mk (hi); clear HB; clear HI331; have HB := n0_; have HI331 := n1_; clear n0_ n1_; (try clear hb); (try clear hb2); (try clear hk); (try clear hi); have p349 : 0 ≤ (x8_2 : Int) := of_decide_eq_true (by first | (with_reducible assumption) | assumption); have q349 : x8_2 < (l1.length : Int) := of_decide_eq_true (by first | (with_reducible assumption) | assumption); obtain ⟨ad349, e349, hx349_0, hx349_1⟩ := at_T39 HR1.out x8_2 p349 q349; obtain rfl : ad344 = ad349 := (by injection e349); replace hx349_0 := (HB.out.cell (World.block_lt_of_cell? w _ hx349_0)).trans hx349_0; replace hx349_1 := (HB.out.cell (World.block_lt_of_cell? w _ hx349_1)).trans hx349_1; replace p349 := eq_true p349; replace q349 := eq_true q349) | (go_at_call 21; (with_reducible refine (varint_Reader_Bad.calls g331 t346 t347 t348 false t351 t352 t353 w _ ?side1 ?side2 A25.out).mono ?_); (case side1 => repeat (first | (with_reducible first | exact HI331.out | apply IsS51.alloc | apply IsS51.drewN | apply IsS51.drew | apply IsS51.set_0 | apply IsS51.set_1 | apply IsS51.set_2) | exact HI331.out)); (case side2 => repeat (first | (with_reducible first | exact HB.out | apply below_alloc | apply pw_below_drewN | apply below_drew1 | refine below_set ?_ (IsS51.ge HI331.out)) | exact HB.out)); rintro e w43 ⟨rfl, hi, hb, hk⟩; have n0_ := Aside0.mk (hb); have n1_ := Aside0.mk (hi); clear HB; clear HI331; have HB := n0_; have HI331 := n1_; clear n0_ n1_; (try clear hb); (try clear hb2); (try clear hk); (try clear hi)))
                              go_ret
                              exact ⟨by first | rfl | (simp [errW_none, errW_some] <;> rfl) | (simp [*, errW_none, errW_some] <;> rfl), by repeat (first | (with_reducible first | exact HB.out | apply below_alloc | apply pw_below_drewN | apply below_drew1 | refine below_set ?_ (IsS51.ge HI331.out)) | exact HB.out)⟩
                          · rw [if_neg c24] at H
                            have c24b0 : (t345 == 0) = false := beq_eq_false_iff_ne.mpr c24
                            have c24b1 : (t345 != 0) = true := bne_iff_ne.mpr c24
                            obtain rfl := Option.some.inj H
                            have p344 : 0 ≤ (x8_2 : Int) := of_decide_eq_true (by first | (with_reducible assumption) | assumption)
                            have q344 : x8_2 < (l1.length : Int) := of_decide_eq_true (by first | (with_reducible assumption) | assumption)
                            obtain ⟨ad344, e344, hx344_0, hx344_1⟩ := at_T39 HR1.out x8_2 p344 q344
                            cases e344
                            replace hx344_0 := (HB.out.cell (World.block_lt_of_cell? w _ hx344_0)).trans hx344_0
                            replace hx344_1 := (HB.out.cell (World.block_lt_of_cell? w _ hx344_1)).trans hx344_1
                            replace p344 := eq_true p344
                            (try replace p344z := eq_true p344z)
                            replace q344 := eq_true q344
                            (try replace q344z := eq_true q344z)
                            go_wp2_with (first | (go_at_call 24; (with_reducible refine (varint_Reader_Num.calls kj16 g331 x332000_2 x332001_2 x332002_2 t345 t346 t347 t348 w _ ?side1 ?side2 A23.out).mono ?_); (case side1 => repeat (first | (with_reducible first | exact HI331.out | apply IsS51.alloc | apply IsS51.drewN | apply IsS51.drew | apply IsS51.set_0 | apply IsS51.set_1 | apply IsS51.set_2) | exact HI331.out)); (case side2 => repeat (first | (with_reducible first | exact HB.out | apply below_alloc | apply pw_below_drewN | apply below_drew1 | refine below_set ?_ (IsS51.ge HI331.out)) | exact HB.out)); rintro e w44 ⟨rfl, hi, hb, hk⟩; have n0_ := Aside0.mk (hb); have n1_ := Aside0.mk (hi); clear HB; clear HI331; have HB := n0_; have HI331 := n1_; clear n0_ n1_; (try clear hb); (try clear hb2); (try clear hk); (try clear hi)))
                            go_ret
                            exact ⟨by first | rfl | (simp [errW_none, errW_some] <;> rfl) | (simp [*, errW_none, errW_some] <;> rfl), by repeat (first | (with_reducible first | exact HB.out | apply below_alloc | apply pw_below_drewN | apply below_drew1 | refine below_set ?_ (IsS51.ge HI331.out)) | exact HB.out)⟩
                        · rw [if_neg c22] at H
                          have c22b0 : ((Int.tmod ((rd_T39 l1 x8_2).f0) 2) == 0) = false := beq_eq_false_iff_ne.mpr c22
                          have c22b1 : ((Int.tmod ((rd_T39 l1 x8_2).f0) 2) != 0) = true := bne_iff_ne.mpr c22
                          replace H := Option.bind_eq_some_iff.mp H
                          obtain ⟨⟨t364, t365, t366, t367⟩, A450, H⟩ := H
                          replace H : (if t364.toList = ([] : List UInt8) then ((varint_Reader_Bad.f t365 t366 t367).bind fun bt368 => (if bt368.1 = true then ((varint_Reader_Left.f bt368.2.1 bt368.2.2.1 bt368.2.2.2).bind fun bt372 => (if bt372.1 = t336 then ((varint_Reader_Ends.f bt372.2.1 bt372.2.2.1 bt372.2.2.2).bind fun bt376 => (if bt376.1 = true then (some false) else (billetlaw01_VarintBad.l0 kj16 a0 l1 t336 (wrap64 (x8_2 + 1)) bt376.2.1 bt376.2.2.1 bt376.2.2.2))) else (some false))) else (some false))) else (some false)) = some r := H
                          have A45 := Aside0.mk A450
                          clear A450
                          by_cases c46 : t364.toList = ([] : List UInt8)
                          · rw [if_pos c46] at H
                            have c46b0 : (t364.toList == ([] : List UInt8)) = true := beq_iff_eq.mpr c46
                            have c46b1 : (t364.toList != ([] : List UInt8)) = false := bne_eq_false_iff_eq.mpr c46
                            clear c46
                            replace H := Option.bind_eq_some_iff.mp H
                            obtain ⟨⟨t368, t369, t370, t371⟩, A470, H⟩ := H
                            replace H : (if t368 = true then ((varint_Reader_Left.f t369 t370 t371).bind fun bt372 => (if bt372.1 = t336 then ((varint_Reader_Ends.f bt372.2.1 bt372.2.2.1 bt372.2.2.2).bind fun bt376 => (if bt376.1 = true then (some false) else (billetlaw01_VarintBad.l0 kj16 a0 l1 t336 (wrap64 (x8_2 + 1)) bt376.2.1 bt376.2.2.1 bt376.2.2.2))) else (some false))) else (some false)) = some r := H
                            have A47 := Aside0.mk A470
                            clear A470
                            by_cases c48 : t368 = true
                            · subst c48
                              have H1 : ((varint_Reader_Left.f t369 t370 t371).bind fun bt372 => (if bt372.1 = t336 then ((varint_Reader_Ends.f bt372.2.1 bt372.2.2.1 bt372.2.2.2).bind fun bt376 => (if bt376.1 = true then (some false) else (billetlaw01_VarintBad.l0 kj16 a0 l1 t336 (wrap64 (x8_2 + 1)) bt376.2.1 bt376.2.2.1 bt376.2.2.2))) else (some false))) = some r := by rw [if_pos rfl] at H; exact H
                              clear H
                              have H := H1
                              clear H1
                              replace H := Option.bind_eq_some_iff.mp H
                              obtain ⟨⟨t372, t373, t374, t375⟩, A490, H⟩ := H
                              replace H : (if t372 = t336 then ((varint_Reader_Ends.f t373 t374 t375).bind fun bt376 => (if bt376.1 = true then (some false) else (billetlaw01_VarintBad.l0 kj16 a0 l1 t336 (wrap64 (x8_2 + 1)) bt376.2.1 bt376.2.2.1 bt376.2.2.2))) else (some false)) = some r := H
                              have A49 := Aside0.mk A490
                              clear A490
                              by_cases c50 : t372 = t336
                              · rw [if_pos c50] at H
                                have c50b0 : (t372 == t336) = true := beq_iff_eq.mpr c50
                                have c50b1 : (t372 != t336) = false := bne_eq_false_iff_eq.mpr c50
                                clear c50
                                replace H := Option.bind_eq_some_iff.mp H
                                obtain ⟨⟨t376, t377, t378, t379⟩, A510, H⟩ := H
                                replace H : (if t376 = true then (some false) else (billetlaw01_VarintBad.l0 kj16 a0 l1 t336 (wrap64 (x8_2 + 1)) t377 t378 t379)) = some r := H
                                have A51 := Aside0.mk A510
                                clear A510
                                by_cases c52 : t376 = true
                                · subst c52
                                  have H1 : (some false) = some r := by rw [if_pos rfl] at H; exact H
                                  clear H
                                  have H := H1
                                  clear H1
                                  obtain rfl := Option.some.inj H
                                  have p344 : 0 ≤ (x8_2 : Int) := of_decide_eq_true (by first | (with_reducible assumption) | assumption)
                                  have q344 : x8_2 < (l1.length : Int) := of_decide_eq_true (by first | (with_reducible assumption) | assumption)
                                  obtain ⟨ad344, e344, hx344_0, hx344_1⟩ := at_T39 HR1.out x8_2 p344 q344
                                  cases e344
                                  replace hx344_0 := (HB.out.cell (World.block_lt_of_cell? w _ hx344_0)).trans hx344_0
                                  replace hx344_1 := (HB.out.cell (World.block_lt_of_cell? w _ hx344_1)).trans hx344_1
                                  replace p344 := eq_true p344
                                  (try replace p344z := eq_true p344z)
                                  replace q344 := eq_true q344
                                  (try replace q344z := eq_true q344z)
                                  have p362 : 0 ≤ (x8_2 : Int) := of_decide_eq_true (by first | (with_reducible assumption) | assumption)
                                  have q362 : x8_2 < (l1.length : Int) := of_decide_eq_true (by first | (with_reducible assumption) | assumption)
                                  obtain ⟨ad362, e362, hx362_0, hx362_1⟩ := at_T39 HR1.out x8_2 p362 q362
                                  obtain rfl : ad344 = ad362 := (by injection e362)
                                  replace hx362_0 := (HB.out.cell (World.block_lt_of_cell? w _ hx362_0)).trans hx362_0
                                  replace hx362_1 := (HB.out.cell (World.block_lt_of_cell? w _ hx362_1)).trans hx362_1
                                  replace p362 := eq_true p362
                                  (try replace p362z := eq_true p362z)
                                  replace q362 := eq_true q362
                                  (try replace q362z := eq_true q362z)
                                  have p363 : 0 ≤ (x8_2 : Int) := of_decide_eq_true (by first | (with_reducible assumption) | assumption)
                                  have q363 : x8_2 < (l1.length : Int) := of_decide_eq_true (by first | (with_reducible assumption) | assumption)
                                  obtain ⟨ad363, e363, hx363_0, hx363_1⟩ := at_T39 HR1.out x8_2 p363 q363
                                  obtain rfl : ad344 = ad363 := (by injection e363)
                                  replace hx363_0 := (HB.out.cell (World.block_lt_of_cell? w _ hx363_0)).trans hx363_0
                                  replace hx363_1 := (HB.out.cell (World.block_lt_of_cell? w _ hx363_1)).trans hx363_1
                                  replace p363 := eq_true p363
                                  (try replace p363z := eq_true p363z)
                                  replace q363 := eq_true q363
                                  (try replace q363z := eq_true q363z)
                                  go_wp2_with (first | (go_at_call 20; (with_reducible refine (varint_Reader_Text.calls kj16 g331 x332000_2 x332001_2 x332002_2 ((rd_T39 l1 x8_2).f1) t364 t365 t366 t367 w _ ?side1 ?side2 A45.out).mono ?_); (case side1 => repeat (first | (with_reducible first | exact HI331.out | apply IsS51.alloc | apply IsS51.drewN | apply IsS51.drew | apply IsS51.set_0 | apply IsS51.set_1 | apply IsS51.set_2) | exact HI331.out)); (case side2 => repeat (first | (with_reducible first | exact HB.out | apply below_alloc | apply pw_below_drewN | apply below_drew1 | refine below_set ?_ (IsS51.ge HI331.out)) | exact HB.out)); rintro e w53 ⟨rfl, hi, hb, hk⟩; have n0_ := Aside0.mk (hb); have n1_ := Aside0.mk (hi); clear HB; clear HI331; have HB := n0_; have HI331 := n1_; clear n0_ n1_; (try clear hb); (try clear hb2); (try clear hk); (try clear hi)) | (go_at_call 21; (with_reducible refine (varint_Reader_Bad.calls g331 t365 t366 t367 true t369 t370 t371 w _ ?side1 ?side2 A47.out).mono ?_); (case side1 => repeat (first | (with_reducible first | exact HI331.out | apply IsS51.alloc | apply IsS51.drewN | apply IsS51.drew | apply IsS51.set_0 | apply IsS51.set_1 | apply IsS51.set_2) | exact HI331.out)); (case side2 => repeat (first | (with_reducible first | exact HB.out | apply below_alloc | apply pw_below_drewN | apply below_drew1 | refine below_set ?_ (IsS51.ge HI331.out)) | exact HB.out)); rintro e w54 ⟨rfl, hi, hb, hk⟩; have n0_ := Aside0.mk (hb); have n1_ := Aside0.mk (hi); clear HB; clear HI331; have HB := n0_; have HI331 := n1_; clear n0_ n1_; (try clear hb); (try clear hb2); (try clear hk); (try clear hi)) | (go_at_call 22; (with_reducible refine (varint_Reader_Left.calls g331 t369 t370 t371 t372 t373 t374 t375 w _ ?side1 ?side2 A49.out).mono ?_); (case side1 => repeat (first | (with_reducible first | exact HI331.out | apply IsS51.alloc | apply IsS51.drewN | apply IsS51.drew | apply IsS51.set_0 | apply IsS51.set_1 | apply IsS51.set_2) | exact HI331.out)); (case side2 => repeat (first | (with_reducible first | exact HB.out | apply below_alloc | apply pw_below_drewN | apply below_drew1 | refine below_set ?_ (IsS51.ge HI331.out)) | exact HB.out)); rintro e w55 ⟨rfl, hi, hb, hk⟩; have n0_ := Aside0.mk (hb); have n1_ := Aside0.mk (hi); clear HB; clear HI331; have HB := n0_; have HI331 := n1_; clear n0_ n1_; (try clear hb); (try clear hb2); (try clear hk); (try clear hi)) | (go_at_call 29; (with_reducible refine (varint_Reader_Ends.calls g331 t373 t374 t375 true t377 t378 t379 w _ ?side1 ?side2 A51.out).mono ?_); (case side1 => repeat (first | (with_reducible first | exact HI331.out | apply IsS51.alloc | apply IsS51.drewN | apply IsS51.drew | apply IsS51.set_0 | apply IsS51.set_1 | apply IsS51.set_2) | exact HI331.out)); (case side2 => repeat (first | (with_reducible first | exact HB.out | apply below_alloc | apply pw_below_drewN | apply below_drew1 | refine below_set ?_ (IsS51.ge HI331.out)) | exact HB.out)); rintro e w56 ⟨rfl, hi, hb, hk⟩; have n0_ := Aside0.mk (hb); have n1_ := Aside0.mk (hi); clear HB; clear HI331; have HB := n0_; have HI331 := n1_; clear n0_ n1_; (try clear hb); (try clear hb2); (try clear hk); (try clear hi)))
                                  go_ret
                                  exact ⟨by first | rfl | (simp [errW_none, errW_some] <;> rfl) | (simp [*, errW_none, errW_some] <;> rfl), by repeat (first | (with_reducible first | exact HB.out | apply below_alloc | apply pw_below_drewN | apply below_drew1 | refine below_set ?_ (IsS51.ge HI331.out)) | exact HB.out)⟩
                                · replace c52 := Bool.eq_false_iff.mpr c52
                                  subst c52
                                  have H1 : (billetlaw01_VarintBad.l0 kj16 a0 l1 t336 (wrap64 (x8_2 + 1)) t377 t378 t379) = some r := by rw [if_neg (show ¬ (false = true) by decide)] at H; exact H
                                  clear H
                                  have H := H1
                                  clear H1
                                  have H' := Aside0.mk H
                                  clear H
                                  have p344 : 0 ≤ (x8_2 : Int) := of_decide_eq_true (by first | (with_reducible assumption) | assumption)
                                  have q344 : x8_2 < (l1.length : Int) := of_decide_eq_true (by first | (with_reducible assumption) | assumption)
                                  obtain ⟨ad344, e344, hx344_0, hx344_1⟩ := at_T39 HR1.out x8_2 p344 q344
                                  cases e344
                                  replace hx344_0 := (HB.out.cell (World.block_lt_of_cell? w _ hx344_0)).trans hx344_0
                                  replace hx344_1 := (HB.out.cell (World.block_lt_of_cell? w _ hx344_1)).trans hx344_1
                                  replace p344 := eq_true p344
                                  (try replace p344z := eq_true p344z)
                                  replace q344 := eq_true q344
                                  (try replace q344z := eq_true q344z)
                                  have p362 : 0 ≤ (x8_2 : Int) := of_decide_eq_true (by first | (with_reducible assumption) | assumption)
                                  have q362 : x8_2 < (l1.length : Int) := of_decide_eq_true (by first | (with_reducible assumption) | assumption)
                                  obtain ⟨ad362, e362, hx362_0, hx362_1⟩ := at_T39 HR1.out x8_2 p362 q362
                                  obtain rfl : ad344 = ad362 := (by injection e362)
                                  replace hx362_0 := (HB.out.cell (World.block_lt_of_cell? w _ hx362_0)).trans hx362_0
                                  replace hx362_1 := (HB.out.cell (World.block_lt_of_cell? w _ hx362_1)).trans hx362_1
                                  replace p362 := eq_true p362
                                  (try replace p362z := eq_true p362z)
                                  replace q362 := eq_true q362
                                  (try replace q362z := eq_true q362z)
                                  have p363 : 0 ≤ (x8_2 : Int) := of_decide_eq_true (by first | (with_reducible assumption) | assumption)
                                  have q363 : x8_2 < (l1.length : Int) := of_decide_eq_true (by first | (with_reducible assumption) | assumption)
                                  obtain ⟨ad363, e363, hx363_0, hx363_1⟩ := at_T39 HR1.out x8_2 p363 q363
                                  obtain rfl : ad344 = ad363 := (by injection e363)
                                  replace hx363_0 := (HB.out.cell (World.block_lt_of_cell? w _ hx363_0)).trans hx363_0
                                  replace hx363_1 := (HB.out.cell (World.block_lt_of_cell? w _ hx363_1)).trans hx363_1
                                  replace p363 := eq_true p363
                                  (try replace p363z := eq_true p363z)
                                  replace q363 := eq_true q363
                                  (try replace q363z := eq_true q363z)
                                  go_wp2_with (first | (go_at_call 20; (with_reducible refine (varint_Reader_Text.calls kj16 g331 x332000_2 x332001_2 x332002_2 ((rd_T39 l1 x8_2).f1) t364 t365 t366 t367 w _ ?side1 ?side2 A45.out).mono ?_); (case side1 => repeat (first | (with_reducible first | exact HI331.out | apply IsS51.alloc | apply IsS51.drewN | apply IsS51.drew | apply IsS51.set_0 | apply IsS51.set_1 | apply IsS51.set_2) | exact HI331.out)); (case side2 => repeat (first | (with_reducible first | exact HB.out | apply below_alloc | apply pw_below_drewN | apply below_drew1 | refine below_set ?_ (IsS51.ge HI331.out)) | exact HB.out)); rintro e w57 ⟨rfl, hi, hb, hk⟩; have n0_ := Aside0.mk (hb); have n1_ := Aside0.mk (hi); clear HB; clear HI331; have HB := n0_; have HI331 := n1_; clear n0_ n1_; (try clear hb); (try clear hb2); (try clear hk); (try clear hi)) | (go_at_call 21; (with_reducible refine (varint_Reader_Bad.calls g331 t365 t366 t367 true t369 t370 t371 w _ ?side1 ?side2 A47.out).mono ?_); (case side1 => repeat (first | (with_reducible first | exact HI331.out | apply IsS51.alloc | apply IsS51.drewN | apply IsS51.drew | apply IsS51.set_0 | apply IsS51.set_1 | apply IsS51.set_2) | exact HI331.out)); (case side2 => repeat (first | (with_reducible first | exact HB.out | apply below_alloc | apply pw_below_drewN | apply below_drew1 | refine below_set ?_ (IsS51.ge HI331.out)) | exact HB.out)); rintro e w58 ⟨rfl, hi, hb, hk⟩; have n0_ := Aside0.mk (hb); have n1_ := Aside0.mk (hi); clear HB; clear HI331; have HB := n0_; have HI331 := n1_; clear n0_ n1_; (try clear hb); (try clear hb2); (try clear hk); (try clear hi)) | (go_at_call 22; (with_reducible refine (varint_Reader_Left.calls g331 t369 t370 t371 t372 t373 t374 t375 w _ ?side1 ?side2 A49.out).mono ?_); (case side1 => repeat (first | (with_reducible first | exact HI331.out | apply IsS51.alloc | apply IsS51.drewN | apply IsS51.drew | apply IsS51.set_0 | apply IsS51.set_1 | apply IsS51.set_2) | exact HI331.out)); (case side2 => repeat (first | (with_reducible first | exact HB.out | apply below_alloc | apply pw_below_drewN | apply below_drew1 | refine below_set ?_ (IsS51.ge HI331.out)) | exact HB.out)); rintro e w59 ⟨rfl, hi, hb, hk⟩; have n0_ := Aside0.mk (hb); have n1_ := Aside0.mk (hi); clear HB; clear HI331; have HB := n0_; have HI331 := n1_; clear n0_ n1_; (try clear hb); (try clear hb2); (try clear hk); (try clear hi)) | (go_at_call 29; (with_reducible refine (varint_Reader_Ends.calls g331 t373 t374 t375 false t377 t378 t379 w _ ?side1 ?side2 A51.out).mono ?_); (case side1 => repeat (first | (with_reducible first | exact HI331.out | apply IsS51.alloc | apply IsS51.drewN | apply IsS51.drew | apply IsS51.set_0 | apply IsS51.set_1 | apply IsS51.set_2) | exact HI331.out)); (case side2 => repeat (first | (with_reducible first | exact HB.out | apply below_alloc | apply pw_below_drewN | apply below_drew1 | refine below_set ?_ (IsS51.ge HI331.out)) | exact HB.out)); rintro e w60 ⟨rfl, hi, hb, hk⟩; have n0_ := Aside0.mk (hb); have n1_ := Aside0.mk (hi); clear HB; clear HI331; have HB := n0_; have HI331 := n1_; clear n0_ n1_; (try clear hb); (try clear hb2); (try clear hk); (try clear hi)))
                                  go_roundg kj16
                                  case measure => have := HJ6.out; have := HK2.out; have := HJ16.out; omega
                                  case rel => exact ⟨(wrap64 (x8_2 + 1)), (t377), (t378), (t379), (by first | rfl | (simp; done) | (simp [*]; done)), H', ⟨by have := HJ6.out; have := HK2.out; have := HJ16.out; omega⟩, ⟨by repeat (first | (with_reducible first | exact HI331.out | apply IsS51.alloc | apply IsS51.drewN | apply IsS51.drew | apply IsS51.set_0 | apply IsS51.set_1 | apply IsS51.set_2) | exact HI331.out)⟩, ⟨by repeat (first | (with_reducible first | exact HB.out | apply below_alloc | apply pw_below_drewN | apply below_drew1 | refine below_set ?_ (IsS51.ge HI331.out)) | exact HB.out)⟩⟩
                              · rw [if_neg c50] at H
                                have c50b0 : (t372 == t336) = false := beq_eq_false_iff_ne.mpr c50
                                have c50b1 : (t372 != t336) = true := bne_iff_ne.mpr c50
                                obtain rfl := Option.some.inj H
                                have p344 : 0 ≤ (x8_2 : Int) := of_decide_eq_true (by first | (with_reducible assumption) | assumption)
                                have q344 : x8_2 < (l1.length : Int) := of_decide_eq_true (by first | (with_reducible assumption) | assumption)
                                obtain ⟨ad344, e344, hx344_0, hx344_1⟩ := at_T39 HR1.out x8_2 p344 q344
                                cases e344
                                replace hx344_0 := (HB.out.cell (World.block_lt_of_cell? w _ hx344_0)).trans hx344_0
                                replace hx344_1 := (HB.out.cell (World.block_lt_of_cell? w _ hx344_1)).trans hx344_1
                                replace p344 := eq_true p344
                                (try replace p344z := eq_true p344z)
                                replace q344 := eq_true q344
                                (try replace q344z := eq_true q344z)
                                have p362 : 0 ≤ (x8_2 : Int) := of_decide_eq_true (by first | (with_reducible assumption) | assumption)
                                have q362 : x8_2 < (l1.length : Int) := of_decide_eq_true (by first | (with_reducible assumption) | assumption)
                                obtain ⟨ad362, e362, hx362_0, hx362_1⟩ := at_T39 HR1.out x8_2 p362 q362
                                obtain rfl : ad344 = ad362 := (by injection e362)
                                replace hx362_0 := (HB.out.cell (World.block_lt_of_cell? w _ hx362_0)).trans hx362_0
                                replace hx362_1 := (HB.out.cell (World.block_lt_of_cell? w _ hx362_1)).trans hx362_1
                                replace p362 := eq_true p362
                                (try replace p362z := eq_true p362z)
                                replace q362 := eq_true q362
                                (try replace q362z := eq_true q362z)
                                have p363 : 0 ≤ (x8_2 : Int) := of_decide_eq_true (by first | (with_reducible assumption) | assumption)
                                have q363 : x8_2 < (l1.length : Int) := of_decide_eq_true (by first | (with_reducible assumption) | assumption)
                                obtain ⟨ad363, e363, hx363_0, hx363_1⟩ := at_T39 HR1.out x8_2 p363 q363
                                obtain rfl : ad344 = ad363 := (by injection e363)
                                replace hx363_0 := (HB.out.cell (World.block_lt_of_cell? w _ hx363_0)).trans hx363_0
                                replace hx363_1 := (HB.out.cell (World.block_lt_of_cell? w _ hx363_1)).trans hx363_1
                                replace p363 := eq_true p363
                                (try replace p363z := eq_true p363z)
                                replace q363 := eq_true q363
                                (try replace q363z := eq_true q363z)
                                go_wp2_with (first | (go_at_call 20; (with_reducible refine (varint_Reader_Text.calls kj16 g331 x332000_2 x332001_2 x332002_2 ((rd_T39 l1 x8_2).f1) t364 t365 t366 t367 w _ ?side1 ?side2 A45.out).mono ?_); (case side1 => repeat (first | (with_reducible first | exact HI331.out | apply IsS51.alloc | apply IsS51.drewN | apply IsS51.drew | apply IsS51.set_0 | apply IsS51.set_1 | apply IsS51.set_2) | exact HI331.out)); (case side2 => repeat (first | (with_reducible first | exact HB.out | apply below_alloc | apply pw_below_drewN | apply below_drew1 | refine below_set ?_ (IsS51.ge HI331.out)) | exact HB.out)); rintro e w61 ⟨rfl, hi, hb, hk⟩; have n0_ := Aside0.mk (hb); have n1_ := Aside0.mk (hi); clear HB; clear HI331; have HB := n0_; have HI331 := n1_; clear n0_ n1_; (try clear hb); (try clear hb2); (try clear hk); (try clear hi)) | (go_at_call 21; (with_reducible refine (varint_Reader_Bad.calls g331 t365 t366 t367 true t369 t370 t371 w _ ?side1 ?side2 A47.out).mono ?_); (case side1 => repeat (first | (with_reducible first | exact HI331.out | apply IsS51.alloc | apply IsS51.drewN | apply IsS51.drew | apply IsS51.set_0 | apply IsS51.set_1 | apply IsS51.set_2) | exact HI331.out)); (case side2 => repeat (first | (with_reducible first | exact HB.out | apply below_alloc | apply pw_below_drewN | apply below_drew1 | refine below_set ?_ (IsS51.ge HI331.out)) | exact HB.out)); rintro e w62 ⟨rfl, hi, hb, hk⟩; have n0_ := Aside0.mk (hb); have n1_ := Aside0.mk (hi); clear HB; clear HI331; have HB := n0_; have HI331 := n1_; clear n0_ n1_; (try clear hb); (try clear hb2); (try clear hk); (try clear hi)) | (go_at_call 22; (with_reducible refine (varint_Reader_Left.calls g331 t369 t370 t371 t372 t373 t374 t375 w _ ?side1 ?side2 A49.out).mono ?_); (case side1 => repeat (first | (with_reducible first | exact HI331.out | apply IsS51.alloc | apply IsS51.drewN | apply IsS51.drew | apply IsS51.set_0 | apply IsS51.set_1 | apply IsS51.set_2) | exact HI331.out)); (case side2 => repeat (first | (with_reducible first | exact HB.out | apply below_alloc | apply pw_below_drewN | apply below_drew1 | refine below_set ?_ (IsS51.ge HI331.out)) | exact HB.out)); rintro e w63 ⟨rfl, hi, hb, hk⟩; have n0_ := Aside0.mk (hb); have n1_ := Aside0.mk (hi); clear HB; clear HI331; have HB := n0_; have HI331 := n1_; clear n0_ n1_; (try clear hb); (try clear hb2); (try clear hk); (try clear hi)))
                                go_ret
                                exact ⟨by first | rfl | (simp [errW_none, errW_some] <;> rfl) | (simp [*, errW_none, errW_some] <;> rfl), by repeat (first | (with_reducible first | exact HB.out | apply below_alloc | apply pw_below_drewN | apply below_drew1 | refine below_set ?_ (IsS51.ge HI331.out)) | exact HB.out)⟩
                            · replace c48 := Bool.eq_false_iff.mpr c48
                              subst c48
                              have H1 : (some false) = some r := by rw [if_neg (show ¬ (false = true) by decide)] at H; exact H
                              clear H
                              have H := H1
                              clear H1
                              obtain rfl := Option.some.inj H
                              have p344 : 0 ≤ (x8_2 : Int) := of_decide_eq_true (by first | (with_reducible assumption) | assumption)
                              have q344 : x8_2 < (l1.length : Int) := of_decide_eq_true (by first | (with_reducible assumption) | assumption)
                              obtain ⟨ad344, e344, hx344_0, hx344_1⟩ := at_T39 HR1.out x8_2 p344 q344
                              cases e344
                              replace hx344_0 := (HB.out.cell (World.block_lt_of_cell? w _ hx344_0)).trans hx344_0
                              replace hx344_1 := (HB.out.cell (World.block_lt_of_cell? w _ hx344_1)).trans hx344_1
                              replace p344 := eq_true p344
                              (try replace p344z := eq_true p344z)
                              replace q344 := eq_true q344
                              (try replace q344z := eq_true q344z)
                              have p362 : 0 ≤ (x8_2 : Int) := of_decide_eq_true (by first | (with_reducible assumption) | assumption)
                              have q362 : x8_2 < (l1.length : Int) := of_decide_eq_true (by first | (with_reducible assumption) | assumption)
                              obtain ⟨ad362, e362, hx362_0, hx362_1⟩ := at_T39 HR1.out x8_2 p362 q362
                              obtain rfl : ad344 = ad362 := (by injection e362)
                              replace hx362_0 := (HB.out.cell (World.block_lt_of_cell? w _ hx362_0)).trans hx362_0
                              replace hx362_1 := (HB.out.cell (World.block_lt_of_cell? w _ hx362_1)).trans hx362_1
                              replace p362 := eq_true p362
                              (try replace p362z := eq_true p362z)
                              replace q362 := eq_true q362
                              (try replace q362z := eq_true q362z)
                              have p363 : 0 ≤ (x8_2 : Int) := of_decide_eq_true (by first | (with_reducible assumption) | assumption)
                              have q363 : x8_2 < (l1.length : Int) := of_decide_eq_true (by first | (with_reducible assumption) | assumption)
                              obtain ⟨ad363, e363, hx363_0, hx363_1⟩ := at_T39 HR1.out x8_2 p363 q363
                              obtain rfl : ad344 = ad363 := (by injection e363)
                              replace hx363_0 := (HB.out.cell (World.block_lt_of_cell? w _ hx363_0)).trans hx363_0
                              replace hx363_1 := (HB.out.cell (World.block_lt_of_cell? w _ hx363_1)).trans hx363_1
                              replace p363 := eq_true p363
                              (try replace p363z := eq_true p363z)
                              replace q363 := eq_true q363
                              (try replace q363z := eq_true q363z)
                              go_wp2_with (first | (go_at_call 20; (with_reducible refine (varint_Reader_Text.calls kj16 g331 x332000_2 x332001_2 x332002_2 ((rd_T39 l1 x8_2).f1) t364 t365 t366 t367 w _ ?side1 ?side2 A45.out).mono ?_); (case side1 => repeat (first | (with_reducible first | exact HI331.out | apply IsS51.alloc | apply IsS51.drewN | apply IsS51.drew | apply IsS51.set_0 | apply IsS51.set_1 | apply IsS51.set_2) | exact HI331.out)); (case side2 => repeat (first | (with_reducible first | exact HB.out | apply below_alloc | apply pw_below_drewN | apply below_drew1 | refine below_set ?_ (IsS51.ge HI331.out)) | exact HB.out)); rintro e w64 ⟨rfl, hi, hb, hk⟩; have n0_ := Aside0.mk (hb); have n1_ := Aside0.mk (hi); clear HB; clear HI331; have HB := n0_; have HI331 := n1_; clear n0_ n1_; (try clear hb); (try clear hb2); (try clear hk); (try clear hi)) | (go_at_call 21; (with_reducible refine (varint_Reader_Bad.calls g331 t365 t366 t367 false t369 t370 t371 w _ ?side1 ?side2 A47.out).mono ?_); (case side1 => repeat (first | (with_reducible first | exact HI331.out | apply IsS51.alloc | apply IsS51.drewN | apply IsS51.drew | apply IsS51.set_0 | apply IsS51.set_1 | apply IsS51.set_2) | exact HI331.out)); (case side2 => repeat (first | (with_reducible first | exact HB.out | apply below_alloc | apply pw_below_drewN | apply below_drew1 | refine below_set ?_ (IsS51.ge HI331.out)) | exact HB.out)); rintro e w65 ⟨rfl, hi, hb, hk⟩; have n0_ := Aside0.mk (hb); have n1_ := Aside0.mk (hi); clear HB; clear HI331; have HB := n0_; have HI331 := n1_; clear n0_ n1_; (try clear hb); (try clear hb2); (try clear hk); (try clear hi)))
                              go_ret
                              exact ⟨by first | rfl | (simp [errW_none, errW_some] <;> rfl) | (simp [*, errW_none, errW_some] <;> rfl), by repeat (first | (with_reducible first | exact HB.out | apply below_alloc | apply pw_below_drewN | apply below_drew1 | refine below_set ?_ (IsS51.ge HI331.out)) | exact HB.out)⟩
                          · rw [if_neg c46] at H
                            have c46b0 : (t364.toList == ([] : List UInt8)) = false := beq_eq_false_iff_ne.mpr c46
                            have c46b1 : (t364.toList != ([] : List UInt8)) = true := bne_iff_ne.mpr c46
                            obtain rfl := Option.some.inj H
                            have p344 : 0 ≤ (x8_2 : Int) := of_decide_eq_true (by first | (with_reducible assumption) | assumption)
                            have q344 : x8_2 < (l1.length : Int) := of_decide_eq_true (by first | (with_reducible assumption) | assumption)
                            obtain ⟨ad344, e344, hx344_0, hx344_1⟩ := at_T39 HR1.out x8_2 p344 q344
                            cases e344
                            replace hx344_0 := (HB.out.cell (World.block_lt_of_cell? w _ hx344_0)).trans hx344_0
                            replace hx344_1 := (HB.out.cell (World.block_lt_of_cell? w _ hx344_1)).trans hx344_1
                            replace p344 := eq_true p344
                            (try replace p344z := eq_true p344z)
                            replace q344 := eq_true q344
                            (try replace q344z := eq_true q344z)
                            have p362 : 0 ≤ (x8_2 : Int) := of_decide_eq_true (by first | (with_reducible assumption) | assumption)
                            have q362 : x8_2 < (l1.length : Int) := of_decide_eq_true (by first | (with_reducible assumption) | assumption)
                            obtain ⟨ad362, e362, hx362_0, hx362_1⟩ := at_T39 HR1.out x8_2 p362 q362
                            obtain rfl : ad344 = ad362 := (by injection e362)
                            replace hx362_0 := (HB.out.cell (World.block_lt_of_cell? w _ hx362_0)).trans hx362_0
                            replace hx362_1 := (HB.out.cell (World.block_lt_of_cell? w _ hx362_1)).trans hx362_1
                            replace p362 := eq_true p362
                            (try replace p362z := eq_true p362z)
                            replace q362 := eq_true q362
                            (try replace q362z := eq_true q362z)
                            have p363 : 0 ≤ (x8_2 : Int) := of_decide_eq_true (by first | (with_reducible assumption) | assumption)
                            have q363 : x8_2 < (l1.length : Int) := of_decide_eq_true (by first | (with_reducible assumption) | assumption)
                            obtain ⟨ad363, e363, hx363_0, hx363_1⟩ := at_T39 HR1.out x8_2 p363 q363
                            obtain rfl : ad344 = ad363 := (by injection e363)
                            replace hx363_0 := (HB.out.cell (World.block_lt_of_cell? w _ hx363_0)).trans hx363_0
                            replace hx363_1 := (HB.out.cell (World.block_lt_of_cell? w _ hx363_1)).trans hx363_1
                            replace p363 := eq_true p363
                            (try replace p363z := eq_true p363z)
                            replace q363 := eq_true q363
                            (try replace q363z := eq_true q363z)
                            go_wp2_with (first | (go_at_call 20; (with_reducible refine (varint_Reader_Text.calls kj16 g331 x332000_2 x332001_2 x332002_2 ((rd_T39 l1 x8_2).f1) t364 t365 t366 t367 w _ ?side1 ?side2 A45.out).mono ?_); (case side1 => repeat (first | (with_reducible first | exact HI331.out | apply IsS51.alloc | apply IsS51.drewN | apply IsS51.drew | apply IsS51.set_0 | apply IsS51.set_1 | apply IsS51.set_2) | exact HI331.out)); (case side2 => repeat (first | (with_reducible first | exact HB.out | apply below_alloc | apply pw_below_drewN | apply below_drew1 | refine below_set ?_ (IsS51.ge HI331.out)) | exact HB.out)); rintro e w66 ⟨rfl, hi, hb, hk⟩; have n0_ := Aside0.mk (hb); have n1_ := Aside0.mk (hi); clear HB; clear HI331; have HB := n0_; have HI331 := n1_; clear n0_ n1_; (try clear hb); (try clear hb2); (try clear hk); (try clear hi)))
                            go_ret
                            exact ⟨by first | rfl | (simp [errW_none, errW_some] <;> rfl) | (simp [*, errW_none, errW_some] <;> rfl), by repeat (first | (with_reducible first | exact HB.out | apply below_alloc | apply pw_below_drewN | apply below_drew1 | refine below_set ?_ (IsS51.ge HI331.out)) | exact HB.out)⟩
                      · rw [if_neg c21] at H
                        exact absurd H (by simp)
                    · rw [if_neg c20] at H
                      exact absurd H (by simp)
                  · replace c19 := Bool.eq_false_iff.mpr c19
                    subst c19
                    have H1 : ((varint_Reader_Bad.f x332000_2 x332001_2 x332002_2).bind fun bt340 => (if bt340.1 = true then (some (t336 == (a0.size : Int))) else (some false))) = some r := by rw [if_neg (show ¬ (false = true) by decide)] at H; exact H
                    clear H
                    have H := H1
                    clear H1
                    replace H := Option.bind_eq_some_iff.mp H
                    obtain ⟨⟨t340, t341, t342, t343⟩, A670, H⟩ := H
                    replace H : (if t340 = true then (some (t336 == (a0.size : Int))) else (some false)) = some r := H
                    have A67 := Aside0.mk A670
                    clear A670
                    by_cases c68 : t340 = true
                    · subst c68
                      have H1 : (some (t336 == (a0.size : Int))) = some r := by rw [if_pos rfl] at H; exact H
                      clear H
                      have H := H1
                      clear H1
                      obtain rfl := Option.some.inj H
                      go_wp2_with (first | ((with_reducible refine gate_callee (f := 21) rfl ?_); refine goesL_ (some 84) rfl rfl Try.func21 (by kernel_rfl) rfl #[.pointer (some ⟨g331, 0, none⟩)] rfl (by (try simp only [List.map_toArray, List.map_cons, List.map_nil]); first | done | rfl | (simp only [List.length_drop, List.length_take]; rfl)) ?_; (with_reducible refine (varint_Reader_Bad.calls g331 x332000_2 x332001_2 x332002_2 true t341 t342 t343 w _ ?side1 ?side2 A67.out).mono ?_); (case side1 => repeat (first | (with_reducible first | exact HI331.out | apply IsS51.alloc | apply IsS51.drewN | apply IsS51.drew | apply IsS51.set_0 | apply IsS51.set_1 | apply IsS51.set_2) | exact HI331.out)); (case side2 => repeat (first | (with_reducible first | exact HB.out | apply below_alloc | apply pw_below_drewN | apply below_drew1 | refine below_set ?_ (IsS51.ge HI331.out)) | exact HB.out)); rintro e w69 ⟨rfl, hi, hb, hk⟩; refine ⟨_, rfl, ?_⟩; have n0_ := Aside0.mk (hb); have n1_ := Aside0.mk (hi); clear HB; clear HI331; have HB := n0_; have HI331 := n1_; clear n0_ n1_; (try clear hb); (try clear hb2); (try clear hk); (try clear hi)))
                      go_ret
                      exact ⟨by first | rfl | (simp [errW_none, errW_some] <;> rfl) | (simp [*, errW_none, errW_some] <;> rfl), by repeat (first | (with_reducible first | exact HB.out | apply below_alloc | apply pw_below_drewN | apply below_drew1 | refine below_set ?_ (IsS51.ge HI331.out)) | exact HB.out)⟩
                    · replace c68 := Bool.eq_false_iff.mpr c68
                      subst c68
                      have H1 : (some false) = some r := by rw [if_neg (show ¬ (false = true) by decide)] at H; exact H
                      clear H
                      have H := H1
                      clear H1
                      obtain rfl := Option.some.inj H
                      go_wp2_with (first | ((with_reducible refine gate_callee (f := 21) rfl ?_); refine goesL_ (some 84) rfl rfl Try.func21 (by kernel_rfl) rfl #[.pointer (some ⟨g331, 0, none⟩)] rfl (by (try simp only [List.map_toArray, List.map_cons, List.map_nil]); first | done | rfl | (simp only [List.length_drop, List.length_take]; rfl)) ?_; (with_reducible refine (varint_Reader_Bad.calls g331 x332000_2 x332001_2 x332002_2 false t341 t342 t343 w _ ?side1 ?side2 A67.out).mono ?_); (case side1 => repeat (first | (with_reducible first | exact HI331.out | apply IsS51.alloc | apply IsS51.drewN | apply IsS51.drew | apply IsS51.set_0 | apply IsS51.set_1 | apply IsS51.set_2) | exact HI331.out)); (case side2 => repeat (first | (with_reducible first | exact HB.out | apply below_alloc | apply pw_below_drewN | apply below_drew1 | refine below_set ?_ (IsS51.ge HI331.out)) | exact HB.out)); rintro e w70 ⟨rfl, hi, hb, hk⟩; refine ⟨_, rfl, ?_⟩; have n0_ := Aside0.mk (hb); have n1_ := Aside0.mk (hi); clear HB; clear HI331; have HB := n0_; have HI331 := n1_; clear n0_ n1_; (try clear hb); (try clear hb2); (try clear hk); (try clear hi)))
                      go_ret
                      exact ⟨by first | rfl | (simp [errW_none, errW_some] <;> rfl) | (simp [*, errW_none, errW_some] <;> rfl), by repeat (first | (with_reducible first | exact HB.out | apply below_alloc | apply pw_below_drewN | apply below_drew1 | refine below_set ?_ (IsS51.ge HI331.out)) | exact HB.out)⟩
  · rw [if_neg c5] at H
    exact absurd H (by simp)

end Go.Proofs.Ytbgmgigjogoemaa.Q
