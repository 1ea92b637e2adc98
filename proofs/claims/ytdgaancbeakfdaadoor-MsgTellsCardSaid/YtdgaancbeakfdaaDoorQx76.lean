-- Written by a program of this session (mp.py).
import Derived.Test.YtdgaancbeakfdaaDoorQx0
import Derived.Test.YtdgaancbeakfdaaDoorQy8
import Derived.Test.YtdgaancbeakfdaaDoorQy9
namespace Go.Proofs.YtdgaancbeakfdaaDoor.Q
open Go.RowKit Go.Proofs.YtdgaancbeakfdaaDoorW.PrintWords Go.Proofs.YtdgaancbeakfdaaDoorW.PrintLast Go.Proofs.YtdgaancbeakfdaaDoor.Mo
attribute [local go_sem] max2_int min2_int max_two min_two max_three min_three max_four min_four   -- for this text's walks alone
open Go.Proofs.YtdgaancbeakfdaaDoor.Giv Go.Proofs.YtdgaancbeakfdaaDoor.Gn
set_option linter.unusedVariables false
set_option linter.unusedSimpArgs false

/-! ### billetref03_Take: function 34 -/
mutual
def billetref03_Take.j0 : Nat → ByteArray → Bool → Option (ByteArray × Int × Int)
 | 0, _, _ => none
 | k + 1, x0, x22 => if x22 = true then (some ((⟨#[]⟩ : ByteArray), 0, 30)) else ((billetref01_New.f x0).bind fun btI => ((billetref01_Reader_Num.f k btI.1 btI.2).bind fun btA => ((billetref01_Reader_Bad.f btA.2.1 btA.2.2).bind fun btD => (if btD.1 = true then (billetref03_Take.j1 k x0 btA.1 true btD.2.1 btD.2.2) else (if btA.1 < 0 then (billetref03_Take.j1 k x0 btA.1 true btD.2.1 btD.2.2) else (billetref03_Take.j1 k x0 btA.1 (decide (btA.1 > 4096)) btD.2.1 btD.2.2))))))
def billetref03_Take.j1 : Nat → ByteArray → Int → Bool → ByteArray → Bool → Option (ByteArray × Int × Int)
 | 0, _, _, _, _, _ => none
 | k + 1, x0, x6, x37, xV, xW => if x37 = true then (some ((⟨#[]⟩ : ByteArray), 0, 31)) else ((billetref01_Reader_Left.f xV xW).bind fun btF => (if btF.1 < (wrap64 (x6 + 4)) then (some ((⟨#[]⟩ : ByteArray), 0, 30)) else ((billetref01_Reader_Left.f btF.2.1 btF.2.2).bind fun btC => (if 0 ≤ (wrap64 ((x0.size : Int) - btC.1)) then (if (wrap64 ((x0.size : Int) - btC.1)) ≤ (wrap64 ((wrap64 ((x0.size : Int) - btC.1)) + x6)) then (if (wrap64 ((wrap64 ((x0.size : Int) - btC.1)) + x6)) ≤ (x0.size : Int) then ((billetref03_Lay.f k (x0.extract ((wrap64 ((x0.size : Int) - btC.1)) : Int).toNat ((wrap64 ((wrap64 ((x0.size : Int) - btC.1)) + x6)) : Int).toNat)).bind fun btE => (if 0 ≤ (wrap64 ((wrap64 ((wrap64 ((x0.size : Int) - btC.1)) + x6)) + 4)) then (if (wrap64 ((wrap64 ((wrap64 ((x0.size : Int) - btC.1)) + x6)) + 4)) ≤ (x0.size : Int) then (if (x0.extract 0 ((wrap64 ((wrap64 ((wrap64 ((x0.size : Int) - btC.1)) + x6)) + 4)) : Int).toNat).toList = btE.1.toList then (some (x0.extract ((wrap64 ((x0.size : Int) - btC.1)) : Int).toNat ((wrap64 ((wrap64 ((x0.size : Int) - btC.1)) + x6)) : Int).toNat, wrap64 ((wrap64 ((wrap64 ((x0.size : Int) - btC.1)) + x6)) + 4), 0)) else (some ((⟨#[]⟩ : ByteArray), 0, 31))) else (none)) else (none))) else (none)) else (none)) else (none)))))
end
def billetref03_Take.f (k : Nat) (a0 : ByteArray) : Option (ByteArray × Int × Int) := if a0.toList = ([] : List UInt8) then (billetref03_Take.j0 k a0 true) else (if (a0.size : Int) = 1 then (if 0 < (a0.size : Int) then (billetref03_Take.j0 k a0 (decide ((bt a0 0) ≥ 128))) else (none)) else (billetref03_Take.j0 k a0 false))
theorem billetref03_Take.mono_l : ∀ k, (∀ y0 y1, LeO (billetref03_Take.j0 k y0 y1) (billetref03_Take.j0 (k + 1) y0 y1)) ∧ (∀ y0 y1 y2 y3 y4, LeO (billetref03_Take.j1 k y0 y1 y2 y3 y4) (billetref03_Take.j1 (k + 1) y0 y1 y2 y3 y4))
 | 0 => ⟨fun _ _ r h => by simp [billetref03_Take.j0] at h, fun _ _ _ _ _ r h => by simp [billetref03_Take.j1] at h⟩
 | k + 1 => by
  obtain ⟨ih0, ih1⟩ := billetref03_Take.mono_l k
  refine ⟨?_, ?_⟩
  ·intro y0 y1
   unfold billetref03_Take.j0
   repeat' first
   | (with_reducible exact ih0 _ _)
   | (with_reducible exact ih1 _ _ _ _ _)
   | (with_reducible exact billetref01_Reader_Num.mono _ _ _)
   | (with_reducible exact billetref03_Lay.mono _ _)
   | (with_reducible exact LeO.refl _)
   | (with_reducible exact LeO.none _)
   | (with_reducible refine LeO.ite ?_ ?_)
   | (with_reducible refine LeO.bind ?_ (fun _ => ?_))
   | exact ih0 _ _
   | exact ih1 _ _ _ _ _
   | exact billetref01_Reader_Num.mono _ _ _
   | exact billetref03_Lay.mono _ _
   | exact LeO.none _
   | refine LeO.ite ?_ ?_
   | refine LeO.bind ?_ (fun _ => ?_)
  ·intro y0 y1 y2 y3 y4
   unfold billetref03_Take.j1
   repeat' first
   | (with_reducible exact ih0 _ _)
   | (with_reducible exact ih1 _ _ _ _ _)
   | (with_reducible exact billetref01_Reader_Num.mono _ _ _)
   | (with_reducible exact billetref03_Lay.mono _ _)
   | (with_reducible exact LeO.refl _)
   | (with_reducible exact LeO.none _)
   | (with_reducible refine LeO.ite ?_ ?_)
   | (with_reducible refine LeO.bind ?_ (fun _ => ?_))
   | exact ih0 _ _
   | exact ih1 _ _ _ _ _
   | exact billetref01_Reader_Num.mono _ _ _
   | exact billetref03_Lay.mono _ _
   | exact LeO.none _
   | refine LeO.ite ?_ ?_
   | refine LeO.bind ?_ (fun _ => ?_)
theorem billetref03_Take.mono : ∀ a0 k, LeO (billetref03_Take.f k a0) (billetref03_Take.f (k + 1) a0) := by
 intro a0 k
 obtain ⟨ih0, ih1⟩ := billetref03_Take.mono_l k
 unfold billetref03_Take.f
 repeat' first
   | (with_reducible exact ih0 _ _)
   | (with_reducible exact ih1 _ _ _ _ _)
   | (with_reducible exact billetref01_Reader_Num.mono _ _ _)
   | (with_reducible exact billetref03_Lay.mono _ _)
   | (with_reducible exact LeO.refl _)
   | (with_reducible exact LeO.none _)
   | (with_reducible refine LeO.ite ?_ ?_)
   | (with_reducible refine LeO.bind ?_ (fun _ => ?_))
   | exact ih0 _ _
   | exact ih1 _ _ _ _ _
   | exact billetref01_Reader_Num.mono _ _ _
   | exact billetref03_Lay.mono _ _
   | exact LeO.none _
   | refine LeO.ite ?_ ?_
   | refine LeO.bind ?_ (fun _ => ?_)
set_option maxHeartbeats 8000000 in
set_option maxRecDepth 100000 in
theorem billetref03_Take.calls (k : Nat) (a0 : ByteArray) (r1 : ByteArray) (r2 : Int) (r3 : Int) (w : World) (h : billetref03_Take.f k a0 = some (r1, r2, r3)) :
  Calls Tryd.prog 34 #[.string a0] w fun e w' => e = .returned (.tuple #[.string r1, .int .i64 r2, .int .i64 r3]) ∧ Below w.heap.size w w' := by
 have HB := Aside0.mk (Below.refl w.heap.size w)
 have H : (if a0.toList = ([] : List UInt8) then (billetref03_Take.j0 k a0 true) else (if (a0.size : Int) = 1 then (if 0 < (a0.size : Int) then (billetref03_Take.j0 k a0 (decide ((bt a0 0) ≥ 128))) else (none)) else (billetref03_Take.j0 k a0 false))) = some (r1, r2, r3) := h
 clear h
 have HC2 := Aside0.mk H
 clear H
 go_enter Tryd.func34, Tryd.ntmps34
 go_upto_region 1 with (fail)
 go_cut [22] (fun v22 wc => ∃ (kq : Nat) (x22_1 : Bool), v22 = .bool x22_1 ∧ Aside0 (billetref03_Take.j0 kq a0 x22_1 = some (r1, r2, r3)) ∧ Aside0 (kq ≤ k) ∧ Aside0 (Below w.heap.size w wc))
 case first =>
  have H := HC2.out
  clear HC2
  by_cases c3 : a0.toList = ([] : List UInt8)
  ·rw [if_pos c3] at H
   have c3b0 : (a0.toList == ([] : List UInt8)) = true := beq_iff_eq.mpr c3
   have c3b1 : (a0.toList != ([] : List UInt8)) = false := bne_eq_false_iff_eq.mpr c3
   clear c3
   (first | rw [c3b0] | (simp only [i64_w, i32_w]; rw [c3b0]) | skip)
   have H' := Aside0.mk H
   clear H
   go_wp2
   go_meet
   case rel => exact ⟨_, (true), (by first | rfl | (simp; done) | (simp [*]; done)), H', ⟨by first | omega | exact Nat.le_refl _⟩, ⟨by repeat (first | (with_reducible first | exact HB.out | apply below_alloc | apply pw_below_drewN | apply below_drew1) | exact HB.out)⟩⟩
  ·rw [if_neg c3] at H
   have c3b0 : (a0.toList == ([] : List UInt8)) = false := beq_eq_false_iff_ne.mpr c3
   have c3b1 : (a0.toList != ([] : List UInt8)) = true := bne_iff_ne.mpr c3
   (first | rw [c3b0] | (simp only [i64_w, i32_w]; rw [c3b0]) | skip)
   by_cases c4 : (a0.size : Int) = 1
   ·rw [if_pos c4] at H
    have c4b0 : ((a0.size : Int) == 1) = true := beq_iff_eq.mpr c4
    have c4b1 : ((a0.size : Int) != 1) = false := bne_eq_false_iff_eq.mpr c4
    clear c4
    by_cases c5 : 0 < (a0.size : Int)
    ·rw [if_pos c5] at H
     have c5b0 : decide (0 < (a0.size : Int)) = true := decide_eq_true c5
     have c5b1 : decide (0 < a0.size) = true := decide_eq_true (by omega)
     clear c5
     have H' := Aside0.mk H
     clear H
     have p6 : 0 ≤ (0 : Int) := (by omega)
     have q6 : 0 < a0.size := (by have : (0 : Int) < (a0.size : Int) := of_decide_eq_true (by first | (with_reducible assumption) | assumption); omega)
     have hx6 : ∀ h : 0 < a0.size, ((a0[0]'h).toNat : Int) = bt a0 0 := bt_at a0 0
     clear p6
     have qi6 : (0 < (a0.size : Int)) = True := eq_true (of_decide_eq_true (by first | (with_reducible assumption) | assumption))
     replace q6 := eq_true q6
     (try replace q6z := eq_true q6z)
     go_wp2
     go_meet
     case rel => exact ⟨_, (decide ((bt a0 0) ≥ 128)), (by first | rfl | (simp; done) | (simp [*]; done)), H', ⟨by first | omega | exact Nat.le_refl _⟩, ⟨by repeat (first | (with_reducible first | exact HB.out | apply below_alloc | apply pw_below_drewN | apply below_drew1) | exact HB.out)⟩⟩
    ·rw [if_neg c5] at H
     exact absurd H (by simp)
   ·rw [if_neg c4] at H
    have c4b0 : ((a0.size : Int) == 1) = false := beq_eq_false_iff_ne.mpr c4
    have c4b1 : ((a0.size : Int) != 1) = true := bne_iff_ne.mpr c4
    have H' := Aside0.mk H
    clear H
    go_wp2
    go_meet
    case rel => exact ⟨_, (false), (by first | rfl | (simp; done) | (simp [*]; done)), H', ⟨by first | omega | exact Nat.le_refl _⟩, ⟨by repeat (first | (with_reducible first | exact HB.out | apply below_alloc | apply pw_below_drewN | apply below_drew1) | exact HB.out)⟩⟩
 case rest =>
  clear HC2
  obtain ⟨kq, x22_1, rfl, HA, HJ1, HB⟩ := hcut
  cases kq with
  | zero => exact absurd HA.out (by simp [billetref03_Take.j0])
  | succ kj1 =>
   have H := HA.out
   clear HA
   simp only [billetref03_Take.j0] at H
   by_cases c7 : x22_1 = true
   ·subst c7
    have H1 : (some ((⟨#[]⟩ : ByteArray), 0, 30)) = some (r1, r2, r3) := by rw [if_pos rfl] at H; exact H
    clear H
    have H := H1
    clear H1
    simp only [Option.some.injEq, Prod.mk.injEq] at H
    obtain ⟨rfl, rfl, rfl⟩ := H
    go_wp2
    go_ret3
    exact ⟨by first | rfl | (simp [errW_none, errW_some] <;> rfl) | (simp [*, errW_none, errW_some] <;> rfl), by repeat (first | (with_reducible first | exact HB.out | apply below_alloc | apply pw_below_drewN | apply below_drew1) | exact HB.out)⟩
   ·replace c7 := Bool.eq_false_iff.mpr c7
    subst c7
    have H1 : ((billetref01_New.f a0).bind fun btI => ((billetref01_Reader_Num.f kj1 btI.1 btI.2).bind fun btA => ((billetref01_Reader_Bad.f btA.2.1 btA.2.2).bind fun btD => (if btD.1 = true then (billetref03_Take.j1 kj1 a0 btA.1 true btD.2.1 btD.2.2) else (if btA.1 < 0 then (billetref03_Take.j1 kj1 a0 btA.1 true btD.2.1 btD.2.2) else (billetref03_Take.j1 kj1 a0 btA.1 (decide (btA.1 > 4096)) btD.2.1 btD.2.2)))))) = some (r1, r2, r3) := by rw [if_neg (show ¬ (false = true) by decide)] at H; exact H
    clear H
    have H := H1
    clear H1
    replace H := Option.bind_eq_some_iff.mp H
    obtain ⟨⟨tI, tL⟩, A80, H⟩ := H
    replace H : ((billetref01_Reader_Num.f kj1 tI tL).bind fun btA => ((billetref01_Reader_Bad.f btA.2.1 btA.2.2).bind fun btD => (if btD.1 = true then (billetref03_Take.j1 kj1 a0 btA.1 true btD.2.1 btD.2.2) else (if btA.1 < 0 then (billetref03_Take.j1 kj1 a0 btA.1 true btD.2.1 btD.2.2) else (billetref03_Take.j1 kj1 a0 btA.1 (decide (btA.1 > 4096)) btD.2.1 btD.2.2))))) = some (r1, r2, r3) := H
    have A8 := Aside0.mk A80
    clear A80
    replace H := Option.bind_eq_some_iff.mp H
    obtain ⟨⟨tA, tM, tN⟩, A90, H⟩ := H
    replace H : ((billetref01_Reader_Bad.f tM tN).bind fun btD => (if btD.1 = true then (billetref03_Take.j1 kj1 a0 tA true btD.2.1 btD.2.2) else (if tA < 0 then (billetref03_Take.j1 kj1 a0 tA true btD.2.1 btD.2.2) else (billetref03_Take.j1 kj1 a0 tA (decide (tA > 4096)) btD.2.1 btD.2.2)))) = some (r1, r2, r3) := H
    have A9 := Aside0.mk A90
    clear A90
    replace H := Option.bind_eq_some_iff.mp H
    obtain ⟨⟨tD, tG, tH⟩, AO, H⟩ := H
    replace H : (if tD = true then (billetref03_Take.j1 kj1 a0 tA true tG tH) else (if tA < 0 then (billetref03_Take.j1 kj1 a0 tA true tG tH) else (billetref03_Take.j1 kj1 a0 tA (decide (tA > 4096)) tG tH))) = some (r1, r2, r3) := H
    have A10 := Aside0.mk AO
    clear AO
    have HC11 := Aside0.mk H
    clear H
    go_upto_region 6 with (first | ((with_reducible refine gate_callee (f := 35) rfl ?_); refine goesL_ (some 24) rfl rfl Tryd.func35 (by kernel_rfl) rfl #[.string a0] rfl (by (try simp only [List.map_toArray, List.map_cons, List.map_nil]); first | done | rfl | (simp only [List.length_drop, List.length_take]; rfl)) ?_; (with_reducible refine (billetref01_New.calls a0 tI tL w _ ?side1 A8.out).mono ?_); (case side1 => repeat (first | (with_reducible first | exact HB.out | apply below_alloc | apply pw_below_drewN | apply below_drew1) | exact HB.out)); rintro e w12 ⟨gB, rfl, hi, hb, hb2, hge⟩; refine ⟨_, rfl, ?_⟩; have n0_ := Aside0.mk (hb); have n1_ := Aside0.mk (hi); clear HB; have HB := n0_; have HIB := n1_; clear n0_ n1_; (try clear hb); (try clear hb2); (try clear hk); (try clear hi); (try clear hge)) | ((with_reducible refine gate_callee (f := 36) rfl ?_); refine goesL_ (some 26) rfl rfl Tryd.func36 (by kernel_rfl) rfl #[.pointer (some ⟨gB, 0, none⟩)] rfl (by (try simp only [List.map_toArray, List.map_cons, List.map_nil]); first | done | rfl | (simp only [List.length_drop, List.length_take]; rfl)) ?_; (with_reducible refine (billetref01_Reader_Num.calls kj1 gB tI tL tA tM tN w _ ?side1 ?side2 A9.out).mono ?_); (case side1 => repeat (first | (with_reducible first | exact HIB.out | apply IsS79.alloc | apply IsS79.drewN | apply IsS79.drew | apply IsS79.set_0 | apply IsS79.set_1) | exact HIB.out)); (case side2 => repeat (first | (with_reducible first | exact HB.out | apply below_alloc | apply pw_below_drewN | apply below_drew1 | refine below_set ?_ (IsS79.ge HIB.out)) | exact HB.out)); rintro e w13 ⟨rfl, hi, hb, hk⟩; refine ⟨_, rfl, ?_⟩; have n0_ := Aside0.mk (hb); have n1_ := Aside0.mk (hi); clear HB; clear HIB; have HB := n0_; have HIB := n1_; clear n0_ n1_; (try clear hb); (try clear hb2); (try clear hk); (try clear hi); (try clear hge)) | ((with_reducible refine gate_callee (f := 52) rfl ?_); refine goesL_ (some 28) rfl rfl Tryd.func52 (by kernel_rfl) rfl #[.pointer (some ⟨gB, 0, none⟩)] rfl (by (try simp only [List.map_toArray, List.map_cons, List.map_nil]); first | done | rfl | (simp only [List.length_drop, List.length_take]; rfl)) ?_; (with_reducible refine (billetref01_Reader_Bad.calls gB tM tN tD tG tH w _ ?side1 ?side2 A10.out).mono ?_); (case side1 => repeat (first | (with_reducible first | exact HIB.out | apply IsS79.alloc | apply IsS79.drewN | apply IsS79.drew | apply IsS79.set_0 | apply IsS79.set_1) | exact HIB.out)); (case side2 => repeat (first | (with_reducible first | exact HB.out | apply below_alloc | apply pw_below_drewN | apply below_drew1 | refine below_set ?_ (IsS79.ge HIB.out)) | exact HB.out)); rintro e w14 ⟨rfl, hi, hb, hk⟩; refine ⟨_, rfl, ?_⟩; have n0_ := Aside0.mk (hb); have n1_ := Aside0.mk (hi); clear HB; clear HIB; have HB := n0_; have HIB := n1_; clear n0_ n1_; (try clear hb); (try clear hb2); (try clear hk); (try clear hi); (try clear hge)))
    (try simp only [Act.put, List.setIfInBounds_toArray, List.set_cons_zero, List.set_cons_succ])
    go_cut [37] (fun v37 wc => ∃ (kq : Nat) (x37_10 : Bool), v37 = .bool x37_10 ∧ Aside0 (billetref03_Take.j1 kq a0 tA x37_10 tG tH = some (r1, r2, r3)) ∧ Aside0 (kq ≤ kj1) ∧ Aside0 (IsS79 w wc gB tG tH) ∧ Aside0 (Below w.heap.size w wc))
    case first =>
     have H := HC11.out
     clear HC11
     by_cases c15 : tD = true
     ·subst c15
      have H1 : (billetref03_Take.j1 kj1 a0 tA true tG tH) = some (r1, r2, r3) := by rw [if_pos rfl] at H; exact H
      clear H
      have H := H1
      clear H1
      have H' := Aside0.mk H
      clear H
      go_wp2
      go_meet
      case rel => exact ⟨_, (true), (by first | rfl | (simp; done) | (simp [*]; done)), H', ⟨by have := HJ1.out; first | omega | exact Nat.le_refl _⟩, ⟨by repeat (first | (with_reducible first | exact HIB.out | apply IsS79.alloc | apply IsS79.drewN | apply IsS79.drew | apply IsS79.set_0 | apply IsS79.set_1) | exact HIB.out)⟩, ⟨by repeat (first | (with_reducible first | exact HB.out | apply below_alloc | apply pw_below_drewN | apply below_drew1 | refine below_set ?_ (IsS79.ge HIB.out)) | exact HB.out)⟩⟩
     ·replace c15 := Bool.eq_false_iff.mpr c15
      subst c15
      have H1 : (if tA < 0 then (billetref03_Take.j1 kj1 a0 tA true tG tH) else (billetref03_Take.j1 kj1 a0 tA (decide (tA > 4096)) tG tH)) = some (r1, r2, r3) := by rw [if_neg (show ¬ (false = true) by decide)] at H; exact H
      clear H
      have H := H1
      clear H1
      by_cases c16 : tA < 0
      ·rw [if_pos c16] at H
       have c16b0 : decide (tA < 0) = true := decide_eq_true c16
       clear c16
       (first | rw [c16b0] | (simp only [i64_w, i32_w]; rw [c16b0]) | skip)
       have H' := Aside0.mk H
       clear H
       go_wp2
       go_meet
       case rel => exact ⟨_, (true), (by first | rfl | (simp; done) | (simp [*]; done)), H', ⟨by have := HJ1.out; first | omega | exact Nat.le_refl _⟩, ⟨by repeat (first | (with_reducible first | exact HIB.out | apply IsS79.alloc | apply IsS79.drewN | apply IsS79.drew | apply IsS79.set_0 | apply IsS79.set_1) | exact HIB.out)⟩, ⟨by repeat (first | (with_reducible first | exact HB.out | apply below_alloc | apply pw_below_drewN | apply below_drew1 | refine below_set ?_ (IsS79.ge HIB.out)) | exact HB.out)⟩⟩
      ·rw [if_neg c16] at H
       have c16b0 : decide (tA < 0) = false := decide_eq_false c16
       clear c16
       (first | rw [c16b0] | (simp only [i64_w, i32_w]; rw [c16b0]) | skip)
       have H' := Aside0.mk H
       clear H
       go_wp2
       go_meet
       case rel => exact ⟨_, (decide (tA > 4096)), (by first | rfl | (simp; done) | (simp [*]; done)), H', ⟨by have := HJ1.out; first | omega | exact Nat.le_refl _⟩, ⟨by repeat (first | (with_reducible first | exact HIB.out | apply IsS79.alloc | apply IsS79.drewN | apply IsS79.drew | apply IsS79.set_0 | apply IsS79.set_1) | exact HIB.out)⟩, ⟨by repeat (first | (with_reducible first | exact HB.out | apply below_alloc | apply pw_below_drewN | apply below_drew1 | refine below_set ?_ (IsS79.ge HIB.out)) | exact HB.out)⟩⟩
    case rest =>
     clear HC11
     obtain ⟨kq, x37_10, rfl, HA, HJ10, HIB, HB⟩ := hcut
     cases kq with
     | zero => exact absurd HA.out (by simp [billetref03_Take.j1])
     | succ kj10 =>
      have H := HA.out
      clear HA
      simp only [billetref03_Take.j1] at H
      by_cases c17 : x37_10 = true
      ·subst c17
       have H1 : (some ((⟨#[]⟩ : ByteArray), 0, 31)) = some (r1, r2, r3) := by rw [if_pos rfl] at H; exact H
       clear H
       have H := H1
       clear H1
       simp only [Option.some.injEq, Prod.mk.injEq] at H
       obtain ⟨rfl, rfl, rfl⟩ := H
       go_wp2
       go_ret3
       exact ⟨by first | rfl | (simp [errW_none, errW_some] <;> rfl) | (simp [*, errW_none, errW_some] <;> rfl), by repeat (first | (with_reducible first | exact HB.out | apply below_alloc | apply pw_below_drewN | apply below_drew1 | refine below_set ?_ (IsS79.ge HIB.out)) | exact HB.out)⟩
      ·replace c17 := Bool.eq_false_iff.mpr c17
       subst c17
       have H1 : ((billetref01_Reader_Left.f tG tH).bind fun btF => (if btF.1 < (wrap64 (tA + 4)) then (some ((⟨#[]⟩ : ByteArray), 0, 30)) else ((billetref01_Reader_Left.f btF.2.1 btF.2.2).bind fun btC => (if 0 ≤ (wrap64 ((a0.size : Int) - btC.1)) then (if (wrap64 ((a0.size : Int) - btC.1)) ≤ (wrap64 ((wrap64 ((a0.size : Int) - btC.1)) + tA)) then (if (wrap64 ((wrap64 ((a0.size : Int) - btC.1)) + tA)) ≤ (a0.size : Int) then ((billetref03_Lay.f kj10 (a0.extract ((wrap64 ((a0.size : Int) - btC.1)) : Int).toNat ((wrap64 ((wrap64 ((a0.size : Int) - btC.1)) + tA)) : Int).toNat)).bind fun btE => (if 0 ≤ (wrap64 ((wrap64 ((wrap64 ((a0.size : Int) - btC.1)) + tA)) + 4)) then (if (wrap64 ((wrap64 ((wrap64 ((a0.size : Int) - btC.1)) + tA)) + 4)) ≤ (a0.size : Int) then (if (a0.extract 0 ((wrap64 ((wrap64 ((wrap64 ((a0.size : Int) - btC.1)) + tA)) + 4)) : Int).toNat).toList = btE.1.toList then (some (a0.extract ((wrap64 ((a0.size : Int) - btC.1)) : Int).toNat ((wrap64 ((wrap64 ((a0.size : Int) - btC.1)) + tA)) : Int).toNat, wrap64 ((wrap64 ((wrap64 ((a0.size : Int) - btC.1)) + tA)) + 4), 0)) else (some ((⟨#[]⟩ : ByteArray), 0, 31))) else (none)) else (none))) else (none)) else (none)) else (none))))) = some (r1, r2, r3) := by rw [if_neg (show ¬ (false = true) by decide)] at H; exact H
       clear H
       have H := H1
       clear H1
       replace H := Option.bind_eq_some_iff.mp H
       obtain ⟨⟨tF, tJ, tK⟩, AP, H⟩ := H
       replace H : (if tF < (wrap64 (tA + 4)) then (some ((⟨#[]⟩ : ByteArray), 0, 30)) else ((billetref01_Reader_Left.f tJ tK).bind fun btC => (if 0 ≤ (wrap64 ((a0.size : Int) - btC.1)) then (if (wrap64 ((a0.size : Int) - btC.1)) ≤ (wrap64 ((wrap64 ((a0.size : Int) - btC.1)) + tA)) then (if (wrap64 ((wrap64 ((a0.size : Int) - btC.1)) + tA)) ≤ (a0.size : Int) then ((billetref03_Lay.f kj10 (a0.extract ((wrap64 ((a0.size : Int) - btC.1)) : Int).toNat ((wrap64 ((wrap64 ((a0.size : Int) - btC.1)) + tA)) : Int).toNat)).bind fun btE => (if 0 ≤ (wrap64 ((wrap64 ((wrap64 ((a0.size : Int) - btC.1)) + tA)) + 4)) then (if (wrap64 ((wrap64 ((wrap64 ((a0.size : Int) - btC.1)) + tA)) + 4)) ≤ (a0.size : Int) then (if (a0.extract 0 ((wrap64 ((wrap64 ((wrap64 ((a0.size : Int) - btC.1)) + tA)) + 4)) : Int).toNat).toList = btE.1.toList then (some (a0.extract ((wrap64 ((a0.size : Int) - btC.1)) : Int).toNat ((wrap64 ((wrap64 ((a0.size : Int) - btC.1)) + tA)) : Int).toNat, wrap64 ((wrap64 ((wrap64 ((a0.size : Int) - btC.1)) + tA)) + 4), 0)) else (some ((⟨#[]⟩ : ByteArray), 0, 31))) else (none)) else (none))) else (none)) else (none)) else (none)))) = some (r1, r2, r3) := H
       have A18 := Aside0.mk AP
       clear AP
       by_cases c19 : tF < (wrap64 (tA + 4))
       ·rw [if_pos c19] at H
        have c19b0 : decide (tF < (wrap64 (tA + 4))) = true := decide_eq_true c19
        clear c19
        simp only [Option.some.injEq, Prod.mk.injEq] at H
        obtain ⟨rfl, rfl, rfl⟩ := H
        go_wp2_with (first | ((with_reducible refine gate_callee (f := 53) rfl ?_); refine goesL_ (some 39) rfl rfl Tryd.func53 (by kernel_rfl) rfl #[.pointer (some ⟨gB, 0, none⟩)] rfl (by (try simp only [List.map_toArray, List.map_cons, List.map_nil]); first | done | rfl | (simp only [List.length_drop, List.length_take]; rfl)) ?_; (with_reducible refine (billetref01_Reader_Left.calls gB tG tH tF tJ tK w _ ?side1 ?side2 A18.out).mono ?_); (case side1 => repeat (first | (with_reducible first | exact HIB.out | apply IsS79.alloc | apply IsS79.drewN | apply IsS79.drew | apply IsS79.set_0 | apply IsS79.set_1) | exact HIB.out)); (case side2 => repeat (first | (with_reducible first | exact HB.out | apply below_alloc | apply pw_below_drewN | apply below_drew1 | refine below_set ?_ (IsS79.ge HIB.out)) | exact HB.out)); rintro e w20 ⟨rfl, hi, hb, hk⟩; refine ⟨_, rfl, ?_⟩; have n0_ := Aside0.mk (hb); have n1_ := Aside0.mk (hi); clear HB; clear HIB; have HB := n0_; have HIB := n1_; clear n0_ n1_; (try clear hb); (try clear hb2); (try clear hk); (try clear hi); (try clear hge)))
        go_ret3
        exact ⟨by first | rfl | (simp [errW_none, errW_some] <;> rfl) | (simp [*, errW_none, errW_some] <;> rfl), by repeat (first | (with_reducible first | exact HB.out | apply below_alloc | apply pw_below_drewN | apply below_drew1 | refine below_set ?_ (IsS79.ge HIB.out)) | exact HB.out)⟩
       ·rw [if_neg c19] at H
        have c19b0 : decide (tF < (wrap64 (tA + 4))) = false := decide_eq_false c19
        clear c19
        replace H := Option.bind_eq_some_iff.mp H
        obtain ⟨⟨tC, tQ, tR⟩, AS, H⟩ := H
        replace H : (if 0 ≤ (wrap64 ((a0.size : Int) - tC)) then (if (wrap64 ((a0.size : Int) - tC)) ≤ (wrap64 ((wrap64 ((a0.size : Int) - tC)) + tA)) then (if (wrap64 ((wrap64 ((a0.size : Int) - tC)) + tA)) ≤ (a0.size : Int) then ((billetref03_Lay.f kj10 (a0.extract ((wrap64 ((a0.size : Int) - tC)) : Int).toNat ((wrap64 ((wrap64 ((a0.size : Int) - tC)) + tA)) : Int).toNat)).bind fun btE => (if 0 ≤ (wrap64 ((wrap64 ((wrap64 ((a0.size : Int) - tC)) + tA)) + 4)) then (if (wrap64 ((wrap64 ((wrap64 ((a0.size : Int) - tC)) + tA)) + 4)) ≤ (a0.size : Int) then (if (a0.extract 0 ((wrap64 ((wrap64 ((wrap64 ((a0.size : Int) - tC)) + tA)) + 4)) : Int).toNat).toList = btE.1.toList then (some (a0.extract ((wrap64 ((a0.size : Int) - tC)) : Int).toNat ((wrap64 ((wrap64 ((a0.size : Int) - tC)) + tA)) : Int).toNat, wrap64 ((wrap64 ((wrap64 ((a0.size : Int) - tC)) + tA)) + 4), 0)) else (some ((⟨#[]⟩ : ByteArray), 0, 31))) else (none)) else (none))) else (none)) else (none)) else (none)) = some (r1, r2, r3) := H
        have A21 := Aside0.mk AS
        clear AS
        obtain ⟨ji22, hji22⟩ : ∃ j_ : Int, (wrap64 ((a0.size : Int) - tC)) = j_ := ⟨_, rfl⟩
        replace H : (if 0 ≤ (ji22) then (if (ji22) ≤ (wrap64 ((ji22) + tA)) then (if (wrap64 ((ji22) + tA)) ≤ (a0.size : Int) then ((billetref03_Lay.f kj10 (a0.extract ((ji22) : Int).toNat ((wrap64 ((ji22) + tA)) : Int).toNat)).bind fun btE => (if 0 ≤ (wrap64 ((wrap64 ((ji22) + tA)) + 4)) then (if (wrap64 ((wrap64 ((ji22) + tA)) + 4)) ≤ (a0.size : Int) then (if (a0.extract 0 ((wrap64 ((wrap64 ((ji22) + tA)) + 4)) : Int).toNat).toList = btE.1.toList then (some (a0.extract ((ji22) : Int).toNat ((wrap64 ((ji22) + tA)) : Int).toNat, wrap64 ((wrap64 ((ji22) + tA)) + 4), 0)) else (some ((⟨#[]⟩ : ByteArray), 0, 31))) else (none)) else (none))) else (none)) else (none)) else (none)) = some (r1, r2, r3) := by first | (rw [hji22] at H; exact H) | (simp only [hji22] at H ⊢; exact H)
        (try rw [hji22] at A18)
        (try rw [hji22] at A21)
        have hji22w : (IntKind.i64.wrap ((a0.size : Int) - tC)) = ji22 := (i64_w _).trans hji22
        by_cases c23 : 0 ≤ (ji22)
        ·rw [if_pos c23] at H
         have c23b0 := eq_true c23
         have c23b1 : decide (0 ≤ (ji22)) = true := decide_eq_true c23
         clear c23
         by_cases c24 : (ji22) ≤ (wrap64 ((ji22) + tA))
         ·rw [if_pos c24] at H
          have c24b0 := eq_true c24
          have c24b1 : decide ((ji22) ≤ (wrap64 ((ji22) + tA))) = true := decide_eq_true c24
          by_cases c25 : (wrap64 ((ji22) + tA)) ≤ (a0.size : Int)
          ·rw [if_pos c25] at H
           have c25b0 := eq_true c25
           have c25b1 : decide ((wrap64 ((ji22) + tA)) ≤ (a0.size : Int)) = true := decide_eq_true c25
           replace H := Option.bind_eq_some_iff.mp H
           obtain ⟨⟨tE, tT⟩, AU, H⟩ := H
           replace H : (if 0 ≤ (wrap64 ((wrap64 ((ji22) + tA)) + 4)) then (if (wrap64 ((wrap64 ((ji22) + tA)) + 4)) ≤ (a0.size : Int) then (if (a0.extract 0 ((wrap64 ((wrap64 ((ji22) + tA)) + 4)) : Int).toNat).toList = tE.toList then (some (a0.extract ((ji22) : Int).toNat ((wrap64 ((ji22) + tA)) : Int).toNat, wrap64 ((wrap64 ((ji22) + tA)) + 4), 0)) else (some ((⟨#[]⟩ : ByteArray), 0, 31))) else (none)) else (none)) = some (r1, r2, r3) := H
           have A26 := Aside0.mk AU
           clear AU
           obtain ⟨ji27, hji27⟩ : ∃ j_ : Int, (wrap64 ((wrap64 ((ji22) + tA)) + 4)) = j_ := ⟨_, rfl⟩
           replace H : (if 0 ≤ (ji27) then (if (ji27) ≤ (a0.size : Int) then (if (a0.extract 0 ((ji27) : Int).toNat).toList = tE.toList then (some (a0.extract ((ji22) : Int).toNat ((wrap64 ((ji22) + tA)) : Int).toNat, ji27, 0)) else (some ((⟨#[]⟩ : ByteArray), 0, 31))) else (none)) else (none)) = some (r1, r2, r3) := by first | (rw [hji27] at H; exact H) | (simp only [hji27] at H ⊢; exact H)
           (try rw [hji27] at A18)
           (try rw [hji27] at A21)
           (try rw [hji27] at A26)
           have hji27w : (IntKind.i64.wrap ((wrap64 ((ji22) + tA)) + 4)) = ji27 := (i64_w _).trans hji27
           (try rw [hji27] at hji22)
           (try rw [hji27] at hji22w)
           by_cases c28 : 0 ≤ (ji27)
           ·rw [if_pos c28] at H
            have c28b0 := eq_true c28
            have c28b1 : decide (0 ≤ (ji27)) = true := decide_eq_true c28
            clear c28
            by_cases c29 : (ji27) ≤ (a0.size : Int)
            ·rw [if_pos c29] at H
             (try have hle_ji27 := c29)
             (try have hmx_ji27 : max ji27 0 = ji27 := by omega)
             have c29b0 := eq_true c29
             have c29b1 : decide ((ji27) ≤ (a0.size : Int)) = true := decide_eq_true c29
             clear c29
             by_cases c30 : (a0.extract 0 ((ji27) : Int).toNat).toList = tE.toList
             ·rw [if_pos c30] at H
              have c30b0 : ((a0.extract 0 ((ji27) : Int).toNat).toList == tE.toList) = true := beq_iff_eq.mpr c30
              have c30b1 : ((a0.extract 0 ((ji27) : Int).toNat).toList != tE.toList) = false := bne_eq_false_iff_eq.mpr c30
              clear c30
              have c31b0 := eq_true (of_decide_eq_true (by first | (with_reducible assumption) | assumption) : 0 ≤ (ji22))
              have c32b0 := eq_true (of_decide_eq_true (by first | (with_reducible assumption) | assumption) : (ji22) ≤ (wrap64 ((ji22) + tA)))
              have c33b0 := eq_true (of_decide_eq_true (by first | (with_reducible assumption) | assumption) : (wrap64 ((ji22) + tA)) ≤ (a0.size : Int))
              simp only [Option.some.injEq, Prod.mk.injEq] at H
              obtain ⟨rfl, rfl, rfl⟩ := H
              go_wp2_with (first | ((with_reducible refine gate_callee (f := 53) rfl ?_); refine goesL_ (some 39) rfl rfl Tryd.func53 (by kernel_rfl) rfl #[.pointer (some ⟨gB, 0, none⟩)] rfl (by (try simp only [List.map_toArray, List.map_cons, List.map_nil]); first | done | rfl | (simp only [List.length_drop, List.length_take]; rfl)) ?_; (with_reducible refine (billetref01_Reader_Left.calls gB tG tH tF tJ tK w _ ?side1 ?side2 A18.out).mono ?_); (case side1 => repeat (first | (with_reducible first | exact HIB.out | apply IsS79.alloc | apply IsS79.drewN | apply IsS79.drew | apply IsS79.set_0 | apply IsS79.set_1) | exact HIB.out)); (case side2 => repeat (first | (with_reducible first | exact HB.out | apply below_alloc | apply pw_below_drewN | apply below_drew1 | refine below_set ?_ (IsS79.ge HIB.out)) | exact HB.out)); rintro e w34 ⟨rfl, hi, hb, hk⟩; refine ⟨_, rfl, ?_⟩; have n0_ := Aside0.mk (hb); have n1_ := Aside0.mk (hi); clear HB; clear HIB; have HB := n0_; have HIB := n1_; clear n0_ n1_; (try clear hb); (try clear hb2); (try clear hk); (try clear hi); (try clear hge)) | ((with_reducible refine gate_callee (f := 53) rfl ?_); refine goesL_ (some 46) rfl rfl Tryd.func53 (by kernel_rfl) rfl #[.pointer (some ⟨gB, 0, none⟩)] rfl (by (try simp only [List.map_toArray, List.map_cons, List.map_nil]); first | done | rfl | (simp only [List.length_drop, List.length_take]; rfl)) ?_; (with_reducible refine (billetref01_Reader_Left.calls gB tJ tK tC tQ tR w _ ?side1 ?side2 A21.out).mono ?_); (case side1 => repeat (first | (with_reducible first | exact HIB.out | apply IsS79.alloc | apply IsS79.drewN | apply IsS79.drew | apply IsS79.set_0 | apply IsS79.set_1) | exact HIB.out)); (case side2 => repeat (first | (with_reducible first | exact HB.out | apply below_alloc | apply pw_below_drewN | apply below_drew1 | refine below_set ?_ (IsS79.ge HIB.out)) | exact HB.out)); rintro e w35 ⟨rfl, hi, hb, hk⟩; refine ⟨_, rfl, ?_⟩; have n0_ := Aside0.mk (hb); have n1_ := Aside0.mk (hi); clear HB; clear HIB; have HB := n0_; have HIB := n1_; clear n0_ n1_; (try clear hb); (try clear hb2); (try clear hk); (try clear hi); (try clear hge)) | ((with_reducible refine gate_callee (f := 27) rfl ?_); refine goesL_ (some 55) rfl rfl Tryd.func27 (by kernel_rfl) rfl #[.string (a0.extract ((ji22) : Int).toNat ((wrap64 ((ji22) + tA)) : Int).toNat)] rfl (by (try simp only [List.map_toArray, List.map_cons, List.map_nil]); first | done | (simp only [hji22]; rfl) | rfl | (simp only [List.length_drop, List.length_take]; rfl)) ?_; (with_reducible refine (billetref03_Lay.calls kj10 (a0.extract ((ji22) : Int).toNat ((wrap64 ((ji22) + tA)) : Int).toNat) tE tT _ A26.out).mono ?_); rintro e w36 ⟨rfl, hb⟩; refine ⟨_, rfl, ?_⟩; have n0_ := Aside0.mk (IsS79.below (by repeat (first | (with_reducible first | exact HIB.out | apply IsS79.alloc | apply IsS79.drewN | apply IsS79.drew | apply IsS79.set_0 | apply IsS79.set_1) | exact HIB.out)) hb); have n1_ := Aside0.mk (below_step (by repeat (first | (with_reducible first | exact HB.out | apply below_alloc | apply pw_below_drewN | apply below_drew1 | refine below_set ?_ (IsS79.ge HIB.out)) | exact HB.out)) hb); clear HIB; clear HB; have HIB := n0_; have HB := n1_; clear n0_ n1_; (try clear hb); (try clear hb2); (try clear hk); (try clear hi); (try clear hge)))
              go_ret3
              exact ⟨by first | rfl | (simp [errW_none, errW_some] <;> rfl) | (simp only [← hji22, ← hji27]; first | rfl | (simp [errW_none, errW_some] <;> rfl)) | (simp [*, errW_none, errW_some] <;> rfl), by repeat (first | (with_reducible first | exact HB.out | apply below_alloc | apply pw_below_drewN | apply below_drew1 | refine below_set ?_ (IsS79.ge HIB.out)) | exact HB.out)⟩
             ·rw [if_neg c30] at H
              have c30b0 : ((a0.extract 0 ((ji27) : Int).toNat).toList == tE.toList) = false := beq_eq_false_iff_ne.mpr c30
              have c30b1 : ((a0.extract 0 ((ji27) : Int).toNat).toList != tE.toList) = true := bne_iff_ne.mpr c30
              simp only [Option.some.injEq, Prod.mk.injEq] at H
              obtain ⟨rfl, rfl, rfl⟩ := H
              go_wp2_with (first | ((with_reducible refine gate_callee (f := 53) rfl ?_); refine goesL_ (some 39) rfl rfl Tryd.func53 (by kernel_rfl) rfl #[.pointer (some ⟨gB, 0, none⟩)] rfl (by (try simp only [List.map_toArray, List.map_cons, List.map_nil]); first | done | rfl | (simp only [List.length_drop, List.length_take]; rfl)) ?_; (with_reducible refine (billetref01_Reader_Left.calls gB tG tH tF tJ tK w _ ?side1 ?side2 A18.out).mono ?_); (case side1 => repeat (first | (with_reducible first | exact HIB.out | apply IsS79.alloc | apply IsS79.drewN | apply IsS79.drew | apply IsS79.set_0 | apply IsS79.set_1) | exact HIB.out)); (case side2 => repeat (first | (with_reducible first | exact HB.out | apply below_alloc | apply pw_below_drewN | apply below_drew1 | refine below_set ?_ (IsS79.ge HIB.out)) | exact HB.out)); rintro e w37 ⟨rfl, hi, hb, hk⟩; refine ⟨_, rfl, ?_⟩; have n0_ := Aside0.mk (hb); have n1_ := Aside0.mk (hi); clear HB; clear HIB; have HB := n0_; have HIB := n1_; clear n0_ n1_; (try clear hb); (try clear hb2); (try clear hk); (try clear hi); (try clear hge)) | ((with_reducible refine gate_callee (f := 53) rfl ?_); refine goesL_ (some 46) rfl rfl Tryd.func53 (by kernel_rfl) rfl #[.pointer (some ⟨gB, 0, none⟩)] rfl (by (try simp only [List.map_toArray, List.map_cons, List.map_nil]); first | done | rfl | (simp only [List.length_drop, List.length_take]; rfl)) ?_; (with_reducible refine (billetref01_Reader_Left.calls gB tJ tK tC tQ tR w _ ?side1 ?side2 A21.out).mono ?_); (case side1 => repeat (first | (with_reducible first | exact HIB.out | apply IsS79.alloc | apply IsS79.drewN | apply IsS79.drew | apply IsS79.set_0 | apply IsS79.set_1) | exact HIB.out)); (case side2 => repeat (first | (with_reducible first | exact HB.out | apply below_alloc | apply pw_below_drewN | apply below_drew1 | refine below_set ?_ (IsS79.ge HIB.out)) | exact HB.out)); rintro e w38 ⟨rfl, hi, hb, hk⟩; refine ⟨_, rfl, ?_⟩; have n0_ := Aside0.mk (hb); have n1_ := Aside0.mk (hi); clear HB; clear HIB; have HB := n0_; have HIB := n1_; clear n0_ n1_; (try clear hb); (try clear hb2); (try clear hk); (try clear hi); (try clear hge)) | ((with_reducible refine gate_callee (f := 27) rfl ?_); refine goesL_ (some 55) rfl rfl Tryd.func27 (by kernel_rfl) rfl #[.string (a0.extract ((ji22) : Int).toNat ((wrap64 ((ji22) + tA)) : Int).toNat)] rfl (by (try simp only [List.map_toArray, List.map_cons, List.map_nil]); first | done | (simp only [hji22]; rfl) | rfl | (simp only [List.length_drop, List.length_take]; rfl)) ?_; (with_reducible refine (billetref03_Lay.calls kj10 (a0.extract ((ji22) : Int).toNat ((wrap64 ((ji22) + tA)) : Int).toNat) tE tT _ A26.out).mono ?_); rintro e w39 ⟨rfl, hb⟩; refine ⟨_, rfl, ?_⟩; have n0_ := Aside0.mk (IsS79.below (by repeat (first | (with_reducible first | exact HIB.out | apply IsS79.alloc | apply IsS79.drewN | apply IsS79.drew | apply IsS79.set_0 | apply IsS79.set_1) | exact HIB.out)) hb); have n1_ := Aside0.mk (below_step (by repeat (first | (with_reducible first | exact HB.out | apply below_alloc | apply pw_below_drewN | apply below_drew1 | refine below_set ?_ (IsS79.ge HIB.out)) | exact HB.out)) hb); clear HIB; clear HB; have HIB := n0_; have HB := n1_; clear n0_ n1_; (try clear hb); (try clear hb2); (try clear hk); (try clear hi); (try clear hge)))
              go_ret3
              exact ⟨by first | rfl | (simp [errW_none, errW_some] <;> rfl) | (simp only [← hji22, ← hji27]; first | rfl | (simp [errW_none, errW_some] <;> rfl)) | (simp [*, errW_none, errW_some] <;> rfl), by repeat (first | (with_reducible first | exact HB.out | apply below_alloc | apply pw_below_drewN | apply below_drew1 | refine below_set ?_ (IsS79.ge HIB.out)) | exact HB.out)⟩
            ·rw [if_neg c29] at H
             exact absurd H (by simp)
           ·rw [if_neg c28] at H
            exact absurd H (by simp)
          ·rw [if_neg c25] at H
           exact absurd H (by simp)
         ·rw [if_neg c24] at H
          exact absurd H (by simp)
        ·rw [if_neg c23] at H
         exact absurd H (by simp)

end Go.Proofs.YtdgaancbeakfdaaDoor.Q
