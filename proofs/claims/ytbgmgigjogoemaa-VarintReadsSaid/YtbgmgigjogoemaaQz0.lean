-- Written by a program of this session (mp.py).
import Derived.Test.YtbgmgigjogoemaaQx0
import Derived.Test.YtbgmgigjogoemaaQx18
import Derived.Test.YtbgmgigjogoemaaQx20
import Derived.Test.YtbgmgigjogoemaaQx22
import Derived.Test.YtbgmgigjogoemaaQx23
import Derived.Test.YtbgmgigjogoemaaQx24
import Derived.Test.YtbgmgigjogoemaaQx25
import Derived.Test.YtbgmgigjogoemaaQx26
import Derived.Test.YtbgmgigjogoemaaQx27
import Derived.Test.YtbgmgigjogoemaaQx4
import Derived.Test.YtbgmgigjogoemaaQx5
import Derived.Test.YtbgmgigjogoemaaQx6
import Derived.Test.YtbgmgigjogoemaaQx8
import Derived.Test.YtbgmgigjogoemaaQx9
namespace Go.Proofs.Ytbgmgigjogoemaa.Q
open Go.RowKit Go.Proofs.YtbgmgigjogoemaaW.PrintWords Go.Proofs.YtbgmgigjogoemaaW.PrintLast Go.Proofs.YtbgmgigjogoemaaW.PrintMore
attribute [local go_sem] max2_int min2_int max_two min_two max_three min_three max_four min_four   -- for this text's walks alone
open Go.Proofs.Ytbgmgigjogoemaa.Giv
set_option linter.unusedVariables false
set_option linter.unusedSimpArgs false

/-! ### billetlaw01_VarintReads: function 9 -/
mutual
def billetlaw01_VarintReads.j0 : Nat → List (S39) → Bool → ByteArray → Int → Bool → ByteArray → Bool → Option (Bool)
  | 0, _, _, _, _, _, _, _ => none
  | k + 1, x1, x19, x167000, x167001, x167002, x170000, x170001 => if x19 = true then (some false) else (billetlaw01_VarintReads.l0 k x1 0 x167000 x167001 x167002 x170000 x170001)
def billetlaw01_VarintReads.l0 : Nat → List (S39) → Int → ByteArray → Int → Bool → ByteArray → Bool → Option (Bool)
  | 0, _, _, _, _, _, _, _ => none
  | k + 1, x1, x8, x167000, x167001, x167002, x170000, x170001 => if x8 < (x1.length : Int) then (billetlaw01_VarintReads.j2 k x1 x8 (decide (x8 < 300)) x167000 x167001 x167002 x170000 x170001) else (billetlaw01_VarintReads.j2 k x1 x8 false x167000 x167001 x167002 x170000 x170001)
def billetlaw01_VarintReads.j2 : Nat → List (S39) → Int → Bool → ByteArray → Int → Bool → ByteArray → Bool → Option (Bool)
  | 0, _, _, _, _, _, _, _, _ => none
  | k + 1, x1, x8, x27, x167000, x167001, x167002, x170000, x170001 => if x27 = true then (if 0 ≤ x8 then (if x8 < (x1.length : Int) then (if (Int.tmod ((rd_T39 x1 x8).f0) 2) = 0 then ((varint_Reader_Num.f k x167000 x167001 x167002).bind fun bt171 => ((billetref01_Reader_Num.f k x170000 x170001).bind fun bt175 => (if bt171.1 = bt175.1 then (billetlaw01_VarintReads.j3 k x1 x8 bt171.2.1 bt171.2.2.1 bt171.2.2.2 bt175.2.1 bt175.2.2) else (some false)))) else ((varint_Reader_Text.f k x167000 x167001 x167002 ((rd_T39 x1 x8).f1)).bind fun bt179 => ((billetref01_Reader_Text.f k x170000 x170001 ((rd_T39 x1 x8).f1)).bind fun bt184 => (if bt179.1.toList = bt184.1.toList then (billetlaw01_VarintReads.j3 k x1 x8 bt179.2.1 bt179.2.2.1 bt179.2.2.2 bt184.2.1 bt184.2.2) else (some false))))) else (none)) else (none)) else ((varint_Reader_Ends.f x167000 x167001 x167002).bind fun bt208 => ((billetref01_Reader_Ends.f x170000 x170001).bind fun bt212 => (if (bt208.1 == bt212.1) = true then ((varint_Reader_Left.f bt208.2.1 bt208.2.2.1 bt208.2.2.2).bind fun bt215 => ((billetref01_Reader_Left.f bt212.2.1 bt212.2.2).bind fun bt219 => (some (bt215.1 == bt219.1)))) else (some false))))
def billetlaw01_VarintReads.j3 : Nat → List (S39) → Int → ByteArray → Int → Bool → ByteArray → Bool → Option (Bool)
  | 0, _, _, _, _, _, _, _ => none
  | k + 1, x1, x8, x167000, x167001, x167002, x170000, x170001 => (varint_Reader_Left.f x167000 x167001 x167002).bind fun bt187 => ((billetref01_Reader_Left.f x170000 x170001).bind fun bt191 => (if bt187.1 = bt191.1 then ((varint_Reader_Bad.f bt187.2.1 bt187.2.2.1 bt187.2.2.2).bind fun bt194 => ((billetref01_Reader_Bad.f bt191.2.1 bt191.2.2).bind fun bt198 => (if (bt194.1 != bt198.1) = true then (some false) else ((varint_Reader_Ends.f bt194.2.1 bt194.2.2.1 bt194.2.2.2).bind fun bt201 => ((billetref01_Reader_Ends.f bt198.2.1 bt198.2.2).bind fun bt205 => (if (bt201.1 != bt205.1) = true then (some false) else (billetlaw01_VarintReads.l0 k x1 (wrap64 (x8 + 1)) bt201.2.1 bt201.2.2.1 bt201.2.2.2 bt205.2.1 bt205.2.2))))))) else (some false)))
end
def billetlaw01_VarintReads.f (k : Nat) (a0 : ByteArray) (l1 : List (S39)) : Option (Bool) := (billetlaw01_awake.f k).bind fun t162 => ((varint_New.f a0).bind fun bt163 => ((billetref01_New.f a0).bind fun bt167 => (if t162 = true then (billetlaw01_VarintReads.j0 k l1 false bt163.1 bt163.2.1 bt163.2.2 bt167.1 bt167.2) else (billetlaw01_VarintReads.j0 k l1 true bt163.1 bt163.2.1 bt163.2.2 bt167.1 bt167.2))))
theorem billetlaw01_VarintReads.mono_l : ∀ k, (∀ y0 y1 y2 y3 y4 y5 y6, LeO (billetlaw01_VarintReads.j0 k y0 y1 y2 y3 y4 y5 y6) (billetlaw01_VarintReads.j0 (k + 1) y0 y1 y2 y3 y4 y5 y6)) ∧ (∀ y0 y1 y2 y3 y4 y5 y6, LeO (billetlaw01_VarintReads.l0 k y0 y1 y2 y3 y4 y5 y6) (billetlaw01_VarintReads.l0 (k + 1) y0 y1 y2 y3 y4 y5 y6)) ∧ (∀ y0 y1 y2 y3 y4 y5 y6 y7, LeO (billetlaw01_VarintReads.j2 k y0 y1 y2 y3 y4 y5 y6 y7) (billetlaw01_VarintReads.j2 (k + 1) y0 y1 y2 y3 y4 y5 y6 y7)) ∧ (∀ y0 y1 y2 y3 y4 y5 y6, LeO (billetlaw01_VarintReads.j3 k y0 y1 y2 y3 y4 y5 y6) (billetlaw01_VarintReads.j3 (k + 1) y0 y1 y2 y3 y4 y5 y6))
  | 0 => ⟨fun _ _ _ _ _ _ _ r h => by simp [billetlaw01_VarintReads.j0] at h, fun _ _ _ _ _ _ _ r h => by simp [billetlaw01_VarintReads.l0] at h, fun _ _ _ _ _ _ _ _ r h => by simp [billetlaw01_VarintReads.j2] at h, fun _ _ _ _ _ _ _ r h => by simp [billetlaw01_VarintReads.j3] at h⟩
  | k + 1 => by
    obtain ⟨ih0, ih1, ih2, ih3⟩ := billetlaw01_VarintReads.mono_l k
    refine ⟨?_, ?_, ?_, ?_⟩
    · intro y0 y1 y2 y3 y4 y5 y6
      unfold billetlaw01_VarintReads.j0
      repeat' first
      | (with_reducible exact ih0 _ _ _ _ _ _ _)
      | (with_reducible exact ih1 _ _ _ _ _ _ _)
      | (with_reducible exact ih2 _ _ _ _ _ _ _ _)
      | (with_reducible exact ih3 _ _ _ _ _ _ _)
      | (with_reducible exact billetlaw01_awake.mono _)
      | (with_reducible exact billetref01_Reader_Num.mono _ _ _)
      | (with_reducible exact billetref01_Reader_Text.mono _ _ _ _)
      | (with_reducible exact varint_Reader_Num.mono _ _ _ _)
      | (with_reducible exact varint_Reader_Text.mono _ _ _ _ _)
      | (with_reducible exact LeO.refl _)
      | (with_reducible exact LeO.none _)
      | (with_reducible refine LeO.ite ?_ ?_)
      | (with_reducible refine LeO.bind ?_ (fun _ => ?_))
      | exact ih0 _ _ _ _ _ _ _
      | exact ih1 _ _ _ _ _ _ _
      | exact ih2 _ _ _ _ _ _ _ _
      | exact ih3 _ _ _ _ _ _ _
      | exact billetlaw01_awake.mono _
      | exact billetref01_Reader_Num.mono _ _ _
      | exact billetref01_Reader_Text.mono _ _ _ _
      | exact varint_Reader_Num.mono _ _ _ _
      | exact varint_Reader_Text.mono _ _ _ _ _
      | exact LeO.none _
      | refine LeO.ite ?_ ?_
      | refine LeO.bind ?_ (fun _ => ?_)
    · intro y0 y1 y2 y3 y4 y5 y6
      unfold billetlaw01_VarintReads.l0
      repeat' first
      | (with_reducible exact ih0 _ _ _ _ _ _ _)
      | (with_reducible exact ih1 _ _ _ _ _ _ _)
      | (with_reducible exact ih2 _ _ _ _ _ _ _ _)
      | (with_reducible exact ih3 _ _ _ _ _ _ _)
      | (with_reducible exact billetlaw01_awake.mono _)
      | (with_reducible exact billetref01_Reader_Num.mono _ _ _)
      | (with_reducible exact billetref01_Reader_Text.mono _ _ _ _)
      | (with_reducible exact varint_Reader_Num.mono _ _ _ _)
      | (with_reducible exact varint_Reader_Text.mono _ _ _ _ _)
      | (with_reducible exact LeO.refl _)
      | (with_reducible exact LeO.none _)
      | (with_reducible refine LeO.ite ?_ ?_)
      | (with_reducible refine LeO.bind ?_ (fun _ => ?_))
      | exact ih0 _ _ _ _ _ _ _
      | exact ih1 _ _ _ _ _ _ _
      | exact ih2 _ _ _ _ _ _ _ _
      | exact ih3 _ _ _ _ _ _ _
      | exact billetlaw01_awake.mono _
      | exact billetref01_Reader_Num.mono _ _ _
      | exact billetref01_Reader_Text.mono _ _ _ _
      | exact varint_Reader_Num.mono _ _ _ _
      | exact varint_Reader_Text.mono _ _ _ _ _
      | exact LeO.none _
      | refine LeO.ite ?_ ?_
      | refine LeO.bind ?_ (fun _ => ?_)
    · intro y0 y1 y2 y3 y4 y5 y6 y7
      unfold billetlaw01_VarintReads.j2
      repeat' first
      | (with_reducible exact ih0 _ _ _ _ _ _ _)
      | (with_reducible exact ih1 _ _ _ _ _ _ _)
      | (with_reducible exact ih2 _ _ _ _ _ _ _ _)
      | (with_reducible exact ih3 _ _ _ _ _ _ _)
      | (with_reducible exact billetlaw01_awake.mono _)
      | (with_reducible exact billetref01_Reader_Num.mono _ _ _)
      | (with_reducible exact billetref01_Reader_Text.mono _ _ _ _)
      | (with_reducible exact varint_Reader_Num.mono _ _ _ _)
      | (with_reducible exact varint_Reader_Text.mono _ _ _ _ _)
      | (with_reducible exact LeO.refl _)
      | (with_reducible exact LeO.none _)
      | (with_reducible refine LeO.ite ?_ ?_)
      | (with_reducible refine LeO.bind ?_ (fun _ => ?_))
      | exact ih0 _ _ _ _ _ _ _
      | exact ih1 _ _ _ _ _ _ _
      | exact ih2 _ _ _ _ _ _ _ _
      | exact ih3 _ _ _ _ _ _ _
      | exact billetlaw01_awake.mono _
      | exact billetref01_Reader_Num.mono _ _ _
      | exact billetref01_Reader_Text.mono _ _ _ _
      | exact varint_Reader_Num.mono _ _ _ _
      | exact varint_Reader_Text.mono _ _ _ _ _
      | exact LeO.none _
      | refine LeO.ite ?_ ?_
      | refine LeO.bind ?_ (fun _ => ?_)
    · intro y0 y1 y2 y3 y4 y5 y6
      unfold billetlaw01_VarintReads.j3
      repeat' first
      | (with_reducible exact ih0 _ _ _ _ _ _ _)
      | (with_reducible exact ih1 _ _ _ _ _ _ _)
      | (with_reducible exact ih2 _ _ _ _ _ _ _ _)
      | (with_reducible exact ih3 _ _ _ _ _ _ _)
      | (with_reducible exact billetlaw01_awake.mono _)
      | (with_reducible exact billetref01_Reader_Num.mono _ _ _)
      | (with_reducible exact billetref01_Reader_Text.mono _ _ _ _)
      | (with_reducible exact varint_Reader_Num.mono _ _ _ _)
      | (with_reducible exact varint_Reader_Text.mono _ _ _ _ _)
      | (with_reducible exact LeO.refl _)
      | (with_reducible exact LeO.none _)
      | (with_reducible refine LeO.ite ?_ ?_)
      | (with_reducible refine LeO.bind ?_ (fun _ => ?_))
      | exact ih0 _ _ _ _ _ _ _
      | exact ih1 _ _ _ _ _ _ _
      | exact ih2 _ _ _ _ _ _ _ _
      | exact ih3 _ _ _ _ _ _ _
      | exact billetlaw01_awake.mono _
      | exact billetref01_Reader_Num.mono _ _ _
      | exact billetref01_Reader_Text.mono _ _ _ _
      | exact varint_Reader_Num.mono _ _ _ _
      | exact varint_Reader_Text.mono _ _ _ _ _
      | exact LeO.none _
      | refine LeO.ite ?_ ?_
      | refine LeO.bind ?_ (fun _ => ?_)
theorem billetlaw01_VarintReads.mono : ∀ a0 a1 k, LeO (billetlaw01_VarintReads.f k a0 a1) (billetlaw01_VarintReads.f (k + 1) a0 a1) := by
  intro a0 a1 k
  obtain ⟨ih0, ih1, ih2, ih3⟩ := billetlaw01_VarintReads.mono_l k
  unfold billetlaw01_VarintReads.f
  repeat' first
      | (with_reducible exact ih0 _ _ _ _ _ _ _)
      | (with_reducible exact ih1 _ _ _ _ _ _ _)
      | (with_reducible exact ih2 _ _ _ _ _ _ _ _)
      | (with_reducible exact ih3 _ _ _ _ _ _ _)
      | (with_reducible exact billetlaw01_awake.mono _)
      | (with_reducible exact billetref01_Reader_Num.mono _ _ _)
      | (with_reducible exact billetref01_Reader_Text.mono _ _ _ _)
      | (with_reducible exact varint_Reader_Num.mono _ _ _ _)
      | (with_reducible exact varint_Reader_Text.mono _ _ _ _ _)
      | (with_reducible exact LeO.refl _)
      | (with_reducible exact LeO.none _)
      | (with_reducible refine LeO.ite ?_ ?_)
      | (with_reducible refine LeO.bind ?_ (fun _ => ?_))
      | exact ih0 _ _ _ _ _ _ _
      | exact ih1 _ _ _ _ _ _ _
      | exact ih2 _ _ _ _ _ _ _ _
      | exact ih3 _ _ _ _ _ _ _
      | exact billetlaw01_awake.mono _
      | exact billetref01_Reader_Num.mono _ _ _
      | exact billetref01_Reader_Text.mono _ _ _ _
      | exact varint_Reader_Num.mono _ _ _ _
      | exact varint_Reader_Text.mono _ _ _ _ _
      | exact LeO.none _
      | refine LeO.ite ?_ ?_
      | refine LeO.bind ?_ (fun _ => ?_)
def billetlaw01_VarintReads.T12 : Bool × List (List Nat × List Nat) := (true, [([], []), ([], []), ([], []), ([1, 2], [1, 2]), ([3], [3]), ([4], [4]), ([0, 5], [0, 5]), ([], []), ([], []), ([], []), ([8, 9], [8, 9]), ([10], [10]), ([11], [11]), ([7, 12, 6], [7, 12]), ([6, 13], [6, 13])])
def billetlaw01_VarintReads.B12 : List Nat := [0, 0, 0, 6, 14, 30, 63, 0, 0, 0, 768, 1792, 3840, 8191, 16383]
theorem billetlaw01_VarintReads.tab12 : rtab .any (opsOf Try.f9 12) = billetlaw01_VarintReads.T12 := by kernel_rfl
theorem billetlaw01_VarintReads.bits12 : waitsOk billetlaw01_VarintReads.T12.2 billetlaw01_VarintReads.B12 = true := by kernel_rfl
set_option maxHeartbeats 8000000 in
set_option maxRecDepth 100000 in
theorem billetlaw01_VarintReads.calls (k : Nat) (a0 : ByteArray) (A1 : Option Addr) (c1 : Nat) (l1 : List (S39)) (r : Bool) (w : World) (hr1 : Kd.C k39 w A1 l1.length l1) (hc1 : l1.length ≤ c1) (h : billetlaw01_VarintReads.f k a0 l1 = some r) :
    Calls Try.prog 9 #[.string a0, .slice A1 l1.length c1] w fun e w' => e = .returned (.bool r) ∧ Below w.heap.size w w' := by
  have HR1 := Aside0.mk hr1
  have HC1 := Aside0.mk hc1
  clear hr1 hc1
  have HB := Aside0.mk (Below.refl w.heap.size w)
  have H : ((billetlaw01_awake.f k).bind fun t162 => ((varint_New.f a0).bind fun bt163 => ((billetref01_New.f a0).bind fun bt167 => (if t162 = true then (billetlaw01_VarintReads.j0 k l1 false bt163.1 bt163.2.1 bt163.2.2 bt167.1 bt167.2) else (billetlaw01_VarintReads.j0 k l1 true bt163.1 bt163.2.1 bt163.2.2 bt167.1 bt167.2))))) = some r := h
  clear h
  replace H := Option.bind_eq_some_iff.mp H
  obtain ⟨t162, A30, H⟩ := H
  replace H : ((varint_New.f a0).bind fun bt163 => ((billetref01_New.f a0).bind fun bt167 => (if t162 = true then (billetlaw01_VarintReads.j0 k l1 false bt163.1 bt163.2.1 bt163.2.2 bt167.1 bt167.2) else (billetlaw01_VarintReads.j0 k l1 true bt163.1 bt163.2.1 bt163.2.2 bt167.1 bt167.2)))) = some r := H
  have A3 := Aside0.mk A30
  clear A30
  replace H := Option.bind_eq_some_iff.mp H
  obtain ⟨⟨t163, t164, t165⟩, A40, H⟩ := H
  replace H : ((billetref01_New.f a0).bind fun bt167 => (if t162 = true then (billetlaw01_VarintReads.j0 k l1 false t163 t164 t165 bt167.1 bt167.2) else (billetlaw01_VarintReads.j0 k l1 true t163 t164 t165 bt167.1 bt167.2))) = some r := H
  have A4 := Aside0.mk A40
  clear A40
  replace H := Option.bind_eq_some_iff.mp H
  obtain ⟨⟨t167, t168⟩, A50, H⟩ := H
  replace H : (if t162 = true then (billetlaw01_VarintReads.j0 k l1 false t163 t164 t165 t167 t168) else (billetlaw01_VarintReads.j0 k l1 true t163 t164 t165 t167 t168)) = some r := H
  have A5 := Aside0.mk A50
  clear A50
  have HC6 := Aside0.mk H
  clear H
  go_enter Try.func9, Try.ntmps9
  go_upto_region 4 with (first | ((with_reducible refine gate_callee (f := 13) rfl ?_); refine goesL_ (some 9) rfl rfl Try.func13 (by kernel_rfl) rfl #[] rfl (by (try simp only [List.map_toArray, List.map_cons, List.map_nil]); first | done | rfl | (simp only [List.length_drop, List.length_take]; rfl)) ?_; (with_reducible refine (billetlaw01_awake.calls k  t162 _ A3.out).mono ?_); rintro e w7 ⟨rfl, hb⟩; refine ⟨_, rfl, ?_⟩; have n0_ := Aside0.mk (below_step (by repeat (first | (with_reducible first | exact HB.out | apply below_alloc | apply pw_below_drewN | apply below_drew1) | exact HB.out)) hb); clear HB; have HB := n0_; clear n0_; (try clear hb); (try clear hb2); (try clear hk); (try clear hi)) | ((with_reducible refine gate_callee (f := 19) rfl ?_); refine goesL_ (some 11) rfl rfl Try.func19 (by kernel_rfl) rfl #[.string a0] rfl (by (try simp only [List.map_toArray, List.map_cons, List.map_nil]); first | done | rfl | (simp only [List.length_drop, List.length_take]; rfl)) ?_; (with_reducible refine (varint_New.calls a0 t163 t164 t165 w _ ?side1 A4.out).mono ?_); (case side1 => repeat (first | (with_reducible first | exact HB.out | apply below_alloc | apply pw_below_drewN | apply below_drew1) | exact HB.out)); rintro e w8 ⟨g166, rfl, hi, hb, hb2⟩; refine ⟨_, rfl, ?_⟩; have n0_ := Aside0.mk (hb); have n1_ := Aside0.mk (hi); clear HB; have HB := n0_; have HI166 := n1_; clear n0_ n1_; (try clear hb); (try clear hb2); (try clear hk); (try clear hi)) | ((with_reducible refine gate_callee (f := 23) rfl ?_); refine goesL_ (some 13) rfl rfl Try.func23 (by kernel_rfl) rfl #[.string a0] rfl (by (try simp only [List.map_toArray, List.map_cons, List.map_nil]); first | done | rfl | (simp only [List.length_drop, List.length_take]; rfl)) ?_; (with_reducible refine (billetref01_New.calls a0 t167 t168 w _ ?side1 A5.out).mono ?_); (case side1 => repeat (first | (with_reducible first | exact HB.out | apply below_alloc | apply pw_below_drewN | apply below_drew1 | refine below_set ?_ (IsS51.ge HI166.out)) | exact HB.out)); rintro e w9 ⟨g169, rfl, hi, hb, hb2⟩; refine ⟨_, rfl, ?_⟩; have n0_ := Aside0.mk (IsS51.below (by repeat (first | (with_reducible first | exact HI166.out | apply IsS51.alloc | apply IsS51.drewN | apply IsS51.drew | apply IsS51.set_0 | apply IsS51.set_1 | apply IsS51.set_2) | exact HI166.out)) hb2); have n1_ := Aside0.mk (hb); have n2_ := Aside0.mk (hi); clear HI166; clear HB; have HI166 := n0_; have HB := n1_; have HI169 := n2_; clear n0_ n1_ n2_; (try clear hb); (try clear hb2); (try clear hk); (try clear hi)))
  (try simp only [Act.put, List.setIfInBounds_toArray, List.set_cons_zero, List.set_cons_succ])
  go_cut [19] (fun v19 wc => ∃ (kq : Nat) (x19_5 : Bool), v19 = .bool x19_5 ∧ Aside0 (billetlaw01_VarintReads.j0 kq l1 x19_5 t163 t164 t165 t167 t168 = some r) ∧ Aside0 (kq ≤ k) ∧ Aside0 (IsS51 w wc g166 t163 t164 t165) ∧ Aside0 (IsS53 w wc g169 t167 t168) ∧ Aside0 (Below w.heap.size w wc))
  case first =>
    have H := HC6.out
    clear HC6
    by_cases c10 : t162 = true
    · subst c10
      have H1 : (billetlaw01_VarintReads.j0 k l1 false t163 t164 t165 t167 t168) = some r := by rw [if_pos rfl] at H; exact H
      clear H
      have H := H1
      clear H1
      have H' := Aside0.mk H
      clear H
      go_wp2
      go_meet
      case rel => exact ⟨_, (false), (by first | rfl | (simp; done) | (simp [*]; done)), H', ⟨by first | omega | exact Nat.le_refl _⟩, ⟨by repeat (first | (with_reducible first | exact HI166.out | apply IsS51.alloc | apply IsS51.drewN | apply IsS51.drew | apply IsS51.set_0 | apply IsS51.set_1 | apply IsS51.set_2) | exact HI166.out)⟩, ⟨by repeat (first | (with_reducible first | exact HI169.out | apply IsS53.alloc | apply IsS53.drewN | apply IsS53.drew | apply IsS53.set_0 | apply IsS53.set_1) | exact HI169.out)⟩, ⟨by repeat (first | (with_reducible first | exact HB.out | apply below_alloc | apply pw_below_drewN | apply below_drew1 | refine below_set ?_ (IsS51.ge HI166.out) | refine below_set ?_ (IsS53.ge HI169.out)) | exact HB.out)⟩⟩
    · replace c10 := Bool.eq_false_iff.mpr c10
      subst c10
      have H1 : (billetlaw01_VarintReads.j0 k l1 true t163 t164 t165 t167 t168) = some r := by rw [if_neg (show ¬ (false = true) by decide)] at H; exact H
      clear H
      have H := H1
      clear H1
      have H' := Aside0.mk H
      clear H
      go_wp2
      go_meet
      case rel => exact ⟨_, (true), (by first | rfl | (simp; done) | (simp [*]; done)), H', ⟨by first | omega | exact Nat.le_refl _⟩, ⟨by repeat (first | (with_reducible first | exact HI166.out | apply IsS51.alloc | apply IsS51.drewN | apply IsS51.drew | apply IsS51.set_0 | apply IsS51.set_1 | apply IsS51.set_2) | exact HI166.out)⟩, ⟨by repeat (first | (with_reducible first | exact HI169.out | apply IsS53.alloc | apply IsS53.drewN | apply IsS53.drew | apply IsS53.set_0 | apply IsS53.set_1) | exact HI169.out)⟩, ⟨by repeat (first | (with_reducible first | exact HB.out | apply below_alloc | apply pw_below_drewN | apply below_drew1 | refine below_set ?_ (IsS51.ge HI166.out) | refine below_set ?_ (IsS53.ge HI169.out)) | exact HB.out)⟩⟩
  case rest =>
    clear HC6
    try clear c1
    try clear c2
    try clear p2
    try clear c9
    try clear c10
    obtain ⟨kq, x19_5, rfl, HA, HJ5, HI166, HI169, HB⟩ := hcut
    cases kq with
    | zero => exact absurd HA.out (by simp [billetlaw01_VarintReads.j0])
    | succ kj5 =>
      have H := HA.out
      clear HA
      simp only [billetlaw01_VarintReads.j0] at H
      by_cases c11 : x19_5 = true
      · subst c11
        have H1 : (some false) = some r := by rw [if_pos rfl] at H; exact H
        clear H
        have H := H1
        clear H1
        obtain rfl := Option.some.inj H
        go_wp2
        go_ret
        exact ⟨by first | rfl | (simp [errW_none, errW_some] <;> rfl) | (simp [*, errW_none, errW_some] <;> rfl), by repeat (first | (with_reducible first | exact HB.out | apply below_alloc | apply pw_below_drewN | apply below_drew1 | refine below_set ?_ (IsS51.ge HI166.out) | refine below_set ?_ (IsS53.ge HI169.out)) | exact HB.out)⟩
      · replace c11 := Bool.eq_false_iff.mpr c11
        subst c11
        have H1 : (billetlaw01_VarintReads.l0 kj5 l1 0 t163 t164 t165 t167 t168) = some r := by rw [if_neg (show ¬ (false = true) by decide)] at H; exact H
        clear H
        have H := H1
        clear H1
        have H' := Aside0.mk H
        clear H
        go_wp2
        go_loopg [8] kj5 (fun kq v8 w' => ∃ (x8_2 : Int) (x167000_2 : ByteArray) (x167001_2 : Int) (x167002_2 : Bool) (x170000_2 : ByteArray) (x170001_2 : Bool), v8 = .int .i64 x8_2 ∧ Aside0 (billetlaw01_VarintReads.l0 kq l1 x8_2 x167000_2 x167001_2 x167002_2 x170000_2 x170001_2 = some r) ∧ Aside0 (kq ≤ kj5) ∧ Aside0 (IsS51 w w' g166 x167000_2 x167001_2 x167002_2) ∧ Aside0 (IsS53 w w' g169 x170000_2 x170001_2) ∧ Aside0 (Below w.heap.size w w'))
        case atStart => exact ⟨(0), (t163), (t164), (t165), (t167), (t168), (by first | rfl | (simp; done) | (simp [*]; done)), H', ⟨Nat.le_refl _⟩, ⟨by repeat (first | (with_reducible first | exact HI166.out | apply IsS51.alloc | apply IsS51.drewN | apply IsS51.drew | apply IsS51.set_0 | apply IsS51.set_1 | apply IsS51.set_2) | exact HI166.out)⟩, ⟨by repeat (first | (with_reducible first | exact HI169.out | apply IsS53.alloc | apply IsS53.drewN | apply IsS53.drew | apply IsS53.set_0 | apply IsS53.set_1) | exact HI169.out)⟩, ⟨by repeat (first | (with_reducible first | exact HB.out | apply below_alloc | apply pw_below_drewN | apply below_drew1 | refine below_set ?_ (IsS51.ge HI166.out) | refine below_set ?_ (IsS53.ge HI169.out)) | exact HB.out)⟩⟩
        case round =>
          clear H'
          try clear c1
          try clear c2
          try clear p2
          try clear c9
          try clear c10
          try clear c11
          try clear p2
          obtain ⟨x8_2, x167000_2, x167001_2, x167002_2, x170000_2, x170001_2, rfl, HA, HK2, HI166, HI169, HB⟩ := hrel
          cases gk with
          | zero => exact absurd HA.out (by simp [billetlaw01_VarintReads.l0])
          | succ k2 =>
            have H := HA.out
            clear HA
            simp only [billetlaw01_VarintReads.l0] at H
            have HC12 := Aside0.mk H
            clear H
            go_upto_region 7 with (fail)
            go_cut [27] (fun v27 wc => ∃ (kq : Nat) (x27_11 : Bool), v27 = .bool x27_11 ∧ Aside0 (billetlaw01_VarintReads.j2 kq l1 x8_2 x27_11 x167000_2 x167001_2 x167002_2 x170000_2 x170001_2 = some r) ∧ Aside0 (kq ≤ k2) ∧ Aside0 (IsS51 w wc g166 x167000_2 x167001_2 x167002_2) ∧ Aside0 (IsS53 w wc g169 x170000_2 x170001_2) ∧ Aside0 (Below w.heap.size w wc))
            case first =>
              have H := HC12.out
              clear HC12
              by_cases c13 : x8_2 < (l1.length : Int)
              · rw [if_pos c13] at H
                have c13b0 : decide (x8_2 < (l1.length : Int)) = true := decide_eq_true c13
                clear c13
                (first | rw [c13b0] | (simp only [i64_w, i32_w]; rw [c13b0]) | skip)
                have H' := Aside0.mk H
                clear H
                go_wp2
                go_meet
                case rel => exact ⟨_, (decide (x8_2 < 300)), (by first | rfl | (simp; done) | (simp [*]; done)), H', ⟨by have := HJ5.out; have := HK2.out; first | omega | exact Nat.le_refl _⟩, ⟨by repeat (first | (with_reducible first | exact HI166.out | apply IsS51.alloc | apply IsS51.drewN | apply IsS51.drew | apply IsS51.set_0 | apply IsS51.set_1 | apply IsS51.set_2) | exact HI166.out)⟩, ⟨by repeat (first | (with_reducible first | exact HI169.out | apply IsS53.alloc | apply IsS53.drewN | apply IsS53.drew | apply IsS53.set_0 | apply IsS53.set_1) | exact HI169.out)⟩, ⟨by repeat (first | (with_reducible first | exact HB.out | apply below_alloc | apply pw_below_drewN | apply below_drew1 | refine below_set ?_ (IsS51.ge HI166.out) | refine below_set ?_ (IsS53.ge HI169.out)) | exact HB.out)⟩⟩
              · rw [if_neg c13] at H
                have c13b0 : decide (x8_2 < (l1.length : Int)) = false := decide_eq_false c13
                clear c13
                (first | rw [c13b0] | (simp only [i64_w, i32_w]; rw [c13b0]) | skip)
                have H' := Aside0.mk H
                clear H
                go_wp2
                go_meet
                case rel => exact ⟨_, (false), (by first | rfl | (simp; done) | (simp [*]; done)), H', ⟨by have := HJ5.out; have := HK2.out; first | omega | exact Nat.le_refl _⟩, ⟨by repeat (first | (with_reducible first | exact HI166.out | apply IsS51.alloc | apply IsS51.drewN | apply IsS51.drew | apply IsS51.set_0 | apply IsS51.set_1 | apply IsS51.set_2) | exact HI166.out)⟩, ⟨by repeat (first | (with_reducible first | exact HI169.out | apply IsS53.alloc | apply IsS53.drewN | apply IsS53.drew | apply IsS53.set_0 | apply IsS53.set_1) | exact HI169.out)⟩, ⟨by repeat (first | (with_reducible first | exact HB.out | apply below_alloc | apply pw_below_drewN | apply below_drew1 | refine below_set ?_ (IsS51.ge HI166.out) | refine below_set ?_ (IsS53.ge HI169.out)) | exact HB.out)⟩⟩
            case rest =>
              clear HC12
              try clear c1
              try clear c2
              try clear p2
              try clear c9
              try clear c10
              try clear c11
              try clear c13
              try clear c13b0
              try clear p2
              obtain ⟨kq, x27_11, rfl, HA, HJ11, HI166, HI169, HB⟩ := hcut
              cases kq with
              | zero => exact absurd HA.out (by simp [billetlaw01_VarintReads.j2])
              | succ kj11 =>
                have H := HA.out
                clear HA
                simp only [billetlaw01_VarintReads.j2] at H
                by_cases c14 : x27_11 = true
                · subst c14
                  have H1 : (if 0 ≤ x8_2 then (if x8_2 < (l1.length : Int) then (if (Int.tmod ((rd_T39 l1 x8_2).f0) 2) = 0 then ((varint_Reader_Num.f kj11 x167000_2 x167001_2 x167002_2).bind fun bt171 => ((billetref01_Reader_Num.f kj11 x170000_2 x170001_2).bind fun bt175 => (if bt171.1 = bt175.1 then (billetlaw01_VarintReads.j3 kj11 l1 x8_2 bt171.2.1 bt171.2.2.1 bt171.2.2.2 bt175.2.1 bt175.2.2) else (some false)))) else ((varint_Reader_Text.f kj11 x167000_2 x167001_2 x167002_2 ((rd_T39 l1 x8_2).f1)).bind fun bt179 => ((billetref01_Reader_Text.f kj11 x170000_2 x170001_2 ((rd_T39 l1 x8_2).f1)).bind fun bt184 => (if bt179.1.toList = bt184.1.toList then (billetlaw01_VarintReads.j3 kj11 l1 x8_2 bt179.2.1 bt179.2.2.1 bt179.2.2.2 bt184.2.1 bt184.2.2) else (some false))))) else (none)) else (none)) = some r := by rw [if_pos rfl] at H; exact H
                  clear H
                  have H := H1
                  clear H1
                  by_cases c15 : 0 ≤ x8_2
                  · rw [if_pos c15] at H
                    have c15b0 : decide (0 ≤ x8_2) = true := decide_eq_true c15
                    clear c15
                    by_cases c16 : x8_2 < (l1.length : Int)
                    · rw [if_pos c16] at H
                      have c16b0 : decide (x8_2 < (l1.length : Int)) = true := decide_eq_true c16
                      clear c16
                      have HC17 := Aside0.mk H
                      clear H
                      have p170 : 0 ≤ (x8_2 : Int) := of_decide_eq_true (by first | (with_reducible assumption) | assumption)
                      have q170 : x8_2 < (l1.length : Int) := of_decide_eq_true (by first | (with_reducible assumption) | assumption)
                      obtain ⟨ad170, e170, hx170_0, hx170_1⟩ := at_T39 HR1.out x8_2 p170 q170
                      cases e170
                      replace hx170_0 := (HB.out.cell (World.block_lt_of_cell? w _ hx170_0)).trans hx170_0
                      replace hx170_1 := (HB.out.cell (World.block_lt_of_cell? w _ hx170_1)).trans hx170_1
                      replace p170 := eq_true p170
                      (try replace p170z := eq_true p170z)
                      replace q170 := eq_true q170
                      (try replace q170z := eq_true q170z)
                      go_upto_if 36 with (fail)
                      go_cut [] (fun wc => ∃ (kq : Nat) (x167000_16 : ByteArray) (x167001_16 : Int) (x167002_16 : Bool) (x170000_16 : ByteArray) (x170001_16 : Bool), Aside0 (billetlaw01_VarintReads.j3 kq l1 x8_2 x167000_16 x167001_16 x167002_16 x170000_16 x170001_16 = some r) ∧ Aside0 (kq ≤ kj11) ∧ Aside0 (IsS51 w wc g166 x167000_16 x167001_16 x167002_16) ∧ Aside0 (IsS53 w wc g169 x170000_16 x170001_16) ∧ Aside0 (Below w.heap.size w wc))
                      case first =>
                        have H := HC17.out
                        clear HC17
                        by_cases c18 : (Int.tmod ((rd_T39 l1 x8_2).f0) 2) = 0
                        · rw [if_pos c18] at H
                          have c18b0 : ((Int.tmod ((rd_T39 l1 x8_2).f0) 2) == 0) = true := beq_iff_eq.mpr c18
                          have c18b1 : ((Int.tmod ((rd_T39 l1 x8_2).f0) 2) != 0) = false := bne_eq_false_iff_eq.mpr c18
                          clear c18
                          (first | rw [c18b0] | (simp only [i64_w, i32_w]; rw [c18b0]) | skip)
                          replace H := Option.bind_eq_some_iff.mp H
                          obtain ⟨⟨t171, t172, t173, t174⟩, A190, H⟩ := H
                          replace H : ((billetref01_Reader_Num.f kj11 x170000_2 x170001_2).bind fun bt175 => (if t171 = bt175.1 then (billetlaw01_VarintReads.j3 kj11 l1 x8_2 t172 t173 t174 bt175.2.1 bt175.2.2) else (some false))) = some r := H
                          have A19 := Aside0.mk A190
                          clear A190
                          replace H := Option.bind_eq_some_iff.mp H
                          obtain ⟨⟨t175, t176, t177⟩, A200, H⟩ := H
                          replace H : (if t171 = t175 then (billetlaw01_VarintReads.j3 kj11 l1 x8_2 t172 t173 t174 t176 t177) else (some false)) = some r := H
                          have A20 := Aside0.mk A200
                          clear A200
                          by_cases c21 : t171 = t175
                          · rw [if_pos c21] at H
                            have c21b0 : (t171 == t175) = true := beq_iff_eq.mpr c21
                            have c21b1 : (t171 != t175) = false := bne_eq_false_iff_eq.mpr c21
                            clear c21
                            have H' := Aside0.mk H
                            clear H
                            go_wp2_with (first | ((with_reducible refine gate_callee (f := 24) rfl ?_); refine goesL_ (some 38) rfl rfl Try.func24 (by kernel_rfl) rfl #[.pointer (some ⟨g166, 0, none⟩)] rfl (by (try simp only [List.map_toArray, List.map_cons, List.map_nil]); first | done | rfl | (simp only [List.length_drop, List.length_take]; rfl)) ?_; (with_reducible refine (varint_Reader_Num.calls kj11 g166 x167000_2 x167001_2 x167002_2 t171 t172 t173 t174 w _ ?side1 ?side2 A19.out).mono ?_); (case side1 => repeat (first | (with_reducible first | exact HI166.out | apply IsS51.alloc | apply IsS51.drewN | apply IsS51.drew | apply IsS51.set_0 | apply IsS51.set_1 | apply IsS51.set_2) | exact HI166.out)); (case side2 => repeat (first | (with_reducible first | exact HB.out | apply below_alloc | apply pw_below_drewN | apply below_drew1 | refine below_set ?_ (IsS51.ge HI166.out) | refine below_set ?_ (IsS53.ge HI169.out)) | exact HB.out)); rintro e w22 ⟨rfl, hi, hb, hk⟩; refine ⟨_, rfl, ?_⟩; have n0_ := Aside0.mk (IsS53.kept (show IsS53 w _ g169 x170000_2 x170001_2 from by repeat (first | (with_reducible first | exact HI169.out | apply IsS53.alloc | apply IsS53.drewN | apply IsS53.drew | apply IsS53.set_0 | apply IsS53.set_1) | exact HI169.out)) (⟨hk.1, fun i_ hi_ hs_ => hk.2 i_ hi_ hs_ (by simp)⟩ : Kept _ _ (fun k_ => k_ = g166)) (fun e_ => absurd e_ (IsS53.ne_blk (show IsS53 w _ g169 x170000_2 x170001_2 from by repeat (first | (with_reducible first | exact HI169.out | apply IsS53.alloc | apply IsS53.drewN | apply IsS53.drew | apply IsS53.set_0 | apply IsS53.set_1) | exact HI169.out)) (show IsS51 w _ g166 x167000_2 x167001_2 x167002_2 from by repeat (first | (with_reducible first | exact HI166.out | apply IsS51.alloc | apply IsS51.drewN | apply IsS51.drew | apply IsS51.set_0 | apply IsS51.set_1 | apply IsS51.set_2) | exact HI166.out)).1 (by decide)))); have n1_ := Aside0.mk (hb); have n2_ := Aside0.mk (hi); clear HI169; clear HB; clear HI166; have HI169 := n0_; have HB := n1_; have HI166 := n2_; clear n0_ n1_ n2_; (try clear hb); (try clear hb2); (try clear hk); (try clear hi)) | ((with_reducible refine gate_callee (f := 25) rfl ?_); refine goesL_ (some 40) rfl rfl Try.func25 (by kernel_rfl) rfl #[.pointer (some ⟨g169, 0, none⟩)] rfl (by (try simp only [List.map_toArray, List.map_cons, List.map_nil]); first | done | rfl | (simp only [List.length_drop, List.length_take]; rfl)) ?_; (with_reducible refine (billetref01_Reader_Num.calls kj11 g169 x170000_2 x170001_2 t175 t176 t177 w _ ?side1 ?side2 A20.out).mono ?_); (case side1 => repeat (first | (with_reducible first | exact HI169.out | apply IsS53.alloc | apply IsS53.drewN | apply IsS53.drew | apply IsS53.set_0 | apply IsS53.set_1) | exact HI169.out)); (case side2 => repeat (first | (with_reducible first | exact HB.out | apply below_alloc | apply pw_below_drewN | apply below_drew1 | refine below_set ?_ (IsS51.ge HI166.out) | refine below_set ?_ (IsS53.ge HI169.out)) | exact HB.out)); rintro e w23 ⟨rfl, hi, hb, hk⟩; refine ⟨_, rfl, ?_⟩; have n0_ := Aside0.mk (IsS51.kept (show IsS51 w _ g166 t172 t173 t174 from by repeat (first | (with_reducible first | exact HI166.out | apply IsS51.alloc | apply IsS51.drewN | apply IsS51.drew | apply IsS51.set_0 | apply IsS51.set_1 | apply IsS51.set_2) | exact HI166.out)) (⟨hk.1, fun i_ hi_ hs_ => hk.2 i_ hi_ hs_ (by simp)⟩ : Kept _ _ (fun k_ => k_ = g169)) (fun e_ => absurd e_ (IsS51.ne_blk (show IsS51 w _ g166 t172 t173 t174 from by repeat (first | (with_reducible first | exact HI166.out | apply IsS51.alloc | apply IsS51.drewN | apply IsS51.drew | apply IsS51.set_0 | apply IsS51.set_1 | apply IsS51.set_2) | exact HI166.out)) (show IsS53 w _ g169 x170000_2 x170001_2 from by repeat (first | (with_reducible first | exact HI169.out | apply IsS53.alloc | apply IsS53.drewN | apply IsS53.drew | apply IsS53.set_0 | apply IsS53.set_1) | exact HI169.out)).1 (by decide)))); have n1_ := Aside0.mk (hb); have n2_ := Aside0.mk (hi); clear HI166; clear HB; clear HI169; have HI166 := n0_; have HB := n1_; have HI169 := n2_; clear n0_ n1_ n2_; (try clear hb); (try clear hb2); (try clear hk); (try clear hi)))
                            go_meet
                            case rel => exact ⟨_, (t172), (t173), (t174), (t176), (t177), H', ⟨by have := HJ5.out; have := HK2.out; have := HJ11.out; first | omega | exact Nat.le_refl _⟩, ⟨by repeat (first | (with_reducible first | exact HI166.out | apply IsS51.alloc | apply IsS51.drewN | apply IsS51.drew | apply IsS51.set_0 | apply IsS51.set_1 | apply IsS51.set_2) | exact HI166.out)⟩, ⟨by repeat (first | (with_reducible first | exact HI169.out | apply IsS53.alloc | apply IsS53.drewN | apply IsS53.drew | apply IsS53.set_0 | apply IsS53.set_1) | exact HI169.out)⟩, ⟨by repeat (first | (with_reducible first | exact HB.out | apply below_alloc | apply pw_below_drewN | apply below_drew1 | refine below_set ?_ (IsS51.ge HI166.out) | refine below_set ?_ (IsS53.ge HI169.out)) | exact HB.out)⟩⟩
                          · rw [if_neg c21] at H
                            have c21b0 : (t171 == t175) = false := beq_eq_false_iff_ne.mpr c21
                            have c21b1 : (t171 != t175) = true := bne_iff_ne.mpr c21
                            obtain rfl := Option.some.inj H
                            go_wp2_with (first | ((with_reducible refine gate_callee (f := 24) rfl ?_); refine goesL_ (some 38) rfl rfl Try.func24 (by kernel_rfl) rfl #[.pointer (some ⟨g166, 0, none⟩)] rfl (by (try simp only [List.map_toArray, List.map_cons, List.map_nil]); first | done | rfl | (simp only [List.length_drop, List.length_take]; rfl)) ?_; (with_reducible refine (varint_Reader_Num.calls kj11 g166 x167000_2 x167001_2 x167002_2 t171 t172 t173 t174 w _ ?side1 ?side2 A19.out).mono ?_); (case side1 => repeat (first | (with_reducible first | exact HI166.out | apply IsS51.alloc | apply IsS51.drewN | apply IsS51.drew | apply IsS51.set_0 | apply IsS51.set_1 | apply IsS51.set_2) | exact HI166.out)); (case side2 => repeat (first | (with_reducible first | exact HB.out | apply below_alloc | apply pw_below_drewN | apply below_drew1 | refine below_set ?_ (IsS51.ge HI166.out) | refine below_set ?_ (IsS53.ge HI169.out)) | exact HB.out)); rintro e w24 ⟨rfl, hi, hb, hk⟩; refine ⟨_, rfl, ?_⟩; have n0_ := Aside0.mk (IsS53.kept (show IsS53 w _ g169 x170000_2 x170001_2 from by repeat (first | (with_reducible first | exact HI169.out | apply IsS53.alloc | apply IsS53.drewN | apply IsS53.drew | apply IsS53.set_0 | apply IsS53.set_1) | exact HI169.out)) (⟨hk.1, fun i_ hi_ hs_ => hk.2 i_ hi_ hs_ (by simp)⟩ : Kept _ _ (fun k_ => k_ = g166)) (fun e_ => absurd e_ (IsS53.ne_blk (show IsS53 w _ g169 x170000_2 x170001_2 from by repeat (first | (with_reducible first | exact HI169.out | apply IsS53.alloc | apply IsS53.drewN | apply IsS53.drew | apply IsS53.set_0 | apply IsS53.set_1) | exact HI169.out)) (show IsS51 w _ g166 x167000_2 x167001_2 x167002_2 from by repeat (first | (with_reducible first | exact HI166.out | apply IsS51.alloc | apply IsS51.drewN | apply IsS51.drew | apply IsS51.set_0 | apply IsS51.set_1 | apply IsS51.set_2) | exact HI166.out)).1 (by decide)))); have n1_ := Aside0.mk (hb); have n2_ := Aside0.mk (hi); clear HI169; clear HB; clear HI166; have HI169 := n0_; have HB := n1_; have HI166 := n2_; clear n0_ n1_ n2_; (try clear hb); (try clear hb2); (try clear hk); (try clear hi)) | ((with_reducible refine gate_callee (f := 25) rfl ?_); refine goesL_ (some 40) rfl rfl Try.func25 (by kernel_rfl) rfl #[.pointer (some ⟨g169, 0, none⟩)] rfl (by (try simp only [List.map_toArray, List.map_cons, List.map_nil]); first | done | rfl | (simp only [List.length_drop, List.length_take]; rfl)) ?_; (with_reducible refine (billetref01_Reader_Num.calls kj11 g169 x170000_2 x170001_2 t175 t176 t177 w _ ?side1 ?side2 A20.out).mono ?_); (case side1 => repeat (first | (with_reducible first | exact HI169.out | apply IsS53.alloc | apply IsS53.drewN | apply IsS53.drew | apply IsS53.set_0 | apply IsS53.set_1) | exact HI169.out)); (case side2 => repeat (first | (with_reducible first | exact HB.out | apply below_alloc | apply pw_below_drewN | apply below_drew1 | refine below_set ?_ (IsS51.ge HI166.out) | refine below_set ?_ (IsS53.ge HI169.out)) | exact HB.out)); rintro e w25 ⟨rfl, hi, hb, hk⟩; refine ⟨_, rfl, ?_⟩; have n0_ := Aside0.mk (IsS51.kept (show IsS51 w _ g166 t172 t173 t174 from by repeat (first | (with_reducible first | exact HI166.out | apply IsS51.alloc | apply IsS51.drewN | apply IsS51.drew | apply IsS51.set_0 | apply IsS51.set_1 | apply IsS51.set_2) | exact HI166.out)) (⟨hk.1, fun i_ hi_ hs_ => hk.2 i_ hi_ hs_ (by simp)⟩ : Kept _ _ (fun k_ => k_ = g169)) (fun e_ => absurd e_ (IsS51.ne_blk (show IsS51 w _ g166 t172 t173 t174 from by repeat (first | (with_reducible first | exact HI166.out | apply IsS51.alloc | apply IsS51.drewN | apply IsS51.drew | apply IsS51.set_0 | apply IsS51.set_1 | apply IsS51.set_2) | exact HI166.out)) (show IsS53 w _ g169 x170000_2 x170001_2 from by repeat (first | (with_reducible first | exact HI169.out | apply IsS53.alloc | apply IsS53.drewN | apply IsS53.drew | apply IsS53.set_0 | apply IsS53.set_1) | exact HI169.out)).1 (by decide)))); have n1_ := Aside0.mk (hb); have n2_ := Aside0.mk (hi); clear HI166; clear HB; clear HI169; have HI166 := n0_; have HB := n1_; have HI169 := n2_; clear n0_ n1_ n2_; (try clear hb); (try clear hb2); (try clear hk); (try clear hi)))
                            go_ret
                            exact ⟨by first | rfl | (simp [errW_none, errW_some] <;> rfl) | (simp [*, errW_none, errW_some] <;> rfl), by repeat (first | (with_reducible first | exact HB.out | apply below_alloc | apply pw_below_drewN | apply below_drew1 | refine below_set ?_ (IsS51.ge HI166.out) | refine below_set ?_ (IsS53.ge HI169.out)) | exact HB.out)⟩
                        · rw [if_neg c18] at H
                          have c18b0 : ((Int.tmod ((rd_T39 l1 x8_2).f0) 2) == 0) = false := beq_eq_false_iff_ne.mpr c18
                          have c18b1 : ((Int.tmod ((rd_T39 l1 x8_2).f0) 2) != 0) = true := bne_iff_ne.mpr c18
                          (first | rw [c18b0] | (simp only [i64_w, i32_w]; rw [c18b0]) | skip)
                          replace H := Option.bind_eq_some_iff.mp H
                          obtain ⟨⟨t179, t180, t181, t182⟩, A260, H⟩ := H
                          replace H : ((billetref01_Reader_Text.f kj11 x170000_2 x170001_2 ((rd_T39 l1 x8_2).f1)).bind fun bt184 => (if t179.toList = bt184.1.toList then (billetlaw01_VarintReads.j3 kj11 l1 x8_2 t180 t181 t182 bt184.2.1 bt184.2.2) else (some false))) = some r := H
                          have A26 := Aside0.mk A260
                          clear A260
                          replace H := Option.bind_eq_some_iff.mp H
                          obtain ⟨⟨t184, t185, t186⟩, A270, H⟩ := H
                          replace H : (if t179.toList = t184.toList then (billetlaw01_VarintReads.j3 kj11 l1 x8_2 t180 t181 t182 t185 t186) else (some false)) = some r := H
                          have A27 := Aside0.mk A270
                          clear A270
                          by_cases c28 : t179.toList = t184.toList
                          · rw [if_pos c28] at H
                            have c28b0 : (t179.toList == t184.toList) = true := beq_iff_eq.mpr c28
                            have c28b1 : (t179.toList != t184.toList) = false := bne_eq_false_iff_eq.mpr c28
                            clear c28
                            have H' := Aside0.mk H
                            clear H
                            try go_wp2
                            have n0_ := Aside0.mk (IsS51.drew HI166.out)
                            have n1_ := Aside0.mk (IsS53.drew HI169.out)
                            have n2_ := Aside0.mk (below_drew1 HB.out)
                            clear HI166
                            clear HI169
                            clear HB
                            have HI166 := n0_
                            have HI169 := n1_
                            have HB := n2_
                            clear n0_ n1_ n2_
                            have p178 : 0 ≤ (x8_2 : Int) := of_decide_eq_true (by first | (with_reducible assumption) | assumption)
                            have q178 : x8_2 < (l1.length : Int) := of_decide_eq_true (by first | (with_reducible assumption) | assumption)
                            obtain ⟨ad178, e178, hx178_0, hx178_1⟩ := at_T39 HR1.out x8_2 p178 q178
                            have hw178_1 := hx178_1
                            have hw178_0 := hx178_0
                            obtain rfl : ad170 = ad178 := (by injection e178)
                            replace hx178_0 := (HB.out.cell (World.block_lt_of_cell? w _ hx178_0)).trans hx178_0
                            replace hx178_1 := (HB.out.cell (World.block_lt_of_cell? w _ hx178_1)).trans hx178_1
                            replace p178 := eq_true p178
                            (try replace p178z := eq_true p178z)
                            replace q178 := eq_true q178
                            (try replace q178z := eq_true q178z)
                            have p183 : 0 ≤ (x8_2 : Int) := of_decide_eq_true (by first | (with_reducible assumption) | assumption)
                            have q183 : x8_2 < (l1.length : Int) := of_decide_eq_true (by first | (with_reducible assumption) | assumption)
                            obtain ⟨ad183, e183, hx183_0, hx183_1⟩ := at_T39 HR1.out x8_2 p183 q183
                            have hw183_1 := hx183_1
                            have hw183_0 := hx183_0
                            obtain rfl : ad170 = ad183 := (by injection e183)
                            replace hx183_0 := (HB.out.cell (World.block_lt_of_cell? w _ hx183_0)).trans hx183_0
                            replace hx183_1 := (HB.out.cell (World.block_lt_of_cell? w _ hx183_1)).trans hx183_1
                            replace p183 := eq_true p183
                            (try replace p183z := eq_true p183z)
                            replace q183 := eq_true q183
                            (try replace q183z := eq_true q183z)
                            refine start_ (n := 15) (S := fun w' => w'.cell? (ad170.add ((x8_2).toNat * 2)) = some (.int .i64 ((rd_T39 l1 x8_2).f0)) ∧ w'.cell? ⟨(ad170.add ((x8_2).toNat * 2)).block, (ad170.add ((x8_2).toNat * 2)).off + 1, none⟩ = some (.int .i64 ((rd_T39 l1 x8_2).f1)) ∧ w'.cell? (ad170.add ((x8_2).toNat * 2)) = some (.int .i64 ((rd_T39 l1 x8_2).f0)) ∧ w'.cell? ⟨(ad170.add ((x8_2).toNat * 2)).block, (ad170.add ((x8_2).toNat * 2)).off + 1, none⟩ = some (.int .i64 ((rd_T39 l1 x8_2).f1))) (ds := []) #[false, false, false, false, false, false, false, false, false, false, false, false, false, false, false] (by kernel_rfl) rfl rfl ⟨((HB.out.cell (World.block_lt_of_cell? w _ hw178_0)).trans hw178_0), ((HB.out.cell (World.block_lt_of_cell? w _ hw178_1)).trans hw178_1), ((HB.out.cell (World.block_lt_of_cell? w _ hw183_0)).trans hw183_0), ((HB.out.cell (World.block_lt_of_cell? w _ hw183_1)).trans hw183_1)⟩ (fun hHeld => ?_); refine with_tabW billetlaw01_VarintReads.tab12 billetlaw01_VarintReads.bits12 (fun HT_ HW_ => ?_)
                            generalize wc.drew = w29 at HI166 HI169 HB hx178_0 hx178_1 hx183_0 hx183_1 hHeld ⊢
                            refine pure_ (i := 0) (N := some 42) (v := ?_) (a' := ?_) #[true, false, false, false, false, false, false, false, false, false, false, false, false, false, false] rfl rfl (any_of HT_.out (by kernel_rfl)) (fun _ _ _ h => h) (Or.inl ⟨by rfl, ?_⟩) ?_ ?_
                            rotate_left
                            · intro w'
                              go_simp
                              with_reducible rfl
                            rotate_left
                            · simp only [Act.put, List.setIfInBounds_toArray, List.set_cons_zero, List.set_cons_succ, i64_w, i32_w]
                              rfl
                            refine pure_ (i := 1) (N := some 43) (v := ?_) (a' := ?_) #[true, true, false, false, false, false, false, false, false, false, false, false, false, false, false] rfl rfl (any_of HT_.out (by kernel_rfl)) (fun _ _ _ h => h) (Or.inl ⟨by rfl, ?_⟩) ?_ ?_
                            rotate_left
                            · intro w'
                              go_simp
                              with_reducible rfl
                            rotate_left
                            · simp only [Act.put, List.setIfInBounds_toArray, List.set_cons_zero, List.set_cons_succ, i64_w, i32_w]
                              rfl
                            refine pure_ (i := 2) (N := some 44) (v := ?_) (a' := ?_) #[true, true, true, false, false, false, false, false, false, false, false, false, false, false, false] rfl rfl (any_of HT_.out (by kernel_rfl)) (fun _ _ _ h => h) (Or.inl ⟨by rfl, ?_⟩) ?_ ?_
                            rotate_left
                            · intro w'
                              go_simp
                              with_reducible rfl
                            rotate_left
                            · simp only [Act.put, List.setIfInBounds_toArray, List.set_cons_zero, List.set_cons_succ, i64_w, i32_w]
                              rfl
                            refine pure_ (i := 3) (N := some 45) (v := ?_) (a' := ?_) #[true, true, true, true, false, false, false, false, false, false, false, false, false, false, false] rfl rfl (any_of HT_.out (by kernel_rfl)) (fun _ _ _ h => h) (Or.inl ⟨by rfl, ?_⟩) ?_ ?_
                            rotate_left
                            · intro w'
                              go_simp
                              with_reducible rfl
                            rotate_left
                            · simp only [Act.put, List.setIfInBounds_toArray, List.set_cons_zero, List.set_cons_succ, i64_w, i32_w]
                              rfl
                            refine pure_ (i := 4) (N := some 46) (v := ?_) (a' := ?_) #[true, true, true, true, true, false, false, false, false, false, false, false, false, false, false] rfl rfl (any_of HT_.out (by kernel_rfl)) (fun _ _ _ h => h) (Or.inl ⟨by rfl, ?_⟩) ?_ ?_
                            rotate_left
                            · intro w'
                              go_simp
                              with_reducible rfl
                            rotate_left
                            · simp only [Act.put, List.setIfInBounds_toArray, List.set_cons_zero, List.set_cons_succ, i64_w, i32_w]
                              rfl
                            refine pure_ (i := 7) (N := some 49) (v := ?_) (a' := ?_) #[true, true, true, true, true, false, false, true, false, false, false, false, false, false, false] rfl rfl (any_of HT_.out (by kernel_rfl)) (fun _ _ _ h => h) (Or.inl ⟨by rfl, ?_⟩) ?_ ?_
                            rotate_left
                            · intro w'
                              go_simp
                              with_reducible rfl
                            rotate_left
                            · simp only [Act.put, List.setIfInBounds_toArray, List.set_cons_zero, List.set_cons_succ, i64_w, i32_w]
                              rfl
                            refine pure_ (i := 8) (N := some 50) (v := ?_) (a' := ?_) #[true, true, true, true, true, false, false, true, true, false, false, false, false, false, false] rfl rfl (any_of HT_.out (by kernel_rfl)) (fun _ _ _ h => h) (Or.inl ⟨by rfl, ?_⟩) ?_ ?_
                            rotate_left
                            · intro w'
                              go_simp
                              with_reducible rfl
                            rotate_left
                            · simp only [Act.put, List.setIfInBounds_toArray, List.set_cons_zero, List.set_cons_succ, i64_w, i32_w]
                              rfl
                            refine pure_ (i := 9) (N := some 51) (v := ?_) (a' := ?_) #[true, true, true, true, true, false, false, true, true, true, false, false, false, false, false] rfl rfl (any_of HT_.out (by kernel_rfl)) (fun _ _ _ h => h) (Or.inl ⟨by rfl, ?_⟩) ?_ ?_
                            rotate_left
                            · intro w'
                              go_simp
                              with_reducible rfl
                            rotate_left
                            · simp only [Act.put, List.setIfInBounds_toArray, List.set_cons_zero, List.set_cons_succ, i64_w, i32_w]
                              rfl
                            refine pure_ (i := 10) (N := some 52) (v := ?_) (a' := ?_) #[true, true, true, true, true, false, false, true, true, true, true, false, false, false, false] rfl rfl (any_of HT_.out (by kernel_rfl)) (fun _ _ _ h => h) (Or.inl ⟨by rfl, ?_⟩) ?_ ?_
                            rotate_left
                            · intro w'
                              go_simp
                              with_reducible rfl
                            rotate_left
                            · simp only [Act.put, List.setIfInBounds_toArray, List.set_cons_zero, List.set_cons_succ, i64_w, i32_w]
                              rfl
                            refine pure_ (i := 11) (N := some 53) (v := ?_) (a' := ?_) #[true, true, true, true, true, false, false, true, true, true, true, true, false, false, false] rfl rfl (any_of HT_.out (by kernel_rfl)) (fun _ _ _ h => h) (Or.inl ⟨by rfl, ?_⟩) ?_ ?_
                            rotate_left
                            · intro w'
                              go_simp
                              with_reducible rfl
                            rotate_left
                            · simp only [Act.put, List.setIfInBounds_toArray, List.set_cons_zero, List.set_cons_succ, i64_w, i32_w]
                              rfl
                            refine take_ (i := 5) (N := some 47) (v := ?_) (a' := ?_) #[true, true, true, true, true, true, false, true, true, true, true, true, false, false, false] rfl rfl (take_ofW HT_.out HW_.out (by kernel_rfl)) (fun _ _ _ h => h) (Or.inl ⟨by rfl, ?_⟩) hHeld ?_ ?_
                            rotate_left
                            · rintro w' ⟨s0, s1, s2, s3⟩
                              go_simp
                              with_reducible rfl
                            rotate_left
                            · simp only [Act.put, List.setIfInBounds_toArray, List.set_cons_zero, List.set_cons_succ, i64_w, i32_w]
                              rfl
                            refine take_ (i := 12) (N := some 54) (v := ?_) (a' := ?_) #[true, true, true, true, true, true, false, true, true, true, true, true, true, false, false] rfl rfl (take_ofW HT_.out HW_.out (by kernel_rfl)) (fun _ _ _ h => h) (Or.inl ⟨by rfl, ?_⟩) hHeld ?_ ?_
                            rotate_left
                            · rintro w' ⟨s0, s1, s2, s3⟩
                              go_simp
                              with_reducible rfl
                            rotate_left
                            · simp only [Act.put, List.setIfInBounds_toArray, List.set_cons_zero, List.set_cons_succ, i64_w, i32_w]
                              rfl
                            refine one_ (i := 6) (N := some 48) #[true, true, true, true, true, true, true, true, true, true, true, true, true, false, false] rfl rfl (one_of HT_.out (by kernel_rfl)) (by decide) (fun K hK => ?_)
                            refine goes_ Try.func20 (by kernel_rfl) rfl #[.pointer (some ⟨g166, 0, none⟩), .int .i64 ((rd_T39 l1 x8_2).f1)] (by rfl) rfl rfl (by (try simp only [List.map_toArray, List.map_cons, List.map_nil]); first | done | rfl | (simp only [List.length_drop, List.length_take]; rfl)) ?_
                            with_reducible refine (varint_Reader_Text.calls kj11 g166 x167000_2 x167001_2 x167002_2 ((rd_T39 l1 x8_2).f1) t179 t180 t181 t182 w _ ?side1 ?side2 A26.out).mono ?_
                            (case side1 => repeat (first | (with_reducible first | exact HI166.out | apply IsS51.alloc | apply IsS51.drewN | apply IsS51.drew | apply IsS51.set_0 | apply IsS51.set_1 | apply IsS51.set_2) | exact HI166.out))
                            (case side2 => repeat (first | (with_reducible first | exact HB.out | apply below_alloc | apply pw_below_drewN | apply below_drew1 | refine below_set ?_ (IsS51.ge HI166.out) | refine below_set ?_ (IsS53.ge HI169.out)) | exact HB.out))
                            rintro e w30 ⟨rfl, hi, hb, hk⟩
                            refine ⟨_, rfl, ?_⟩
                            have n0_ := Aside0.mk (IsS53.kept (show IsS53 w _ g169 x170000_2 x170001_2 from by repeat (first | (with_reducible first | exact HI169.out | apply IsS53.alloc | apply IsS53.drewN | apply IsS53.drew | apply IsS53.set_0 | apply IsS53.set_1) | exact HI169.out)) (⟨hk.1, fun i_ hi_ hs_ => hk.2 i_ hi_ hs_ (by simp)⟩ : Kept _ _ (fun k_ => k_ = g166)) (fun e_ => absurd e_ (IsS53.ne_blk (show IsS53 w _ g169 x170000_2 x170001_2 from by repeat (first | (with_reducible first | exact HI169.out | apply IsS53.alloc | apply IsS53.drewN | apply IsS53.drew | apply IsS53.set_0 | apply IsS53.set_1) | exact HI169.out)) (show IsS51 w _ g166 x167000_2 x167001_2 x167002_2 from by repeat (first | (with_reducible first | exact HI166.out | apply IsS51.alloc | apply IsS51.drewN | apply IsS51.drew | apply IsS51.set_0 | apply IsS51.set_1 | apply IsS51.set_2) | exact HI166.out)).1 (by decide))))
                            have n1_ := Aside0.mk (hb)
                            have n2_ := Aside0.mk (hi)
                            clear HI169
                            clear HB
                            clear HI166
                            have HI169 := n0_
                            have HB := n1_
                            have HI166 := n2_
                            clear n0_ n1_ n2_
                            (try clear hb)
                            (try clear hb2)
                            (try clear hk)
                            (try clear hi)
                            refine hK.out _ _ ⟨((HB.out.cell (World.block_lt_of_cell? w _ hw178_0)).trans hw178_0), ((HB.out.cell (World.block_lt_of_cell? w _ hw178_1)).trans hw178_1), ((HB.out.cell (World.block_lt_of_cell? w _ hw183_0)).trans hw183_0), ((HB.out.cell (World.block_lt_of_cell? w _ hw183_1)).trans hw183_1)⟩ (fun hHeld => ?_)
                            clear hK K
                            refine norm_ (a' := ?_) ?_ ?_
                            rotate_left
                            · show Act.put _ (some 48) _ = _
                              simp only [Act.put, List.setIfInBounds_toArray, List.set_cons_zero, List.set_cons_succ, i64_w, i32_w]
                              rfl
                            refine one_ (i := 13) (N := some 55) #[true, true, true, true, true, true, true, true, true, true, true, true, true, true, false] rfl rfl (one_of HT_.out (by kernel_rfl)) (by decide) (fun K hK => ?_)
                            refine goes_ Try.func26 (by kernel_rfl) rfl #[.pointer (some ⟨g169, 0, none⟩), .int .i64 ((rd_T39 l1 x8_2).f1)] (by rfl) rfl rfl (by (try simp only [List.map_toArray, List.map_cons, List.map_nil]); first | done | rfl | (simp only [List.length_drop, List.length_take]; rfl)) ?_
                            with_reducible refine (billetref01_Reader_Text.calls kj11 g169 x170000_2 x170001_2 ((rd_T39 l1 x8_2).f1) t184 t185 t186 w _ ?side1 ?side2 A27.out).mono ?_
                            (case side1 => repeat (first | (with_reducible first | exact HI169.out | apply IsS53.alloc | apply IsS53.drewN | apply IsS53.drew | apply IsS53.set_0 | apply IsS53.set_1) | exact HI169.out))
                            (case side2 => repeat (first | (with_reducible first | exact HB.out | apply below_alloc | apply pw_below_drewN | apply below_drew1 | refine below_set ?_ (IsS51.ge HI166.out) | refine below_set ?_ (IsS53.ge HI169.out)) | exact HB.out))
                            rintro e w31 ⟨rfl, hi, hb, hk⟩
                            refine ⟨_, rfl, ?_⟩
                            have n0_ := Aside0.mk (IsS51.kept (show IsS51 w _ g166 t180 t181 t182 from by repeat (first | (with_reducible first | exact HI166.out | apply IsS51.alloc | apply IsS51.drewN | apply IsS51.drew | apply IsS51.set_0 | apply IsS51.set_1 | apply IsS51.set_2) | exact HI166.out)) (⟨hk.1, fun i_ hi_ hs_ => hk.2 i_ hi_ hs_ (by simp)⟩ : Kept _ _ (fun k_ => k_ = g169)) (fun e_ => absurd e_ (IsS51.ne_blk (show IsS51 w _ g166 t180 t181 t182 from by repeat (first | (with_reducible first | exact HI166.out | apply IsS51.alloc | apply IsS51.drewN | apply IsS51.drew | apply IsS51.set_0 | apply IsS51.set_1 | apply IsS51.set_2) | exact HI166.out)) (show IsS53 w _ g169 x170000_2 x170001_2 from by repeat (first | (with_reducible first | exact HI169.out | apply IsS53.alloc | apply IsS53.drewN | apply IsS53.drew | apply IsS53.set_0 | apply IsS53.set_1) | exact HI169.out)).1 (by decide))))
                            have n1_ := Aside0.mk (hb)
                            have n2_ := Aside0.mk (hi)
                            clear HI166
                            clear HB
                            clear HI169
                            have HI166 := n0_
                            have HB := n1_
                            have HI169 := n2_
                            clear n0_ n1_ n2_
                            (try clear hb)
                            (try clear hb2)
                            (try clear hk)
                            (try clear hi)
                            refine hK.out _ _ ⟨((HB.out.cell (World.block_lt_of_cell? w _ hw178_0)).trans hw178_0), ((HB.out.cell (World.block_lt_of_cell? w _ hw178_1)).trans hw178_1), ((HB.out.cell (World.block_lt_of_cell? w _ hw183_0)).trans hw183_0), ((HB.out.cell (World.block_lt_of_cell? w _ hw183_1)).trans hw183_1)⟩ (fun hHeld => ?_)
                            clear hK K
                            refine norm_ (a' := ?_) ?_ ?_
                            rotate_left
                            · show Act.put _ (some 55) _ = _
                              simp only [Act.put, List.setIfInBounds_toArray, List.set_cons_zero, List.set_cons_succ, i64_w, i32_w]
                              rfl
                            refine pure_ (i := 14) (N := some 56) (v := ?_) (a' := ?_) #[true, true, true, true, true, true, true, true, true, true, true, true, true, true, true] rfl rfl (any_of HT_.out (by kernel_rfl)) (fun _ _ _ h => h) (Or.inl ⟨by rfl, ?_⟩) ?_ ?_
                            rotate_left
                            · intro w'
                              go_simp
                              with_reducible rfl
                            rotate_left
                            · simp only [Act.put, List.setIfInBounds_toArray, List.set_cons_zero, List.set_cons_succ, i64_w, i32_w]
                              rfl
                            refine done_ (done_of HT_.out (by kernel_rfl)) ?_
                            try go_wp2
                            go_meet
                            case rel => exact ⟨_, (t180), (t181), (t182), (t185), (t186), H', ⟨by have := HJ5.out; have := HK2.out; have := HJ11.out; first | omega | exact Nat.le_refl _⟩, ⟨by repeat (first | (with_reducible first | exact HI166.out | apply IsS51.alloc | apply IsS51.drewN | apply IsS51.drew | apply IsS51.set_0 | apply IsS51.set_1 | apply IsS51.set_2) | exact HI166.out)⟩, ⟨by repeat (first | (with_reducible first | exact HI169.out | apply IsS53.alloc | apply IsS53.drewN | apply IsS53.drew | apply IsS53.set_0 | apply IsS53.set_1) | exact HI169.out)⟩, ⟨by repeat (first | (with_reducible first | exact HB.out | apply below_alloc | apply pw_below_drewN | apply below_drew1 | refine below_set ?_ (IsS51.ge HI166.out) | refine below_set ?_ (IsS53.ge HI169.out)) | exact HB.out)⟩⟩
                          · rw [if_neg c28] at H
                            have c28b0 : (t179.toList == t184.toList) = false := beq_eq_false_iff_ne.mpr c28
                            have c28b1 : (t179.toList != t184.toList) = true := bne_iff_ne.mpr c28
                            obtain rfl := Option.some.inj H
                            try go_wp2
                            have n0_ := Aside0.mk (IsS51.drew HI166.out)
                            have n1_ := Aside0.mk (IsS53.drew HI169.out)
                            have n2_ := Aside0.mk (below_drew1 HB.out)
                            clear HI166
                            clear HI169
                            clear HB
                            have HI166 := n0_
                            have HI169 := n1_
                            have HB := n2_
                            clear n0_ n1_ n2_
                            have p178 : 0 ≤ (x8_2 : Int) := of_decide_eq_true (by first | (with_reducible assumption) | assumption)
                            have q178 : x8_2 < (l1.length : Int) := of_decide_eq_true (by first | (with_reducible assumption) | assumption)
                            obtain ⟨ad178, e178, hx178_0, hx178_1⟩ := at_T39 HR1.out x8_2 p178 q178
                            have hw178_1 := hx178_1
                            have hw178_0 := hx178_0
                            obtain rfl : ad170 = ad178 := (by injection e178)
                            replace hx178_0 := (HB.out.cell (World.block_lt_of_cell? w _ hx178_0)).trans hx178_0
                            replace hx178_1 := (HB.out.cell (World.block_lt_of_cell? w _ hx178_1)).trans hx178_1
                            replace p178 := eq_true p178
                            (try replace p178z := eq_true p178z)
                            replace q178 := eq_true q178
                            (try replace q178z := eq_true q178z)
                            have p183 : 0 ≤ (x8_2 : Int) := of_decide_eq_true (by first | (with_reducible assumption) | assumption)
                            have q183 : x8_2 < (l1.length : Int) := of_decide_eq_true (by first | (with_reducible assumption) | assumption)
                            obtain ⟨ad183, e183, hx183_0, hx183_1⟩ := at_T39 HR1.out x8_2 p183 q183
                            have hw183_1 := hx183_1
                            have hw183_0 := hx183_0
                            obtain rfl : ad170 = ad183 := (by injection e183)
                            replace hx183_0 := (HB.out.cell (World.block_lt_of_cell? w _ hx183_0)).trans hx183_0
                            replace hx183_1 := (HB.out.cell (World.block_lt_of_cell? w _ hx183_1)).trans hx183_1
                            replace p183 := eq_true p183
                            (try replace p183z := eq_true p183z)
                            replace q183 := eq_true q183
                            (try replace q183z := eq_true q183z)
                            refine start_ (n := 15) (S := fun w' => w'.cell? (ad170.add ((x8_2).toNat * 2)) = some (.int .i64 ((rd_T39 l1 x8_2).f0)) ∧ w'.cell? ⟨(ad170.add ((x8_2).toNat * 2)).block, (ad170.add ((x8_2).toNat * 2)).off + 1, none⟩ = some (.int .i64 ((rd_T39 l1 x8_2).f1)) ∧ w'.cell? (ad170.add ((x8_2).toNat * 2)) = some (.int .i64 ((rd_T39 l1 x8_2).f0)) ∧ w'.cell? ⟨(ad170.add ((x8_2).toNat * 2)).block, (ad170.add ((x8_2).toNat * 2)).off + 1, none⟩ = some (.int .i64 ((rd_T39 l1 x8_2).f1))) (ds := []) #[false, false, false, false, false, false, false, false, false, false, false, false, false, false, false] (by kernel_rfl) rfl rfl ⟨((HB.out.cell (World.block_lt_of_cell? w _ hw178_0)).trans hw178_0), ((HB.out.cell (World.block_lt_of_cell? w _ hw178_1)).trans hw178_1), ((HB.out.cell (World.block_lt_of_cell? w _ hw183_0)).trans hw183_0), ((HB.out.cell (World.block_lt_of_cell? w _ hw183_1)).trans hw183_1)⟩ (fun hHeld => ?_); refine with_tabW billetlaw01_VarintReads.tab12 billetlaw01_VarintReads.bits12 (fun HT_ HW_ => ?_)
                            generalize wc.drew = w32 at HI166 HI169 HB hx178_0 hx178_1 hx183_0 hx183_1 hHeld ⊢
                            refine pure_ (i := 0) (N := some 42) (v := ?_) (a' := ?_) #[true, false, false, false, false, false, false, false, false, false, false, false, false, false, false] rfl rfl (any_of HT_.out (by kernel_rfl)) (fun _ _ _ h => h) (Or.inl ⟨by rfl, ?_⟩) ?_ ?_
                            rotate_left
                            · intro w'
                              go_simp
                              with_reducible rfl
                            rotate_left
                            · simp only [Act.put, List.setIfInBounds_toArray, List.set_cons_zero, List.set_cons_succ, i64_w, i32_w]
                              rfl
                            refine pure_ (i := 1) (N := some 43) (v := ?_) (a' := ?_) #[true, true, false, false, false, false, false, false, false, false, false, false, false, false, false] rfl rfl (any_of HT_.out (by kernel_rfl)) (fun _ _ _ h => h) (Or.inl ⟨by rfl, ?_⟩) ?_ ?_
                            rotate_left
                            · intro w'
                              go_simp
                              with_reducible rfl
                            rotate_left
                            · simp only [Act.put, List.setIfInBounds_toArray, List.set_cons_zero, List.set_cons_succ, i64_w, i32_w]
                              rfl
                            refine pure_ (i := 2) (N := some 44) (v := ?_) (a' := ?_) #[true, true, true, false, false, false, false, false, false, false, false, false, false, false, false] rfl rfl (any_of HT_.out (by kernel_rfl)) (fun _ _ _ h => h) (Or.inl ⟨by rfl, ?_⟩) ?_ ?_
                            rotate_left
                            · intro w'
                              go_simp
                              with_reducible rfl
                            rotate_left
                            · simp only [Act.put, List.setIfInBounds_toArray, List.set_cons_zero, List.set_cons_succ, i64_w, i32_w]
                              rfl
                            refine pure_ (i := 3) (N := some 45) (v := ?_) (a' := ?_) #[true, true, true, true, false, false, false, false, false, false, false, false, false, false, false] rfl rfl (any_of HT_.out (by kernel_rfl)) (fun _ _ _ h => h) (Or.inl ⟨by rfl, ?_⟩) ?_ ?_
                            rotate_left
                            · intro w'
                              go_simp
                              with_reducible rfl
                            rotate_left
                            · simp only [Act.put, List.setIfInBounds_toArray, List.set_cons_zero, List.set_cons_succ, i64_w, i32_w]
                              rfl
                            refine pure_ (i := 4) (N := some 46) (v := ?_) (a' := ?_) #[true, true, true, true, true, false, false, false, false, false, false, false, false, false, false] rfl rfl (any_of HT_.out (by kernel_rfl)) (fun _ _ _ h => h) (Or.inl ⟨by rfl, ?_⟩) ?_ ?_
                            rotate_left
                            · intro w'
                              go_simp
                              with_reducible rfl
                            rotate_left
                            · simp only [Act.put, List.setIfInBounds_toArray, List.set_cons_zero, List.set_cons_succ, i64_w, i32_w]
                              rfl
                            refine pure_ (i := 7) (N := some 49) (v := ?_) (a' := ?_) #[true, true, true, true, true, false, false, true, false, false, false, false, false, false, false] rfl rfl (any_of HT_.out (by kernel_rfl)) (fun _ _ _ h => h) (Or.inl ⟨by rfl, ?_⟩) ?_ ?_
                            rotate_left
                            · intro w'
                              go_simp
                              with_reducible rfl
                            rotate_left
                            · simp only [Act.put, List.setIfInBounds_toArray, List.set_cons_zero, List.set_cons_succ, i64_w, i32_w]
                              rfl
                            refine pure_ (i := 8) (N := some 50) (v := ?_) (a' := ?_) #[true, true, true, true, true, false, false, true, true, false, false, false, false, false, false] rfl rfl (any_of HT_.out (by kernel_rfl)) (fun _ _ _ h => h) (Or.inl ⟨by rfl, ?_⟩) ?_ ?_
                            rotate_left
                            · intro w'
                              go_simp
                              with_reducible rfl
                            rotate_left
                            · simp only [Act.put, List.setIfInBounds_toArray, List.set_cons_zero, List.set_cons_succ, i64_w, i32_w]
                              rfl
                            refine pure_ (i := 9) (N := some 51) (v := ?_) (a' := ?_) #[true, true, true, true, true, false, false, true, true, true, false, false, false, false, false] rfl rfl (any_of HT_.out (by kernel_rfl)) (fun _ _ _ h => h) (Or.inl ⟨by rfl, ?_⟩) ?_ ?_
                            rotate_left
                            · intro w'
                              go_simp
                              with_reducible rfl
                            rotate_left
                            · simp only [Act.put, List.setIfInBounds_toArray, List.set_cons_zero, List.set_cons_succ, i64_w, i32_w]
                              rfl
                            refine pure_ (i := 10) (N := some 52) (v := ?_) (a' := ?_) #[true, true, true, true, true, false, false, true, true, true, true, false, false, false, false] rfl rfl (any_of HT_.out (by kernel_rfl)) (fun _ _ _ h => h) (Or.inl ⟨by rfl, ?_⟩) ?_ ?_
                            rotate_left
                            · intro w'
                              go_simp
                              with_reducible rfl
                            rotate_left
                            · simp only [Act.put, List.setIfInBounds_toArray, List.set_cons_zero, List.set_cons_succ, i64_w, i32_w]
                              rfl
                            refine pure_ (i := 11) (N := some 53) (v := ?_) (a' := ?_) #[true, true, true, true, true, false, false, true, true, true, true, true, false, false, false] rfl rfl (any_of HT_.out (by kernel_rfl)) (fun _ _ _ h => h) (Or.inl ⟨by rfl, ?_⟩) ?_ ?_
                            rotate_left
                            · intro w'
                              go_simp
                              with_reducible rfl
                            rotate_left
                            · simp only [Act.put, List.setIfInBounds_toArray, List.set_cons_zero, List.set_cons_succ, i64_w, i32_w]
                              rfl
                            refine take_ (i := 5) (N := some 47) (v := ?_) (a' := ?_) #[true, true, true, true, true, true, false, true, true, true, true, true, false, false, false] rfl rfl (take_ofW HT_.out HW_.out (by kernel_rfl)) (fun _ _ _ h => h) (Or.inl ⟨by rfl, ?_⟩) hHeld ?_ ?_
                            rotate_left
                            · rintro w' ⟨s0, s1, s2, s3⟩
                              go_simp
                              with_reducible rfl
                            rotate_left
                            · simp only [Act.put, List.setIfInBounds_toArray, List.set_cons_zero, List.set_cons_succ, i64_w, i32_w]
                              rfl
                            refine take_ (i := 12) (N := some 54) (v := ?_) (a' := ?_) #[true, true, true, true, true, true, false, true, true, true, true, true, true, false, false] rfl rfl (take_ofW HT_.out HW_.out (by kernel_rfl)) (fun _ _ _ h => h) (Or.inl ⟨by rfl, ?_⟩) hHeld ?_ ?_
                            rotate_left
                            · rintro w' ⟨s0, s1, s2, s3⟩
                              go_simp
                              with_reducible rfl
                            rotate_left
                            · simp only [Act.put, List.setIfInBounds_toArray, List.set_cons_zero, List.set_cons_succ, i64_w, i32_w]
                              rfl
                            refine one_ (i := 6) (N := some 48) #[true, true, true, true, true, true, true, true, true, true, true, true, true, false, false] rfl rfl (one_of HT_.out (by kernel_rfl)) (by decide) (fun K hK => ?_)
                            refine goes_ Try.func20 (by kernel_rfl) rfl #[.pointer (some ⟨g166, 0, none⟩), .int .i64 ((rd_T39 l1 x8_2).f1)] (by rfl) rfl rfl (by (try simp only [List.map_toArray, List.map_cons, List.map_nil]); first | done | rfl | (simp only [List.length_drop, List.length_take]; rfl)) ?_
                            with_reducible refine (varint_Reader_Text.calls kj11 g166 x167000_2 x167001_2 x167002_2 ((rd_T39 l1 x8_2).f1) t179 t180 t181 t182 w _ ?side1 ?side2 A26.out).mono ?_
                            (case side1 => repeat (first | (with_reducible first | exact HI166.out | apply IsS51.alloc | apply IsS51.drewN | apply IsS51.drew | apply IsS51.set_0 | apply IsS51.set_1 | apply IsS51.set_2) | exact HI166.out))
                            (case side2 => repeat (first | (with_reducible first | exact HB.out | apply below_alloc | apply pw_below_drewN | apply below_drew1 | refine below_set ?_ (IsS51.ge HI166.out) | refine below_set ?_ (IsS53.ge HI169.out)) | exact HB.out))
                            rintro e w33 ⟨rfl, hi, hb, hk⟩
                            refine ⟨_, rfl, ?_⟩
                            have n0_ := Aside0.mk (IsS53.kept (show IsS53 w _ g169 x170000_2 x170001_2 from by repeat (first | (with_reducible first | exact HI169.out | apply IsS53.alloc | apply IsS53.drewN | apply IsS53.drew | apply IsS53.set_0 | apply IsS53.set_1) | exact HI169.out)) (⟨hk.1, fun i_ hi_ hs_ => hk.2 i_ hi_ hs_ (by simp)⟩ : Kept _ _ (fun k_ => k_ = g166)) (fun e_ => absurd e_ (IsS53.ne_blk (show IsS53 w _ g169 x170000_2 x170001_2 from by repeat (first | (with_reducible first | exact HI169.out | apply IsS53.alloc | apply IsS53.drewN | apply IsS53.drew | apply IsS53.set_0 | apply IsS53.set_1) | exact HI169.out)) (show IsS51 w _ g166 x167000_2 x167001_2 x167002_2 from by repeat (first | (with_reducible first | exact HI166.out | apply IsS51.alloc | apply IsS51.drewN | apply IsS51.drew | apply IsS51.set_0 | apply IsS51.set_1 | apply IsS51.set_2) | exact HI166.out)).1 (by decide))))
                            have n1_ := Aside0.mk (hb)
                            have n2_ := Aside0.mk (hi)
                            clear HI169
                            clear HB
                            clear HI166
                            have HI169 := n0_
                            have HB := n1_
                            have HI166 := n2_
                            clear n0_ n1_ n2_
                            (try clear hb)
                            (try clear hb2)
                            (try clear hk)
                            (try clear hi)
                            refine hK.out _ _ ⟨((HB.out.cell (World.block_lt_of_cell? w _ hw178_0)).trans hw178_0), ((HB.out.cell (World.block_lt_of_cell? w _ hw178_1)).trans hw178_1), ((HB.out.cell (World.block_lt_of_cell? w _ hw183_0)).trans hw183_0), ((HB.out.cell (World.block_lt_of_cell? w _ hw183_1)).trans hw183_1)⟩ (fun hHeld => ?_)
                            clear hK K
                            refine norm_ (a' := ?_) ?_ ?_
                            rotate_left
                            · show Act.put _ (some 48) _ = _
                              simp only [Act.put, List.setIfInBounds_toArray, List.set_cons_zero, List.set_cons_succ, i64_w, i32_w]
                              rfl
                            refine one_ (i := 13) (N := some 55) #[true, true, true, true, true, true, true, true, true, true, true, true, true, true, false] rfl rfl (one_of HT_.out (by kernel_rfl)) (by decide) (fun K hK => ?_)
                            refine goes_ Try.func26 (by kernel_rfl) rfl #[.pointer (some ⟨g169, 0, none⟩), .int .i64 ((rd_T39 l1 x8_2).f1)] (by rfl) rfl rfl (by (try simp only [List.map_toArray, List.map_cons, List.map_nil]); first | done | rfl | (simp only [List.length_drop, List.length_take]; rfl)) ?_
                            with_reducible refine (billetref01_Reader_Text.calls kj11 g169 x170000_2 x170001_2 ((rd_T39 l1 x8_2).f1) t184 t185 t186 w _ ?side1 ?side2 A27.out).mono ?_
                            (case side1 => repeat (first | (with_reducible first | exact HI169.out | apply IsS53.alloc | apply IsS53.drewN | apply IsS53.drew | apply IsS53.set_0 | apply IsS53.set_1) | exact HI169.out))
                            (case side2 => repeat (first | (with_reducible first | exact HB.out | apply below_alloc | apply pw_below_drewN | apply below_drew1 | refine below_set ?_ (IsS51.ge HI166.out) | refine below_set ?_ (IsS53.ge HI169.out)) | exact HB.out))
                            rintro e w34 ⟨rfl, hi, hb, hk⟩
                            refine ⟨_, rfl, ?_⟩
                            have n0_ := Aside0.mk (IsS51.kept (show IsS51 w _ g166 t180 t181 t182 from by repeat (first | (with_reducible first | exact HI166.out | apply IsS51.alloc | apply IsS51.drewN | apply IsS51.drew | apply IsS51.set_0 | apply IsS51.set_1 | apply IsS51.set_2) | exact HI166.out)) (⟨hk.1, fun i_ hi_ hs_ => hk.2 i_ hi_ hs_ (by simp)⟩ : Kept _ _ (fun k_ => k_ = g169)) (fun e_ => absurd e_ (IsS51.ne_blk (show IsS51 w _ g166 t180 t181 t182 from by repeat (first | (with_reducible first | exact HI166.out | apply IsS51.alloc | apply IsS51.drewN | apply IsS51.drew | apply IsS51.set_0 | apply IsS51.set_1 | apply IsS51.set_2) | exact HI166.out)) (show IsS53 w _ g169 x170000_2 x170001_2 from by repeat (first | (with_reducible first | exact HI169.out | apply IsS53.alloc | apply IsS53.drewN | apply IsS53.drew | apply IsS53.set_0 | apply IsS53.set_1) | exact HI169.out)).1 (by decide))))
                            have n1_ := Aside0.mk (hb)
                            have n2_ := Aside0.mk (hi)
                            clear HI166
                            clear HB
                            clear HI169
                            have HI166 := n0_
                            have HB := n1_
                            have HI169 := n2_
                            clear n0_ n1_ n2_
                            (try clear hb)
                            (try clear hb2)
                            (try clear hk)
                            (try clear hi)
                            refine hK.out _ _ ⟨((HB.out.cell (World.block_lt_of_cell? w _ hw178_0)).trans hw178_0), ((HB.out.cell (World.block_lt_of_cell? w _ hw178_1)).trans hw178_1), ((HB.out.cell (World.block_lt_of_cell? w _ hw183_0)).trans hw183_0), ((HB.out.cell (World.block_lt_of_cell? w _ hw183_1)).trans hw183_1)⟩ (fun hHeld => ?_)
                            clear hK K
                            refine norm_ (a' := ?_) ?_ ?_
                            rotate_left
                            · show Act.put _ (some 55) _ = _
                              simp only [Act.put, List.setIfInBounds_toArray, List.set_cons_zero, List.set_cons_succ, i64_w, i32_w]
                              rfl
                            refine pure_ (i := 14) (N := some 56) (v := ?_) (a' := ?_) #[true, true, true, true, true, true, true, true, true, true, true, true, true, true, true] rfl rfl (any_of HT_.out (by kernel_rfl)) (fun _ _ _ h => h) (Or.inl ⟨by rfl, ?_⟩) ?_ ?_
                            rotate_left
                            · intro w'
                              go_simp
                              with_reducible rfl
                            rotate_left
                            · simp only [Act.put, List.setIfInBounds_toArray, List.set_cons_zero, List.set_cons_succ, i64_w, i32_w]
                              rfl
                            refine done_ (done_of HT_.out (by kernel_rfl)) ?_
                            try go_wp2
                            go_ret
                            exact ⟨by first | rfl | (simp [errW_none, errW_some] <;> rfl) | (simp [*, errW_none, errW_some] <;> rfl), by repeat (first | (with_reducible first | exact HB.out | apply below_alloc | apply pw_below_drewN | apply below_drew1 | refine below_set ?_ (IsS51.ge HI166.out) | refine below_set ?_ (IsS53.ge HI169.out)) | exact HB.out)⟩
                      case rest =>
                        clear HC17
                        try clear c1
                        try clear p1
                        try clear q1
                        try clear hx1
                        try clear c2
                        try clear p2
                        try clear c9
                        try clear c10
                        try clear c11
                        try clear c13
                        try clear c13b0
                        try clear c14
                        try clear c15
                        try clear c15b0
                        try clear c16
                        try clear c16b0
                        try clear p17
                        try clear q17
                        try clear hx17
                        try clear c18
                        try clear c18b0
                        try clear c18b1
                        try clear p18
                        try clear q18
                        try clear hx18
                        try clear c20
                        try clear c21
                        try clear c21b0
                        try clear c21b1
                        try clear c24
                        try clear c25
                        try clear c26
                        try clear c28
                        try clear c28b0
                        try clear c28b1
                        try clear hx170_0
                        try clear hx170_1
                        try clear hx178_0
                        try clear hx178_1
                        try clear hx183_0
                        try clear hx183_1
                        try clear p170
                        try clear p178
                        try clear p183
                        try clear p2
                        try clear q170
                        try clear q178
                        try clear q183
                        obtain ⟨kq, x167000_16, x167001_16, x167002_16, x170000_16, x170001_16, HA, HJ16, HI166, HI169, HB⟩ := hcut
                        cases kq with
                        | zero => exact absurd HA.out (by simp [billetlaw01_VarintReads.j3])
                        | succ kj16 =>
                          have H := HA.out
                          clear HA
                          simp only [billetlaw01_VarintReads.j3] at H
                          replace H := Option.bind_eq_some_iff.mp H
                          obtain ⟨⟨t187, t188, t189, t190⟩, A350, H⟩ := H
                          replace H : ((billetref01_Reader_Left.f x170000_16 x170001_16).bind fun bt191 => (if t187 = bt191.1 then ((varint_Reader_Bad.f t188 t189 t190).bind fun bt194 => ((billetref01_Reader_Bad.f bt191.2.1 bt191.2.2).bind fun bt198 => (if (bt194.1 != bt198.1) = true then (some false) else ((varint_Reader_Ends.f bt194.2.1 bt194.2.2.1 bt194.2.2.2).bind fun bt201 => ((billetref01_Reader_Ends.f bt198.2.1 bt198.2.2).bind fun bt205 => (if (bt201.1 != bt205.1) = true then (some false) else (billetlaw01_VarintReads.l0 kj16 l1 (wrap64 (x8_2 + 1)) bt201.2.1 bt201.2.2.1 bt201.2.2.2 bt205.2.1 bt205.2.2))))))) else (some false))) = some r := H
                          have A35 := Aside0.mk A350
                          clear A350
                          replace H := Option.bind_eq_some_iff.mp H
                          obtain ⟨⟨t191, t192, t193⟩, A360, H⟩ := H
                          replace H : (if t187 = t191 then ((varint_Reader_Bad.f t188 t189 t190).bind fun bt194 => ((billetref01_Reader_Bad.f t192 t193).bind fun bt198 => (if (bt194.1 != bt198.1) = true then (some false) else ((varint_Reader_Ends.f bt194.2.1 bt194.2.2.1 bt194.2.2.2).bind fun bt201 => ((billetref01_Reader_Ends.f bt198.2.1 bt198.2.2).bind fun bt205 => (if (bt201.1 != bt205.1) = true then (some false) else (billetlaw01_VarintReads.l0 kj16 l1 (wrap64 (x8_2 + 1)) bt201.2.1 bt201.2.2.1 bt201.2.2.2 bt205.2.1 bt205.2.2))))))) else (some false)) = some r := H
                          have A36 := Aside0.mk A360
                          clear A360
                          by_cases c37 : t187 = t191
                          · rw [if_pos c37] at H
                            have c37b0 : (t187 == t191) = true := beq_iff_eq.mpr c37
                            have c37b1 : (t187 != t191) = false := bne_eq_false_iff_eq.mpr c37
                            clear c37
                            replace H := Option.bind_eq_some_iff.mp H
                            obtain ⟨⟨t194, t195, t196, t197⟩, A380, H⟩ := H
                            replace H : ((billetref01_Reader_Bad.f t192 t193).bind fun bt198 => (if (t194 != bt198.1) = true then (some false) else ((varint_Reader_Ends.f t195 t196 t197).bind fun bt201 => ((billetref01_Reader_Ends.f bt198.2.1 bt198.2.2).bind fun bt205 => (if (bt201.1 != bt205.1) = true then (some false) else (billetlaw01_VarintReads.l0 kj16 l1 (wrap64 (x8_2 + 1)) bt201.2.1 bt201.2.2.1 bt201.2.2.2 bt205.2.1 bt205.2.2)))))) = some r := H
                            have A38 := Aside0.mk A380
                            clear A380
                            replace H := Option.bind_eq_some_iff.mp H
                            obtain ⟨⟨t198, t199, t200⟩, A390, H⟩ := H
                            replace H : (if (t194 != t198) = true then (some false) else ((varint_Reader_Ends.f t195 t196 t197).bind fun bt201 => ((billetref01_Reader_Ends.f t199 t200).bind fun bt205 => (if (bt201.1 != bt205.1) = true then (some false) else (billetlaw01_VarintReads.l0 kj16 l1 (wrap64 (x8_2 + 1)) bt201.2.1 bt201.2.2.1 bt201.2.2.2 bt205.2.1 bt205.2.2))))) = some r := H
                            have A39 := Aside0.mk A390
                            clear A390
                            by_cases c40 : (t194 != t198) = true
                            · rw [if_pos c40] at H
                              have c40b0 : (t194 != t198) = true := c40
                              (try (have c40b1 : decide (t194 = t198) = false := by simpa using c40))
                              (try (have c40b2 : (t194 == t198) = false := by simpa using c40))
                              (try (have c40b3 : ¬ (t194 = t198) := by simpa using c40))
                              clear c40
                              obtain rfl := Option.some.inj H
                              go_wp2_with (first | ((with_reducible refine gate_callee (f := 22) rfl ?_); refine goesL_ (some 58) rfl rfl Try.func22 (by kernel_rfl) rfl #[.pointer (some ⟨g166, 0, none⟩)] rfl (by (try simp only [List.map_toArray, List.map_cons, List.map_nil]); first | done | rfl | (simp only [List.length_drop, List.length_take]; rfl)) ?_; (with_reducible refine (varint_Reader_Left.calls g166 x167000_16 x167001_16 x167002_16 t187 t188 t189 t190 w _ ?side1 ?side2 A35.out).mono ?_); (case side1 => repeat (first | (with_reducible first | exact HI166.out | apply IsS51.alloc | apply IsS51.drewN | apply IsS51.drew | apply IsS51.set_0 | apply IsS51.set_1 | apply IsS51.set_2) | exact HI166.out)); (case side2 => repeat (first | (with_reducible first | exact HB.out | apply below_alloc | apply pw_below_drewN | apply below_drew1 | refine below_set ?_ (IsS51.ge HI166.out) | refine below_set ?_ (IsS53.ge HI169.out)) | exact HB.out)); rintro e w41 ⟨rfl, hi, hb, hk⟩; refine ⟨_, rfl, ?_⟩; have n0_ := Aside0.mk (IsS53.kept (show IsS53 w _ g169 x170000_16 x170001_16 from by repeat (first | (with_reducible first | exact HI169.out | apply IsS53.alloc | apply IsS53.drewN | apply IsS53.drew | apply IsS53.set_0 | apply IsS53.set_1) | exact HI169.out)) (⟨hk.1, fun i_ hi_ hs_ => hk.2 i_ hi_ hs_ (by simp)⟩ : Kept _ _ (fun k_ => k_ = g166)) (fun e_ => absurd e_ (IsS53.ne_blk (show IsS53 w _ g169 x170000_16 x170001_16 from by repeat (first | (with_reducible first | exact HI169.out | apply IsS53.alloc | apply IsS53.drewN | apply IsS53.drew | apply IsS53.set_0 | apply IsS53.set_1) | exact HI169.out)) (show IsS51 w _ g166 x167000_16 x167001_16 x167002_16 from by repeat (first | (with_reducible first | exact HI166.out | apply IsS51.alloc | apply IsS51.drewN | apply IsS51.drew | apply IsS51.set_0 | apply IsS51.set_1 | apply IsS51.set_2) | exact HI166.out)).1 (by decide)))); have n1_ := Aside0.mk (hb); have n2_ := Aside0.mk (hi); clear HI169; clear HB; clear HI166; have HI169 := n0_; have HB := n1_; have HI166 := n2_; clear n0_ n1_ n2_; (try clear hb); (try clear hb2); (try clear hk); (try clear hi)) | ((with_reducible refine gate_callee (f := 27) rfl ?_); refine goesL_ (some 60) rfl rfl Try.func27 (by kernel_rfl) rfl #[.pointer (some ⟨g169, 0, none⟩)] rfl (by (try simp only [List.map_toArray, List.map_cons, List.map_nil]); first | done | rfl | (simp only [List.length_drop, List.length_take]; rfl)) ?_; (with_reducible refine (billetref01_Reader_Left.calls g169 x170000_16 x170001_16 t191 t192 t193 w _ ?side1 ?side2 A36.out).mono ?_); (case side1 => repeat (first | (with_reducible first | exact HI169.out | apply IsS53.alloc | apply IsS53.drewN | apply IsS53.drew | apply IsS53.set_0 | apply IsS53.set_1) | exact HI169.out)); (case side2 => repeat (first | (with_reducible first | exact HB.out | apply below_alloc | apply pw_below_drewN | apply below_drew1 | refine below_set ?_ (IsS51.ge HI166.out) | refine below_set ?_ (IsS53.ge HI169.out)) | exact HB.out)); rintro e w42 ⟨rfl, hi, hb, hk⟩; refine ⟨_, rfl, ?_⟩; have n0_ := Aside0.mk (IsS51.kept (show IsS51 w _ g166 t188 t189 t190 from by repeat (first | (with_reducible first | exact HI166.out | apply IsS51.alloc | apply IsS51.drewN | apply IsS51.drew | apply IsS51.set_0 | apply IsS51.set_1 | apply IsS51.set_2) | exact HI166.out)) (⟨hk.1, fun i_ hi_ hs_ => hk.2 i_ hi_ hs_ (by simp)⟩ : Kept _ _ (fun k_ => k_ = g169)) (fun e_ => absurd e_ (IsS51.ne_blk (show IsS51 w _ g166 t188 t189 t190 from by repeat (first | (with_reducible first | exact HI166.out | apply IsS51.alloc | apply IsS51.drewN | apply IsS51.drew | apply IsS51.set_0 | apply IsS51.set_1 | apply IsS51.set_2) | exact HI166.out)) (show IsS53 w _ g169 x170000_16 x170001_16 from by repeat (first | (with_reducible first | exact HI169.out | apply IsS53.alloc | apply IsS53.drewN | apply IsS53.drew | apply IsS53.set_0 | apply IsS53.set_1) | exact HI169.out)).1 (by decide)))); have n1_ := Aside0.mk (hb); have n2_ := Aside0.mk (hi); clear HI166; clear HB; clear HI169; have HI166 := n0_; have HB := n1_; have HI169 := n2_; clear n0_ n1_ n2_; (try clear hb); (try clear hb2); (try clear hk); (try clear hi)) | (go_at_call 21; (with_reducible refine (varint_Reader_Bad.calls g166 t188 t189 t190 t194 t195 t196 t197 w _ ?side1 ?side2 A38.out).mono ?_); (case side1 => repeat (first | (with_reducible first | exact HI166.out | apply IsS51.alloc | apply IsS51.drewN | apply IsS51.drew | apply IsS51.set_0 | apply IsS51.set_1 | apply IsS51.set_2) | exact HI166.out)); (case side2 => repeat (first | (with_reducible first | exact HB.out | apply below_alloc | apply pw_below_drewN | apply below_drew1 | refine below_set ?_ (IsS51.ge HI166.out) | refine below_set ?_ (IsS53.ge HI169.out)) | exact HB.out)); rintro e w43 ⟨rfl, hi, hb, hk⟩; have n0_ := Aside0.mk (IsS53.kept (show IsS53 w _ g169 t192 t193 from by repeat (first | (with_reducible first | exact HI169.out | apply IsS53.alloc | apply IsS53.drewN | apply IsS53.drew | apply IsS53.set_0 | apply IsS53.set_1) | exact HI169.out)) (⟨hk.1, fun i_ hi_ hs_ => hk.2 i_ hi_ hs_ (by simp)⟩ : Kept _ _ (fun k_ => k_ = g166)) (fun e_ => absurd e_ (IsS53.ne_blk (show IsS53 w _ g169 t192 t193 from by repeat (first | (with_reducible first | exact HI169.out | apply IsS53.alloc | apply IsS53.drewN | apply IsS53.drew | apply IsS53.set_0 | apply IsS53.set_1) | exact HI169.out)) (show IsS51 w _ g166 t188 t189 t190 from by repeat (first | (with_reducible first | exact HI166.out | apply IsS51.alloc | apply IsS51.drewN | apply IsS51.drew | apply IsS51.set_0 | apply IsS51.set_1 | apply IsS51.set_2) | exact HI166.out)).1 (by decide)))); have n1_ := Aside0.mk (hb); have n2_ := Aside0.mk (hi); clear HI169; clear HB; clear HI166; have HI169 := n0_; have HB := n1_; have HI166 := n2_; clear n0_ n1_ n2_; (try clear hb); (try clear hb2); (try clear hk); (try clear hi)) | (go_at_call 28; (with_reducible refine (billetref01_Reader_Bad.calls g169 t192 t193 t198 t199 t200 w _ ?side1 ?side2 A39.out).mono ?_); (case side1 => repeat (first | (with_reducible first | exact HI169.out | apply IsS53.alloc | apply IsS53.drewN | apply IsS53.drew | apply IsS53.set_0 | apply IsS53.set_1) | exact HI169.out)); (case side2 => repeat (first | (with_reducible first | exact HB.out | apply below_alloc | apply pw_below_drewN | apply below_drew1 | refine below_set ?_ (IsS51.ge HI166.out) | refine below_set ?_ (IsS53.ge HI169.out)) | exact HB.out)); rintro e w44 ⟨rfl, hi, hb, hk⟩; have n0_ := Aside0.mk (IsS51.kept (show IsS51 w _ g166 t195 t196 t197 from by repeat (first | (with_reducible first | exact HI166.out | apply IsS51.alloc | apply IsS51.drewN | apply IsS51.drew | apply IsS51.set_0 | apply IsS51.set_1 | apply IsS51.set_2) | exact HI166.out)) (⟨hk.1, fun i_ hi_ hs_ => hk.2 i_ hi_ hs_ (by simp)⟩ : Kept _ _ (fun k_ => k_ = g169)) (fun e_ => absurd e_ (IsS51.ne_blk (show IsS51 w _ g166 t195 t196 t197 from by repeat (first | (with_reducible first | exact HI166.out | apply IsS51.alloc | apply IsS51.drewN | apply IsS51.drew | apply IsS51.set_0 | apply IsS51.set_1 | apply IsS51.set_2) | exact HI166.out)) (show IsS53 w _ g169 t192 t193 from by repeat (first | (with_reducible first | exact HI169.out | apply IsS53.alloc | apply IsS53.drewN | apply IsS53.drew | apply IsS53.set_0 | apply IsS53.set_1) | exact HI169.out)).1 (by decide)))); have n1_ := Aside0.mk (hb); have n2_ := Aside0.mk (hi); clear HI166; clear HB; clear HI169; have HI166 := n0_; have HB := n1_; have HI169 := n2_; clear n0_ n1_ n2_; (try clear hb); (try clear hb2); (try clear hk); (try clear hi)))
                              go_ret
                              exact ⟨by first | rfl | (simp [errW_none, errW_some] <;> rfl) | (simp [*, errW_none, errW_some] <;> rfl), by repeat (first | (with_reducible first | exact HB.out | apply below_alloc | apply pw_below_drewN | apply below_drew1 | refine below_set ?_ (IsS51.ge HI166.out) | refine below_set ?_ (IsS53.ge HI169.out)) | exact HB.out)⟩
                            · rw [if_neg c40] at H
                              have c40b0 : (t194 != t198) = false := by simpa using c40
                              (try (have c40b1 : decide (t194 = t198) = true := by simpa using c40))
                              (try (have c40b2 : (t194 == t198) = true := by simpa using c40))
                              clear c40
                              replace H := Option.bind_eq_some_iff.mp H
                              obtain ⟨⟨t201, t202, t203, t204⟩, A450, H⟩ := H
                              replace H : ((billetref01_Reader_Ends.f t199 t200).bind fun bt205 => (if (t201 != bt205.1) = true then (some false) else (billetlaw01_VarintReads.l0 kj16 l1 (wrap64 (x8_2 + 1)) t202 t203 t204 bt205.2.1 bt205.2.2))) = some r := H
                              have A45 := Aside0.mk A450
                              clear A450
                              replace H := Option.bind_eq_some_iff.mp H
                              obtain ⟨⟨t205, t206, t207⟩, A460, H⟩ := H
                              replace H : (if (t201 != t205) = true then (some false) else (billetlaw01_VarintReads.l0 kj16 l1 (wrap64 (x8_2 + 1)) t202 t203 t204 t206 t207)) = some r := H
                              have A46 := Aside0.mk A460
                              clear A460
                              by_cases c47 : (t201 != t205) = true
                              · rw [if_pos c47] at H
                                have c47b0 : (t201 != t205) = true := c47
                                (try (have c47b1 : decide (t201 = t205) = false := by simpa using c47))
                                (try (have c47b2 : (t201 == t205) = false := by simpa using c47))
                                (try (have c47b3 : ¬ (t201 = t205) := by simpa using c47))
                                clear c47
                                obtain rfl := Option.some.inj H
                                go_wp2_with (first | ((with_reducible refine gate_callee (f := 22) rfl ?_); refine goesL_ (some 58) rfl rfl Try.func22 (by kernel_rfl) rfl #[.pointer (some ⟨g166, 0, none⟩)] rfl (by (try simp only [List.map_toArray, List.map_cons, List.map_nil]); first | done | rfl | (simp only [List.length_drop, List.length_take]; rfl)) ?_; (with_reducible refine (varint_Reader_Left.calls g166 x167000_16 x167001_16 x167002_16 t187 t188 t189 t190 w _ ?side1 ?side2 A35.out).mono ?_); (case side1 => repeat (first | (with_reducible first | exact HI166.out | apply IsS51.alloc | apply IsS51.drewN | apply IsS51.drew | apply IsS51.set_0 | apply IsS51.set_1 | apply IsS51.set_2) | exact HI166.out)); (case side2 => repeat (first | (with_reducible first | exact HB.out | apply below_alloc | apply pw_below_drewN | apply below_drew1 | refine below_set ?_ (IsS51.ge HI166.out) | refine below_set ?_ (IsS53.ge HI169.out)) | exact HB.out)); rintro e w48 ⟨rfl, hi, hb, hk⟩; refine ⟨_, rfl, ?_⟩; have n0_ := Aside0.mk (IsS53.kept (show IsS53 w _ g169 x170000_16 x170001_16 from by repeat (first | (with_reducible first | exact HI169.out | apply IsS53.alloc | apply IsS53.drewN | apply IsS53.drew | apply IsS53.set_0 | apply IsS53.set_1) | exact HI169.out)) (⟨hk.1, fun i_ hi_ hs_ => hk.2 i_ hi_ hs_ (by simp)⟩ : Kept _ _ (fun k_ => k_ = g166)) (fun e_ => absurd e_ (IsS53.ne_blk (show IsS53 w _ g169 x170000_16 x170001_16 from by repeat (first | (with_reducible first | exact HI169.out | apply IsS53.alloc | apply IsS53.drewN | apply IsS53.drew | apply IsS53.set_0 | apply IsS53.set_1) | exact HI169.out)) (show IsS51 w _ g166 x167000_16 x167001_16 x167002_16 from by repeat (first | (with_reducible first | exact HI166.out | apply IsS51.alloc | apply IsS51.drewN | apply IsS51.drew | apply IsS51.set_0 | apply IsS51.set_1 | apply IsS51.set_2) | exact HI166.out)).1 (by decide)))); have n1_ := Aside0.mk (hb); have n2_ := Aside0.mk (hi); clear HI169; clear HB; clear HI166; have HI169 := n0_; have HB := n1_; have HI166 := n2_; clear n0_ n1_ n2_; (try clear hb); (try clear hb2); (try clear hk); (try clear hi)) | ((with_reducible refine gate_callee (f := 27) rfl ?_); refine goesL_ (some 60) rfl rfl Try.func27 (by kernel_rfl) rfl #[.pointer (some ⟨g169, 0, none⟩)] rfl (by (try simp only [List.map_toArray, List.map_cons, List.map_nil]); first | done | rfl | (simp only [List.length_drop, List.length_take]; rfl)) ?_; (with_reducible refine (billetref01_Reader_Left.calls g169 x170000_16 x170001_16 t191 t192 t193 w _ ?side1 ?side2 A36.out).mono ?_); (case side1 => repeat (first | (with_reducible first | exact HI169.out | apply IsS53.alloc | apply IsS53.drewN | apply IsS53.drew | apply IsS53.set_0 | apply IsS53.set_1) | exact HI169.out)); (case side2 => repeat (first | (with_reducible first | exact HB.out | apply below_alloc | apply pw_below_drewN | apply below_drew1 | refine below_set ?_ (IsS51.ge HI166.out) | refine below_set ?_ (IsS53.ge HI169.out)) | exact HB.out)); rintro e w49 ⟨rfl, hi, hb, hk⟩; refine ⟨_, rfl, ?_⟩; have n0_ := Aside0.mk (IsS51.kept (show IsS51 w _ g166 t188 t189 t190 from by repeat (first | (with_reducible first | exact HI166.out | apply IsS51.alloc | apply IsS51.drewN | apply IsS51.drew | apply IsS51.set_0 | apply IsS51.set_1 | apply IsS51.set_2) | exact HI166.out)) (⟨hk.1, fun i_ hi_ hs_ => hk.2 i_ hi_ hs_ (by simp)⟩ : Kept _ _ (fun k_ => k_ = g169)) (fun e_ => absurd e_ (IsS51.ne_blk (show IsS51 w _ g166 t188 t189 t190 from by repeat (first | (with_reducible first | exact HI166.out | apply IsS51.alloc | apply IsS51.drewN | apply IsS51.drew | apply IsS51.set_0 | apply IsS51.set_1 | apply IsS51.set_2) | exact HI166.out)) (show IsS53 w _ g169 x170000_16 x170001_16 from by repeat (first | (with_reducible first | exact HI169.out | apply IsS53.alloc | apply IsS53.drewN | apply IsS53.drew | apply IsS53.set_0 | apply IsS53.set_1) | exact HI169.out)).1 (by decide)))); have n1_ := Aside0.mk (hb); have n2_ := Aside0.mk (hi); clear HI166; clear HB; clear HI169; have HI166 := n0_; have HB := n1_; have HI169 := n2_; clear n0_ n1_ n2_; (try clear hb); (try clear hb2); (try clear hk); (try clear hi)) | (go_at_call 21; (with_reducible refine (varint_Reader_Bad.calls g166 t188 t189 t190 t194 t195 t196 t197 w _ ?side1 ?side2 A38.out).mono ?_); (case side1 => repeat (first | (with_reducible first | exact HI166.out | apply IsS51.alloc | apply IsS51.drewN | apply IsS51.drew | apply IsS51.set_0 | apply IsS51.set_1 | apply IsS51.set_2) | exact HI166.out)); (case side2 => repeat (first | (with_reducible first | exact HB.out | apply below_alloc | apply pw_below_drewN | apply below_drew1 | refine below_set ?_ (IsS51.ge HI166.out) | refine below_set ?_ (IsS53.ge HI169.out)) | exact HB.out)); rintro e w50 ⟨rfl, hi, hb, hk⟩; have n0_ := Aside0.mk (IsS53.kept (show IsS53 w _ g169 t192 t193 from by repeat (first | (with_reducible first | exact HI169.out | apply IsS53.alloc | apply IsS53.drewN | apply IsS53.drew | apply IsS53.set_0 | apply IsS53.set_1) | exact HI169.out)) (⟨hk.1, fun i_ hi_ hs_ => hk.2 i_ hi_ hs_ (by simp)⟩ : Kept _ _ (fun k_ => k_ = g166)) (fun e_ => absurd e_ (IsS53.ne_blk (show IsS53 w _ g169 t192 t193 from by repeat (first | (with_reducible first | exact HI169.out | apply IsS53.alloc | apply IsS53.drewN | apply IsS53.drew | apply IsS53.set_0 | apply IsS53.set_1) | exact HI169.out)) (show IsS51 w _ g166 t188 t189 t190 from by repeat (first | (with_reducible first | exact HI166.out | apply IsS51.alloc | apply IsS51.drewN | apply IsS51.drew | apply IsS51.set_0 | apply IsS51.set_1 | apply IsS51.set_2) | exact HI166.out)).1 (by decide)))); have n1_ := Aside0.mk (hb); have n2_ := Aside0.mk (hi); clear HI169; clear HB; clear HI166; have HI169 := n0_; have HB := n1_; have HI166 := n2_; clear n0_ n1_ n2_; (try clear hb); (try clear hb2); (try clear hk); (try clear hi)) | (go_at_call 28; (with_reducible refine (billetref01_Reader_Bad.calls g169 t192 t193 t198 t199 t200 w _ ?side1 ?side2 A39.out).mono ?_); (case side1 => repeat (first | (with_reducible first | exact HI169.out | apply IsS53.alloc | apply IsS53.drewN | apply IsS53.drew | apply IsS53.set_0 | apply IsS53.set_1) | exact HI169.out)); (case side2 => repeat (first | (with_reducible first | exact HB.out | apply below_alloc | apply pw_below_drewN | apply below_drew1 | refine below_set ?_ (IsS51.ge HI166.out) | refine below_set ?_ (IsS53.ge HI169.out)) | exact HB.out)); rintro e w51 ⟨rfl, hi, hb, hk⟩; have n0_ := Aside0.mk (IsS51.kept (show IsS51 w _ g166 t195 t196 t197 from by repeat (first | (with_reducible first | exact HI166.out | apply IsS51.alloc | apply IsS51.drewN | apply IsS51.drew | apply IsS51.set_0 | apply IsS51.set_1 | apply IsS51.set_2) | exact HI166.out)) (⟨hk.1, fun i_ hi_ hs_ => hk.2 i_ hi_ hs_ (by simp)⟩ : Kept _ _ (fun k_ => k_ = g169)) (fun e_ => absurd e_ (IsS51.ne_blk (show IsS51 w _ g166 t195 t196 t197 from by repeat (first | (with_reducible first | exact HI166.out | apply IsS51.alloc | apply IsS51.drewN | apply IsS51.drew | apply IsS51.set_0 | apply IsS51.set_1 | apply IsS51.set_2) | exact HI166.out)) (show IsS53 w _ g169 t192 t193 from by repeat (first | (with_reducible first | exact HI169.out | apply IsS53.alloc | apply IsS53.drewN | apply IsS53.drew | apply IsS53.set_0 | apply IsS53.set_1) | exact HI169.out)).1 (by decide)))); have n1_ := Aside0.mk (hb); have n2_ := Aside0.mk (hi); clear HI166; clear HB; clear HI169; have HI166 := n0_; have HB := n1_; have HI169 := n2_; clear n0_ n1_ n2_; (try clear hb); (try clear hb2); (try clear hk); (try clear hi)) | (go_at_call 29; (with_reducible refine (varint_Reader_Ends.calls g166 t195 t196 t197 t201 t202 t203 t204 w _ ?side1 ?side2 A45.out).mono ?_); (case side1 => repeat (first | (with_reducible first | exact HI166.out | apply IsS51.alloc | apply IsS51.drewN | apply IsS51.drew | apply IsS51.set_0 | apply IsS51.set_1 | apply IsS51.set_2) | exact HI166.out)); (case side2 => repeat (first | (with_reducible first | exact HB.out | apply below_alloc | apply pw_below_drewN | apply below_drew1 | refine below_set ?_ (IsS51.ge HI166.out) | refine below_set ?_ (IsS53.ge HI169.out)) | exact HB.out)); rintro e w52 ⟨rfl, hi, hb, hk⟩; have n0_ := Aside0.mk (IsS53.kept (show IsS53 w _ g169 t199 t200 from by repeat (first | (with_reducible first | exact HI169.out | apply IsS53.alloc | apply IsS53.drewN | apply IsS53.drew | apply IsS53.set_0 | apply IsS53.set_1) | exact HI169.out)) (⟨hk.1, fun i_ hi_ hs_ => hk.2 i_ hi_ hs_ (by simp)⟩ : Kept _ _ (fun k_ => k_ = g166)) (fun e_ => absurd e_ (IsS53.ne_blk (show IsS53 w _ g169 t199 t200 from by repeat (first | (with_reducible first | exact HI169.out | apply IsS53.alloc | apply IsS53.drewN | apply IsS53.drew | apply IsS53.set_0 | apply IsS53.set_1) | exact HI169.out)) (show IsS51 w _ g166 t195 t196 t197 from by repeat (first | (with_reducible first | exact HI166.out | apply IsS51.alloc | apply IsS51.drewN | apply IsS51.drew | apply IsS51.set_0 | apply IsS51.set_1 | apply IsS51.set_2) | exact HI166.out)).1 (by decide)))); have n1_ := Aside0.mk (hb); have n2_ := Aside0.mk (hi); clear HI169; clear HB; clear HI166; have HI169 := n0_; have HB := n1_; have HI166 := n2_; clear n0_ n1_ n2_; (try clear hb); (try clear hb2); (try clear hk); (try clear hi)) | (go_at_call 30; (with_reducible refine (billetref01_Reader_Ends.calls g169 t199 t200 t205 t206 t207 w _ ?side1 ?side2 A46.out).mono ?_); (case side1 => repeat (first | (with_reducible first | exact HI169.out | apply IsS53.alloc | apply IsS53.drewN | apply IsS53.drew | apply IsS53.set_0 | apply IsS53.set_1) | exact HI169.out)); (case side2 => repeat (first | (with_reducible first | exact HB.out | apply below_alloc | apply pw_below_drewN | apply below_drew1 | refine below_set ?_ (IsS51.ge HI166.out) | refine below_set ?_ (IsS53.ge HI169.out)) | exact HB.out)); rintro e w53 ⟨rfl, hi, hb, hk⟩; have n0_ := Aside0.mk (IsS51.kept (show IsS51 w _ g166 t202 t203 t204 from by repeat (first | (with_reducible first | exact HI166.out | apply IsS51.alloc | apply IsS51.drewN | apply IsS51.drew | apply IsS51.set_0 | apply IsS51.set_1 | apply IsS51.set_2) | exact HI166.out)) (⟨hk.1, fun i_ hi_ hs_ => hk.2 i_ hi_ hs_ (by simp)⟩ : Kept _ _ (fun k_ => k_ = g169)) (fun e_ => absurd e_ (IsS51.ne_blk (show IsS51 w _ g166 t202 t203 t204 from by repeat (first | (with_reducible first | exact HI166.out | apply IsS51.alloc | apply IsS51.drewN | apply IsS51.drew | apply IsS51.set_0 | apply IsS51.set_1 | apply IsS51.set_2) | exact HI166.out)) (show IsS53 w _ g169 t199 t200 from by repeat (first | (with_reducible first | exact HI169.out | apply IsS53.alloc | apply IsS53.drewN | apply IsS53.drew | apply IsS53.set_0 | apply IsS53.set_1) | exact HI169.out)).1 (by decide)))); have n1_ := Aside0.mk (hb); have n2_ := Aside0.mk (hi); clear HI166; clear HB; clear HI169; have HI166 := n0_; have HB := n1_; have HI169 := n2_; clear n0_ n1_ n2_; (try clear hb); (try clear hb2); (try clear hk); (try clear hi)))
                                go_ret
                                exact ⟨by first | rfl | (simp [errW_none, errW_some] <;> rfl) | (simp [*, errW_none, errW_some] <;> rfl), by repeat (first | (with_reducible first | exact HB.out | apply below_alloc | apply pw_below_drewN | apply below_drew1 | refine below_set ?_ (IsS51.ge HI166.out) | refine below_set ?_ (IsS53.ge HI169.out)) | exact HB.out)⟩
                              · rw [if_neg c47] at H
                                have c47b0 : (t201 != t205) = false := by simpa using c47
                                (try (have c47b1 : decide (t201 = t205) = true := by simpa using c47))
                                (try (have c47b2 : (t201 == t205) = true := by simpa using c47))
                                clear c47
                                have H' := Aside0.mk H
                                clear H
                                go_wp2_with (first | ((with_reducible refine gate_callee (f := 22) rfl ?_); refine goesL_ (some 58) rfl rfl Try.func22 (by kernel_rfl) rfl #[.pointer (some ⟨g166, 0, none⟩)] rfl (by (try simp only [List.map_toArray, List.map_cons, List.map_nil]); first | done | rfl | (simp only [List.length_drop, List.length_take]; rfl)) ?_; (with_reducible refine (varint_Reader_Left.calls g166 x167000_16 x167001_16 x167002_16 t187 t188 t189 t190 w _ ?side1 ?side2 A35.out).mono ?_); (case side1 => repeat (first | (with_reducible first | exact HI166.out | apply IsS51.alloc | apply IsS51.drewN | apply IsS51.drew | apply IsS51.set_0 | apply IsS51.set_1 | apply IsS51.set_2) | exact HI166.out)); (case side2 => repeat (first | (with_reducible first | exact HB.out | apply below_alloc | apply pw_below_drewN | apply below_drew1 | refine below_set ?_ (IsS51.ge HI166.out) | refine below_set ?_ (IsS53.ge HI169.out)) | exact HB.out)); rintro e w54 ⟨rfl, hi, hb, hk⟩; refine ⟨_, rfl, ?_⟩; have n0_ := Aside0.mk (IsS53.kept (show IsS53 w _ g169 x170000_16 x170001_16 from by repeat (first | (with_reducible first | exact HI169.out | apply IsS53.alloc | apply IsS53.drewN | apply IsS53.drew | apply IsS53.set_0 | apply IsS53.set_1) | exact HI169.out)) (⟨hk.1, fun i_ hi_ hs_ => hk.2 i_ hi_ hs_ (by simp)⟩ : Kept _ _ (fun k_ => k_ = g166)) (fun e_ => absurd e_ (IsS53.ne_blk (show IsS53 w _ g169 x170000_16 x170001_16 from by repeat (first | (with_reducible first | exact HI169.out | apply IsS53.alloc | apply IsS53.drewN | apply IsS53.drew | apply IsS53.set_0 | apply IsS53.set_1) | exact HI169.out)) (show IsS51 w _ g166 x167000_16 x167001_16 x167002_16 from by repeat (first | (with_reducible first | exact HI166.out | apply IsS51.alloc | apply IsS51.drewN | apply IsS51.drew | apply IsS51.set_0 | apply IsS51.set_1 | apply IsS51.set_2) | exact HI166.out)).1 (by decide)))); have n1_ := Aside0.mk (hb); have n2_ := Aside0.mk (hi); clear HI169; clear HB; clear HI166; have HI169 := n0_; have HB := n1_; have HI166 := n2_; clear n0_ n1_ n2_; (try clear hb); (try clear hb2); (try clear hk); (try clear hi)) | ((with_reducible refine gate_callee (f := 27) rfl ?_); refine goesL_ (some 60) rfl rfl Try.func27 (by kernel_rfl) rfl #[.pointer (some ⟨g169, 0, none⟩)] rfl (by (try simp only [List.map_toArray, List.map_cons, List.map_nil]); first | done | rfl | (simp only [List.length_drop, List.length_take]; rfl)) ?_; (with_reducible refine (billetref01_Reader_Left.calls g169 x170000_16 x170001_16 t191 t192 t193 w _ ?side1 ?side2 A36.out).mono ?_); (case side1 => repeat (first | (with_reducible first | exact HI169.out | apply IsS53.alloc | apply IsS53.drewN | apply IsS53.drew | apply IsS53.set_0 | apply IsS53.set_1) | exact HI169.out)); (case side2 => repeat (first | (with_reducible first | exact HB.out | apply below_alloc | apply pw_below_drewN | apply below_drew1 | refine below_set ?_ (IsS51.ge HI166.out) | refine below_set ?_ (IsS53.ge HI169.out)) | exact HB.out)); rintro e w55 ⟨rfl, hi, hb, hk⟩; refine ⟨_, rfl, ?_⟩; have n0_ := Aside0.mk (IsS51.kept (show IsS51 w _ g166 t188 t189 t190 from by repeat (first | (with_reducible first | exact HI166.out | apply IsS51.alloc | apply IsS51.drewN | apply IsS51.drew | apply IsS51.set_0 | apply IsS51.set_1 | apply IsS51.set_2) | exact HI166.out)) (⟨hk.1, fun i_ hi_ hs_ => hk.2 i_ hi_ hs_ (by simp)⟩ : Kept _ _ (fun k_ => k_ = g169)) (fun e_ => absurd e_ (IsS51.ne_blk (show IsS51 w _ g166 t188 t189 t190 from by repeat (first | (with_reducible first | exact HI166.out | apply IsS51.alloc | apply IsS51.drewN | apply IsS51.drew | apply IsS51.set_0 | apply IsS51.set_1 | apply IsS51.set_2) | exact HI166.out)) (show IsS53 w _ g169 x170000_16 x170001_16 from by repeat (first | (with_reducible first | exact HI169.out | apply IsS53.alloc | apply IsS53.drewN | apply IsS53.drew | apply IsS53.set_0 | apply IsS53.set_1) | exact HI169.out)).1 (by decide)))); have n1_ := Aside0.mk (hb); have n2_ := Aside0.mk (hi); clear HI166; clear HB; clear HI169; have HI166 := n0_; have HB := n1_; have HI169 := n2_; clear n0_ n1_ n2_; (try clear hb); (try clear hb2); (try clear hk); (try clear hi)) | (go_at_call 21; (with_reducible refine (varint_Reader_Bad.calls g166 t188 t189 t190 t194 t195 t196 t197 w _ ?side1 ?side2 A38.out).mono ?_); (case side1 => repeat (first | (with_reducible first | exact HI166.out | apply IsS51.alloc | apply IsS51.drewN | apply IsS51.drew | apply IsS51.set_0 | apply IsS51.set_1 | apply IsS51.set_2) | exact HI166.out)); (case side2 => repeat (first | (with_reducible first | exact HB.out | apply below_alloc | apply pw_below_drewN | apply below_drew1 | refine below_set ?_ (IsS51.ge HI166.out) | refine below_set ?_ (IsS53.ge HI169.out)) | exact HB.out)); rintro e w56 ⟨rfl, hi, hb, hk⟩; have n0_ := Aside0.mk (IsS53.kept (show IsS53 w _ g169 t192 t193 from by repeat (first | (with_reducible first | exact HI169.out | apply IsS53.alloc | apply IsS53.drewN | apply IsS53.drew | apply IsS53.set_0 | apply IsS53.set_1) | exact HI169.out)) (⟨hk.1, fun i_ hi_ hs_ => hk.2 i_ hi_ hs_ (by simp)⟩ : Kept _ _ (fun k_ => k_ = g166)) (fun e_ => absurd e_ (IsS53.ne_blk (show IsS53 w _ g169 t192 t193 from by repeat (first | (with_reducible first | exact HI169.out | apply IsS53.alloc | apply IsS53.drewN | apply IsS53.drew | apply IsS53.set_0 | apply IsS53.set_1) | exact HI169.out)) (show IsS51 w _ g166 t188 t189 t190 from by repeat (first | (with_reducible first | exact HI166.out | apply IsS51.alloc | apply IsS51.drewN | apply IsS51.drew | apply IsS51.set_0 | apply IsS51.set_1 | apply IsS51.set_2) | exact HI166.out)).1 (by decide)))); have n1_ := Aside0.mk (hb); have n2_ := Aside0.mk (hi); clear HI169; clear HB; clear HI166; have HI169 := n0_; have HB := n1_; have HI166 := n2_; clear n0_ n1_ n2_; (try clear hb); (try clear hb2); (try clear hk); (try clear hi)) | (go_at_call 28; (with_reducible refine (billetref01_Reader_Bad.calls g169 t192 t193 t198 t199 t200 w _ ?side1 ?side2 A39.out).mono ?_); (case side1 => repeat (first | (with_reducible first | exact HI169.out | apply IsS53.alloc | apply IsS53.drewN | apply IsS53.drew | apply IsS53.set_0 | apply IsS53.set_1) | exact HI169.out)); (case side2 => repeat (first | (with_reducible first | exact HB.out | apply below_alloc | apply pw_below_drewN | apply below_drew1 | refine below_set ?_ (IsS51.ge HI166.out) | refine below_set ?_ (IsS53.ge HI169.out)) | exact HB.out)); rintro e w57 ⟨rfl, hi, hb, hk⟩; have n0_ := Aside0.mk (IsS51.kept (show IsS51 w _ g166 t195 t196 t197 from by repeat (first | (with_reducible first | exact HI166.out | apply IsS51.alloc | apply IsS51.drewN | apply IsS51.drew | apply IsS51.set_0 | apply IsS51.set_1 | apply IsS51.set_2) | exact HI166.out)) (⟨hk.1, fun i_ hi_ hs_ => hk.2 i_ hi_ hs_ (by simp)⟩ : Kept _ _ (fun k_ => k_ = g169)) (fun e_ => absurd e_ (IsS51.ne_blk (show IsS51 w _ g166 t195 t196 t197 from by repeat (first | (with_reducible first | exact HI166.out | apply IsS51.alloc | apply IsS51.drewN | apply IsS51.drew | apply IsS51.set_0 | apply IsS51.set_1 | apply IsS51.set_2) | exact HI166.out)) (show IsS53 w _ g169 t192 t193 from by repeat (first | (with_reducible first | exact HI169.out | apply IsS53.alloc | apply IsS53.drewN | apply IsS53.drew | apply IsS53.set_0 | apply IsS53.set_1) | exact HI169.out)).1 (by decide)))); have n1_ := Aside0.mk (hb); have n2_ := Aside0.mk (hi); clear HI166; clear HB; clear HI169; have HI166 := n0_; have HB := n1_; have HI169 := n2_; clear n0_ n1_ n2_; (try clear hb); (try clear hb2); (try clear hk); (try clear hi)) | (go_at_call 29; (with_reducible refine (varint_Reader_Ends.calls g166 t195 t196 t197 t201 t202 t203 t204 w _ ?side1 ?side2 A45.out).mono ?_); (case side1 => repeat (first | (with_reducible first | exact HI166.out | apply IsS51.alloc | apply IsS51.drewN | apply IsS51.drew | apply IsS51.set_0 | apply IsS51.set_1 | apply IsS51.set_2) | exact HI166.out)); (case side2 => repeat (first | (with_reducible first | exact HB.out | apply below_alloc | apply pw_below_drewN | apply below_drew1 | refine below_set ?_ (IsS51.ge HI166.out) | refine below_set ?_ (IsS53.ge HI169.out)) | exact HB.out)); rintro e w58 ⟨rfl, hi, hb, hk⟩; have n0_ := Aside0.mk (IsS53.kept (show IsS53 w _ g169 t199 t200 from by repeat (first | (with_reducible first | exact HI169.out | apply IsS53.alloc | apply IsS53.drewN | apply IsS53.drew | apply IsS53.set_0 | apply IsS53.set_1) | exact HI169.out)) (⟨hk.1, fun i_ hi_ hs_ => hk.2 i_ hi_ hs_ (by simp)⟩ : Kept _ _ (fun k_ => k_ = g166)) (fun e_ => absurd e_ (IsS53.ne_blk (show IsS53 w _ g169 t199 t200 from by repeat (first | (with_reducible first | exact HI169.out | apply IsS53.alloc | apply IsS53.drewN | apply IsS53.drew | apply IsS53.set_0 | apply IsS53.set_1) | exact HI169.out)) (show IsS51 w _ g166 t195 t196 t197 from by repeat (first | (with_reducible first | exact HI166.out | apply IsS51.alloc | apply IsS51.drewN | apply IsS51.drew | apply IsS51.set_0 | apply IsS51.set_1 | apply IsS51.set_2) | exact HI166.out)).1 (by decide)))); have n1_ := Aside0.mk (hb); have n2_ := Aside0.mk (hi); clear HI169; clear HB; clear HI166; have HI169 := n0_; have HB := n1_; have HI166 := n2_; clear n0_ n1_ n2_; (try clear hb); (try clear hb2); (try clear hk); (try clear hi)) | (go_at_call 30; (with_reducible refine (billetref01_Reader_Ends.calls g169 t199 t200 t205 t206 t207 w _ ?side1 ?side2 A46.out).mono ?_); (case side1 => repeat (first | (with_reducible first | exact HI169.out | apply IsS53.alloc | apply IsS53.drewN | apply IsS53.drew | apply IsS53.set_0 | apply IsS53.set_1) | exact HI169.out)); (case side2 => repeat (first | (with_reducible first | exact HB.out | apply below_alloc | apply pw_below_drewN | apply below_drew1 | refine below_set ?_ (IsS51.ge HI166.out) | refine below_set ?_ (IsS53.ge HI169.out)) | exact HB.out)); rintro e w59 ⟨rfl, hi, hb, hk⟩; have n0_ := Aside0.mk (IsS51.kept (show IsS51 w _ g166 t202 t203 t204 from by repeat (first | (with_reducible first | exact HI166.out | apply IsS51.alloc | apply IsS51.drewN | apply IsS51.drew | apply IsS51.set_0 | apply IsS51.set_1 | apply IsS51.set_2) | exact HI166.out)) (⟨hk.1, fun i_ hi_ hs_ => hk.2 i_ hi_ hs_ (by simp)⟩ : Kept _ _ (fun k_ => k_ = g169)) (fun e_ => absurd e_ (IsS51.ne_blk (show IsS51 w _ g166 t202 t203 t204 from by repeat (first | (with_reducible first | exact HI166.out | apply IsS51.alloc | apply IsS51.drewN | apply IsS51.drew | apply IsS51.set_0 | apply IsS51.set_1 | apply IsS51.set_2) | exact HI166.out)) (show IsS53 w _ g169 t199 t200 from by repeat (first | (with_reducible first | exact HI169.out | apply IsS53.alloc | apply IsS53.drewN | apply IsS53.drew | apply IsS53.set_0 | apply IsS53.set_1) | exact HI169.out)).1 (by decide)))); have n1_ := Aside0.mk (hb); have n2_ := Aside0.mk (hi); clear HI166; clear HB; clear HI169; have HI166 := n0_; have HB := n1_; have HI169 := n2_; clear n0_ n1_ n2_; (try clear hb); (try clear hb2); (try clear hk); (try clear hi)))
                                go_roundg kj16
                                case measure => have := HJ5.out; have := HK2.out; have := HJ11.out; have := HJ16.out; omega
                                case rel => exact ⟨(wrap64 (x8_2 + 1)), (t202), (t203), (t204), (t206), (t207), (by first | rfl | (simp; done) | (simp [*]; done)), H', ⟨by have := HJ5.out; have := HK2.out; have := HJ11.out; have := HJ16.out; omega⟩, ⟨by repeat (first | (with_reducible first | exact HI166.out | apply IsS51.alloc | apply IsS51.drewN | apply IsS51.drew | apply IsS51.set_0 | apply IsS51.set_1 | apply IsS51.set_2) | exact HI166.out)⟩, ⟨by repeat (first | (with_reducible first | exact HI169.out | apply IsS53.alloc | apply IsS53.drewN | apply IsS53.drew | apply IsS53.set_0 | apply IsS53.set_1) | exact HI169.out)⟩, ⟨by repeat (first | (with_reducible first | exact HB.out | apply below_alloc | apply pw_below_drewN | apply below_drew1 | refine below_set ?_ (IsS51.ge HI166.out) | refine below_set ?_ (IsS53.ge HI169.out)) | exact HB.out)⟩⟩
                          · rw [if_neg c37] at H
                            have c37b0 : (t187 == t191) = false := beq_eq_false_iff_ne.mpr c37
                            have c37b1 : (t187 != t191) = true := bne_iff_ne.mpr c37
                            obtain rfl := Option.some.inj H
                            go_wp2_with (first | ((with_reducible refine gate_callee (f := 22) rfl ?_); refine goesL_ (some 58) rfl rfl Try.func22 (by kernel_rfl) rfl #[.pointer (some ⟨g166, 0, none⟩)] rfl (by (try simp only [List.map_toArray, List.map_cons, List.map_nil]); first | done | rfl | (simp only [List.length_drop, List.length_take]; rfl)) ?_; (with_reducible refine (varint_Reader_Left.calls g166 x167000_16 x167001_16 x167002_16 t187 t188 t189 t190 w _ ?side1 ?side2 A35.out).mono ?_); (case side1 => repeat (first | (with_reducible first | exact HI166.out | apply IsS51.alloc | apply IsS51.drewN | apply IsS51.drew | apply IsS51.set_0 | apply IsS51.set_1 | apply IsS51.set_2) | exact HI166.out)); (case side2 => repeat (first | (with_reducible first | exact HB.out | apply below_alloc | apply pw_below_drewN | apply below_drew1 | refine below_set ?_ (IsS51.ge HI166.out) | refine below_set ?_ (IsS53.ge HI169.out)) | exact HB.out)); rintro e w60 ⟨rfl, hi, hb, hk⟩; refine ⟨_, rfl, ?_⟩; have n0_ := Aside0.mk (IsS53.kept (show IsS53 w _ g169 x170000_16 x170001_16 from by repeat (first | (with_reducible first | exact HI169.out | apply IsS53.alloc | apply IsS53.drewN | apply IsS53.drew | apply IsS53.set_0 | apply IsS53.set_1) | exact HI169.out)) (⟨hk.1, fun i_ hi_ hs_ => hk.2 i_ hi_ hs_ (by simp)⟩ : Kept _ _ (fun k_ => k_ = g166)) (fun e_ => absurd e_ (IsS53.ne_blk (show IsS53 w _ g169 x170000_16 x170001_16 from by repeat (first | (with_reducible first | exact HI169.out | apply IsS53.alloc | apply IsS53.drewN | apply IsS53.drew | apply IsS53.set_0 | apply IsS53.set_1) | exact HI169.out)) (show IsS51 w _ g166 x167000_16 x167001_16 x167002_16 from by repeat (first | (with_reducible first | exact HI166.out | apply IsS51.alloc | apply IsS51.drewN | apply IsS51.drew | apply IsS51.set_0 | apply IsS51.set_1 | apply IsS51.set_2) | exact HI166.out)).1 (by decide)))); have n1_ := Aside0.mk (hb); have n2_ := Aside0.mk (hi); clear HI169; clear HB; clear HI166; have HI169 := n0_; have HB := n1_; have HI166 := n2_; clear n0_ n1_ n2_; (try clear hb); (try clear hb2); (try clear hk); (try clear hi)) | ((with_reducible refine gate_callee (f := 27) rfl ?_); refine goesL_ (some 60) rfl rfl Try.func27 (by kernel_rfl) rfl #[.pointer (some ⟨g169, 0, none⟩)] rfl (by (try simp only [List.map_toArray, List.map_cons, List.map_nil]); first | done | rfl | (simp only [List.length_drop, List.length_take]; rfl)) ?_; (with_reducible refine (billetref01_Reader_Left.calls g169 x170000_16 x170001_16 t191 t192 t193 w _ ?side1 ?side2 A36.out).mono ?_); (case side1 => repeat (first | (with_reducible first | exact HI169.out | apply IsS53.alloc | apply IsS53.drewN | apply IsS53.drew | apply IsS53.set_0 | apply IsS53.set_1) | exact HI169.out)); (case side2 => repeat (first | (with_reducible first | exact HB.out | apply below_alloc | apply pw_below_drewN | apply below_drew1 | refine below_set ?_ (IsS51.ge HI166.out) | refine below_set ?_ (IsS53.ge HI169.out)) | exact HB.out)); rintro e w61 ⟨rfl, hi, hb, hk⟩; refine ⟨_, rfl, ?_⟩; have n0_ := Aside0.mk (IsS51.kept (show IsS51 w _ g166 t188 t189 t190 from by repeat (first | (with_reducible first | exact HI166.out | apply IsS51.alloc | apply IsS51.drewN | apply IsS51.drew | apply IsS51.set_0 | apply IsS51.set_1 | apply IsS51.set_2) | exact HI166.out)) (⟨hk.1, fun i_ hi_ hs_ => hk.2 i_ hi_ hs_ (by simp)⟩ : Kept _ _ (fun k_ => k_ = g169)) (fun e_ => absurd e_ (IsS51.ne_blk (show IsS51 w _ g166 t188 t189 t190 from by repeat (first | (with_reducible first | exact HI166.out | apply IsS51.alloc | apply IsS51.drewN | apply IsS51.drew | apply IsS51.set_0 | apply IsS51.set_1 | apply IsS51.set_2) | exact HI166.out)) (show IsS53 w _ g169 x170000_16 x170001_16 from by repeat (first | (with_reducible first | exact HI169.out | apply IsS53.alloc | apply IsS53.drewN | apply IsS53.drew | apply IsS53.set_0 | apply IsS53.set_1) | exact HI169.out)).1 (by decide)))); have n1_ := Aside0.mk (hb); have n2_ := Aside0.mk (hi); clear HI166; clear HB; clear HI169; have HI166 := n0_; have HB := n1_; have HI169 := n2_; clear n0_ n1_ n2_; (try clear hb); (try clear hb2); (try clear hk); (try clear hi)))
                            go_ret
                            exact ⟨by first | rfl | (simp [errW_none, errW_some] <;> rfl) | (simp [*, errW_none, errW_some] <;> rfl), by repeat (first | (with_reducible first | exact HB.out | apply below_alloc | apply pw_below_drewN | apply below_drew1 | refine below_set ?_ (IsS51.ge HI166.out) | refine below_set ?_ (IsS53.ge HI169.out)) | exact HB.out)⟩
                    · rw [if_neg c16] at H
                      exact absurd H (by simp)
                  · rw [if_neg c15] at H
                    exact absurd H (by simp)
                · replace c14 := Bool.eq_false_iff.mpr c14
                  subst c14
                  have H1 : ((varint_Reader_Ends.f x167000_2 x167001_2 x167002_2).bind fun bt208 => ((billetref01_Reader_Ends.f x170000_2 x170001_2).bind fun bt212 => (if (bt208.1 == bt212.1) = true then ((varint_Reader_Left.f bt208.2.1 bt208.2.2.1 bt208.2.2.2).bind fun bt215 => ((billetref01_Reader_Left.f bt212.2.1 bt212.2.2).bind fun bt219 => (some (bt215.1 == bt219.1)))) else (some false)))) = some r := by rw [if_neg (show ¬ (false = true) by decide)] at H; exact H
                  clear H
                  have H := H1
                  clear H1
                  replace H := Option.bind_eq_some_iff.mp H
                  obtain ⟨⟨t208, t209, t210, t211⟩, A620, H⟩ := H
                  replace H : ((billetref01_Reader_Ends.f x170000_2 x170001_2).bind fun bt212 => (if (t208 == bt212.1) = true then ((varint_Reader_Left.f t209 t210 t211).bind fun bt215 => ((billetref01_Reader_Left.f bt212.2.1 bt212.2.2).bind fun bt219 => (some (bt215.1 == bt219.1)))) else (some false))) = some r := H
                  have A62 := Aside0.mk A620
                  clear A620
                  replace H := Option.bind_eq_some_iff.mp H
                  obtain ⟨⟨t212, t213, t214⟩, A630, H⟩ := H
                  replace H : (if (t208 == t212) = true then ((varint_Reader_Left.f t209 t210 t211).bind fun bt215 => ((billetref01_Reader_Left.f t213 t214).bind fun bt219 => (some (bt215.1 == bt219.1)))) else (some false)) = some r := H
                  have A63 := Aside0.mk A630
                  clear A630
                  by_cases c64 : (t208 == t212) = true
                  · rw [if_pos c64] at H
                    have c64b0 : (t208 == t212) = true := c64
                    (try (have c64b1 : decide (t208 = t212) = true := by simpa using c64))
                    (try (have c64b2 : (t208 == t212) = true := by simpa using c64))
                    clear c64
                    replace H := Option.bind_eq_some_iff.mp H
                    obtain ⟨⟨t215, t216, t217, t218⟩, A650, H⟩ := H
                    replace H : ((billetref01_Reader_Left.f t213 t214).bind fun bt219 => (some (t215 == bt219.1))) = some r := H
                    have A65 := Aside0.mk A650
                    clear A650
                    replace H := Option.bind_eq_some_iff.mp H
                    obtain ⟨⟨t219, t220, t221⟩, A660, H⟩ := H
                    replace H : (some (t215 == t219)) = some r := H
                    have A66 := Aside0.mk A660
                    clear A660
                    obtain rfl := Option.some.inj H
                    go_wp2_with (first | ((with_reducible refine gate_callee (f := 29) rfl ?_); refine goesL_ (some 77) rfl rfl Try.func29 (by kernel_rfl) rfl #[.pointer (some ⟨g166, 0, none⟩)] rfl (by (try simp only [List.map_toArray, List.map_cons, List.map_nil]); first | done | rfl | (simp only [List.length_drop, List.length_take]; rfl)) ?_; (with_reducible refine (varint_Reader_Ends.calls g166 x167000_2 x167001_2 x167002_2 t208 t209 t210 t211 w _ ?side1 ?side2 A62.out).mono ?_); (case side1 => repeat (first | (with_reducible first | exact HI166.out | apply IsS51.alloc | apply IsS51.drewN | apply IsS51.drew | apply IsS51.set_0 | apply IsS51.set_1 | apply IsS51.set_2) | exact HI166.out)); (case side2 => repeat (first | (with_reducible first | exact HB.out | apply below_alloc | apply pw_below_drewN | apply below_drew1 | refine below_set ?_ (IsS51.ge HI166.out) | refine below_set ?_ (IsS53.ge HI169.out)) | exact HB.out)); rintro e w67 ⟨rfl, hi, hb, hk⟩; refine ⟨_, rfl, ?_⟩; have n0_ := Aside0.mk (IsS53.kept (show IsS53 w _ g169 x170000_2 x170001_2 from by repeat (first | (with_reducible first | exact HI169.out | apply IsS53.alloc | apply IsS53.drewN | apply IsS53.drew | apply IsS53.set_0 | apply IsS53.set_1) | exact HI169.out)) (⟨hk.1, fun i_ hi_ hs_ => hk.2 i_ hi_ hs_ (by simp)⟩ : Kept _ _ (fun k_ => k_ = g166)) (fun e_ => absurd e_ (IsS53.ne_blk (show IsS53 w _ g169 x170000_2 x170001_2 from by repeat (first | (with_reducible first | exact HI169.out | apply IsS53.alloc | apply IsS53.drewN | apply IsS53.drew | apply IsS53.set_0 | apply IsS53.set_1) | exact HI169.out)) (show IsS51 w _ g166 x167000_2 x167001_2 x167002_2 from by repeat (first | (with_reducible first | exact HI166.out | apply IsS51.alloc | apply IsS51.drewN | apply IsS51.drew | apply IsS51.set_0 | apply IsS51.set_1 | apply IsS51.set_2) | exact HI166.out)).1 (by decide)))); have n1_ := Aside0.mk (hb); have n2_ := Aside0.mk (hi); clear HI169; clear HB; clear HI166; have HI169 := n0_; have HB := n1_; have HI166 := n2_; clear n0_ n1_ n2_; (try clear hb); (try clear hb2); (try clear hk); (try clear hi)) | ((with_reducible refine gate_callee (f := 30) rfl ?_); refine goesL_ (some 79) rfl rfl Try.func30 (by kernel_rfl) rfl #[.pointer (some ⟨g169, 0, none⟩)] rfl (by (try simp only [List.map_toArray, List.map_cons, List.map_nil]); first | done | rfl | (simp only [List.length_drop, List.length_take]; rfl)) ?_; (with_reducible refine (billetref01_Reader_Ends.calls g169 x170000_2 x170001_2 t212 t213 t214 w _ ?side1 ?side2 A63.out).mono ?_); (case side1 => repeat (first | (with_reducible first | exact HI169.out | apply IsS53.alloc | apply IsS53.drewN | apply IsS53.drew | apply IsS53.set_0 | apply IsS53.set_1) | exact HI169.out)); (case side2 => repeat (first | (with_reducible first | exact HB.out | apply below_alloc | apply pw_below_drewN | apply below_drew1 | refine below_set ?_ (IsS51.ge HI166.out) | refine below_set ?_ (IsS53.ge HI169.out)) | exact HB.out)); rintro e w68 ⟨rfl, hi, hb, hk⟩; refine ⟨_, rfl, ?_⟩; have n0_ := Aside0.mk (IsS51.kept (show IsS51 w _ g166 t209 t210 t211 from by repeat (first | (with_reducible first | exact HI166.out | apply IsS51.alloc | apply IsS51.drewN | apply IsS51.drew | apply IsS51.set_0 | apply IsS51.set_1 | apply IsS51.set_2) | exact HI166.out)) (⟨hk.1, fun i_ hi_ hs_ => hk.2 i_ hi_ hs_ (by simp)⟩ : Kept _ _ (fun k_ => k_ = g169)) (fun e_ => absurd e_ (IsS51.ne_blk (show IsS51 w _ g166 t209 t210 t211 from by repeat (first | (with_reducible first | exact HI166.out | apply IsS51.alloc | apply IsS51.drewN | apply IsS51.drew | apply IsS51.set_0 | apply IsS51.set_1 | apply IsS51.set_2) | exact HI166.out)) (show IsS53 w _ g169 x170000_2 x170001_2 from by repeat (first | (with_reducible first | exact HI169.out | apply IsS53.alloc | apply IsS53.drewN | apply IsS53.drew | apply IsS53.set_0 | apply IsS53.set_1) | exact HI169.out)).1 (by decide)))); have n1_ := Aside0.mk (hb); have n2_ := Aside0.mk (hi); clear HI166; clear HB; clear HI169; have HI166 := n0_; have HB := n1_; have HI169 := n2_; clear n0_ n1_ n2_; (try clear hb); (try clear hb2); (try clear hk); (try clear hi)) | (go_at_call 22; (with_reducible refine (varint_Reader_Left.calls g166 t209 t210 t211 t215 t216 t217 t218 w _ ?side1 ?side2 A65.out).mono ?_); (case side1 => repeat (first | (with_reducible first | exact HI166.out | apply IsS51.alloc | apply IsS51.drewN | apply IsS51.drew | apply IsS51.set_0 | apply IsS51.set_1 | apply IsS51.set_2) | exact HI166.out)); (case side2 => repeat (first | (with_reducible first | exact HB.out | apply below_alloc | apply pw_below_drewN | apply below_drew1 | refine below_set ?_ (IsS51.ge HI166.out) | refine below_set ?_ (IsS53.ge HI169.out)) | exact HB.out)); rintro e w69 ⟨rfl, hi, hb, hk⟩; have n0_ := Aside0.mk (IsS53.kept (show IsS53 w _ g169 t213 t214 from by repeat (first | (with_reducible first | exact HI169.out | apply IsS53.alloc | apply IsS53.drewN | apply IsS53.drew | apply IsS53.set_0 | apply IsS53.set_1) | exact HI169.out)) (⟨hk.1, fun i_ hi_ hs_ => hk.2 i_ hi_ hs_ (by simp)⟩ : Kept _ _ (fun k_ => k_ = g166)) (fun e_ => absurd e_ (IsS53.ne_blk (show IsS53 w _ g169 t213 t214 from by repeat (first | (with_reducible first | exact HI169.out | apply IsS53.alloc | apply IsS53.drewN | apply IsS53.drew | apply IsS53.set_0 | apply IsS53.set_1) | exact HI169.out)) (show IsS51 w _ g166 t209 t210 t211 from by repeat (first | (with_reducible first | exact HI166.out | apply IsS51.alloc | apply IsS51.drewN | apply IsS51.drew | apply IsS51.set_0 | apply IsS51.set_1 | apply IsS51.set_2) | exact HI166.out)).1 (by decide)))); have n1_ := Aside0.mk (hb); have n2_ := Aside0.mk (hi); clear HI169; clear HB; clear HI166; have HI169 := n0_; have HB := n1_; have HI166 := n2_; clear n0_ n1_ n2_; (try clear hb); (try clear hb2); (try clear hk); (try clear hi)) | (go_at_call 27; (with_reducible refine (billetref01_Reader_Left.calls g169 t213 t214 t219 t220 t221 w _ ?side1 ?side2 A66.out).mono ?_); (case side1 => repeat (first | (with_reducible first | exact HI169.out | apply IsS53.alloc | apply IsS53.drewN | apply IsS53.drew | apply IsS53.set_0 | apply IsS53.set_1) | exact HI169.out)); (case side2 => repeat (first | (with_reducible first | exact HB.out | apply below_alloc | apply pw_below_drewN | apply below_drew1 | refine below_set ?_ (IsS51.ge HI166.out) | refine below_set ?_ (IsS53.ge HI169.out)) | exact HB.out)); rintro e w70 ⟨rfl, hi, hb, hk⟩; have n0_ := Aside0.mk (IsS51.kept (show IsS51 w _ g166 t216 t217 t218 from by repeat (first | (with_reducible first | exact HI166.out | apply IsS51.alloc | apply IsS51.drewN | apply IsS51.drew | apply IsS51.set_0 | apply IsS51.set_1 | apply IsS51.set_2) | exact HI166.out)) (⟨hk.1, fun i_ hi_ hs_ => hk.2 i_ hi_ hs_ (by simp)⟩ : Kept _ _ (fun k_ => k_ = g169)) (fun e_ => absurd e_ (IsS51.ne_blk (show IsS51 w _ g166 t216 t217 t218 from by repeat (first | (with_reducible first | exact HI166.out | apply IsS51.alloc | apply IsS51.drewN | apply IsS51.drew | apply IsS51.set_0 | apply IsS51.set_1 | apply IsS51.set_2) | exact HI166.out)) (show IsS53 w _ g169 t213 t214 from by repeat (first | (with_reducible first | exact HI169.out | apply IsS53.alloc | apply IsS53.drewN | apply IsS53.drew | apply IsS53.set_0 | apply IsS53.set_1) | exact HI169.out)).1 (by decide)))); have n1_ := Aside0.mk (hb); have n2_ := Aside0.mk (hi); clear HI166; clear HB; clear HI169; have HI166 := n0_; have HB := n1_; have HI169 := n2_; clear n0_ n1_ n2_; (try clear hb); (try clear hb2); (try clear hk); (try clear hi)))
                    go_ret
                    exact ⟨by first | rfl | (simp [errW_none, errW_some] <;> rfl) | (simp [*, errW_none, errW_some] <;> rfl), by repeat (first | (with_reducible first | exact HB.out | apply below_alloc | apply pw_below_drewN | apply below_drew1 | refine below_set ?_ (IsS51.ge HI166.out) | refine below_set ?_ (IsS53.ge HI169.out)) | exact HB.out)⟩
                  · rw [if_neg c64] at H
                    have c64b0 : (t208 == t212) = false := by simpa using c64
                    (try (have c64b1 : decide (t208 = t212) = false := by simpa using c64))
                    (try (have c64b2 : (t208 == t212) = false := by simpa using c64))
                    (try (have c64b3 : ¬ (t208 = t212) := by simpa using c64))
                    clear c64
                    obtain rfl := Option.some.inj H
                    go_wp2_with (first | ((with_reducible refine gate_callee (f := 29) rfl ?_); refine goesL_ (some 77) rfl rfl Try.func29 (by kernel_rfl) rfl #[.pointer (some ⟨g166, 0, none⟩)] rfl (by (try simp only [List.map_toArray, List.map_cons, List.map_nil]); first | done | rfl | (simp only [List.length_drop, List.length_take]; rfl)) ?_; (with_reducible refine (varint_Reader_Ends.calls g166 x167000_2 x167001_2 x167002_2 t208 t209 t210 t211 w _ ?side1 ?side2 A62.out).mono ?_); (case side1 => repeat (first | (with_reducible first | exact HI166.out | apply IsS51.alloc | apply IsS51.drewN | apply IsS51.drew | apply IsS51.set_0 | apply IsS51.set_1 | apply IsS51.set_2) | exact HI166.out)); (case side2 => repeat (first | (with_reducible first | exact HB.out | apply below_alloc | apply pw_below_drewN | apply below_drew1 | refine below_set ?_ (IsS51.ge HI166.out) | refine below_set ?_ (IsS53.ge HI169.out)) | exact HB.out)); rintro e w71 ⟨rfl, hi, hb, hk⟩; refine ⟨_, rfl, ?_⟩; have n0_ := Aside0.mk (IsS53.kept (show IsS53 w _ g169 x170000_2 x170001_2 from by repeat (first | (with_reducible first | exact HI169.out | apply IsS53.alloc | apply IsS53.drewN | apply IsS53.drew | apply IsS53.set_0 | apply IsS53.set_1) | exact HI169.out)) (⟨hk.1, fun i_ hi_ hs_ => hk.2 i_ hi_ hs_ (by simp)⟩ : Kept _ _ (fun k_ => k_ = g166)) (fun e_ => absurd e_ (IsS53.ne_blk (show IsS53 w _ g169 x170000_2 x170001_2 from by repeat (first | (with_reducible first | exact HI169.out | apply IsS53.alloc | apply IsS53.drewN | apply IsS53.drew | apply IsS53.set_0 | apply IsS53.set_1) | exact HI169.out)) (show IsS51 w _ g166 x167000_2 x167001_2 x167002_2 from by repeat (first | (with_reducible first | exact HI166.out | apply IsS51.alloc | apply IsS51.drewN | apply IsS51.drew | apply IsS51.set_0 | apply IsS51.set_1 | apply IsS51.set_2) | exact HI166.out)).1 (by decide)))); have n1_ := Aside0.mk (hb); have n2_ := Aside0.mk (hi); clear HI169; clear HB; clear HI166; have HI169 := n0_; have HB := n1_; have HI166 := n2_; clear n0_ n1_ n2_; (try clear hb); (try clear hb2); (try clear hk); (try clear hi)) | ((with_reducible refine gate_callee (f := 30) rfl ?_); refine goesL_ (some 79) rfl rfl Try.func30 (by kernel_rfl) rfl #[.pointer (some ⟨g169, 0, none⟩)] rfl (by (try simp only [List.map_toArray, List.map_cons, List.map_nil]); first | done | rfl | (simp only [List.length_drop, List.length_take]; rfl)) ?_; (with_reducible refine (billetref01_Reader_Ends.calls g169 x170000_2 x170001_2 t212 t213 t214 w _ ?side1 ?side2 A63.out).mono ?_); (case side1 => repeat (first | (with_reducible first | exact HI169.out | apply IsS53.alloc | apply IsS53.drewN | apply IsS53.drew | apply IsS53.set_0 | apply IsS53.set_1) | exact HI169.out)); (case side2 => repeat (first | (with_reducible first | exact HB.out | apply below_alloc | apply pw_below_drewN | apply below_drew1 | refine below_set ?_ (IsS51.ge HI166.out) | refine below_set ?_ (IsS53.ge HI169.out)) | exact HB.out)); rintro e w72 ⟨rfl, hi, hb, hk⟩; refine ⟨_, rfl, ?_⟩; have n0_ := Aside0.mk (IsS51.kept (show IsS51 w _ g166 t209 t210 t211 from by repeat (first | (with_reducible first | exact HI166.out | apply IsS51.alloc | apply IsS51.drewN | apply IsS51.drew | apply IsS51.set_0 | apply IsS51.set_1 | apply IsS51.set_2) | exact HI166.out)) (⟨hk.1, fun i_ hi_ hs_ => hk.2 i_ hi_ hs_ (by simp)⟩ : Kept _ _ (fun k_ => k_ = g169)) (fun e_ => absurd e_ (IsS51.ne_blk (show IsS51 w _ g166 t209 t210 t211 from by repeat (first | (with_reducible first | exact HI166.out | apply IsS51.alloc | apply IsS51.drewN | apply IsS51.drew | apply IsS51.set_0 | apply IsS51.set_1 | apply IsS51.set_2) | exact HI166.out)) (show IsS53 w _ g169 x170000_2 x170001_2 from by repeat (first | (with_reducible first | exact HI169.out | apply IsS53.alloc | apply IsS53.drewN | apply IsS53.drew | apply IsS53.set_0 | apply IsS53.set_1) | exact HI169.out)).1 (by decide)))); have n1_ := Aside0.mk (hb); have n2_ := Aside0.mk (hi); clear HI166; clear HB; clear HI169; have HI166 := n0_; have HB := n1_; have HI169 := n2_; clear n0_ n1_ n2_; (try clear hb); (try clear hb2); (try clear hk); (try clear hi)))
                    go_ret
                    exact ⟨by first | rfl | (simp [errW_none, errW_some] <;> rfl) | (simp [*, errW_none, errW_some] <;> rfl), by repeat (first | (with_reducible first | exact HB.out | apply below_alloc | apply pw_below_drewN | apply below_drew1 | refine below_set ?_ (IsS51.ge HI166.out) | refine below_set ?_ (IsS53.ge HI169.out)) | exact HB.out)⟩

end Go.Proofs.Ytbgmgigjogoemaa.Q
