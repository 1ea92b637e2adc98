-- Written by a program of this session (mp.py).
import Derived.Test.YtldlkbjbfgieeaaGreatDoorQx0
import Derived.Test.YtldlkbjbfgieeaaGreatDoorQx2
namespace Go.Proofs.YtldlkbjbfgieeaaGreatDoor.Q
open Go.RowKit Go.Proofs.YtldlkbjbfgieeaaGreatDoorW.PrintWords Go.Proofs.YtldlkbjbfgieeaaGreatDoorW.PrintLast Go.Proofs.YtldlkbjbfgieeaaGreatDoor.Mo
attribute [local go_sem] max2_int min2_int max_two min_two max_three min_three max_four min_four   -- for this text's walks alone
open Go.Proofs.YtldlkbjbfgieeaaGreatDoor.Giv Go.Proofs.YtldlkbjbfgieeaaGreatDoor.Gn Go.Proofs.YtldlkbjbfgieeaaGreatDoor.Ll Go.Proofs.YtldlkbjbfgieeaaGreatDoor.Lb
set_option linter.unusedVariables false
set_option linter.unusedSimpArgs false

attribute [local go_sem high] eqA32 eqA34
/-! ### billetlaw12_Same: function 16 -/
mutual
def billetlaw12_Same.j0 : Nat → Bool → Int → List (S32) → List (S34) → Int → List (S32) → List (S34) → Option (Bool)
 | 0, _, _, _, _, _, _, _ => none
 | k + 1, x29, xK, xG, xI, xL, xH, xJ => if x29 = true then (some false) else (billetlaw12_Same.l0 k 0 xK xG xI xL xH xJ)
def billetlaw12_Same.l0 : Nat → Int → Int → List (S32) → List (S34) → Int → List (S32) → List (S34) → Option (Bool)
 | 0, _, _, _, _, _, _, _ => none
 | k + 1, x5, xK, xG, xI, xL, xH, xJ => if x5 < (xG.length : Int) then (if 0 ≤ x5 then (if x5 < (xH.length : Int) then (if (!((((rd_T32 xG x5).f0).toList) == (((rd_T32 xH x5).f0).toList)) || (!(((rd_T32 xG x5).f1) == ((rd_T32 xH x5).f1)) || (!(((rd_T32 xG x5).f2) == ((rd_T32 xH x5).f2)) || (!(((rd_T32 xG x5).f3) == ((rd_T32 xH x5).f3)) || (!(((rd_T32 xG x5).f4) == ((rd_T32 xH x5).f4)) || (!((((rd_T32 xG x5).f5).toList) == (((rd_T32 xH x5).f5).toList)))))))) = true then (some false) else (billetlaw12_Same.l0 k (wrap64 (x5 + 1)) xK xG xI xL xH xJ)) else (none)) else (none)) else (billetlaw12_Same.l1 k 0 xK xG xI xL xH xJ)
def billetlaw12_Same.l1 : Nat → Int → Int → List (S32) → List (S34) → Int → List (S32) → List (S34) → Option (Bool)
 | 0, _, _, _, _, _, _, _ => none
 | k + 1, x6, xK, xG, xI, xL, xH, xJ => if x6 < (xI.length : Int) then (if 0 ≤ x6 then (if x6 < (xJ.length : Int) then (if (!((((rd_T34 xI x6).f0).toList) == (((rd_T34 xJ x6).f0).toList)) || (!(((rd_T34 xI x6).f1) == ((rd_T34 xJ x6).f1)) || (!(((rd_T34 xI x6).f2) == ((rd_T34 xJ x6).f2)) || (!((((rd_T34 xI x6).f3).toList) == (((rd_T34 xJ x6).f3).toList)) || (!(((rd_T34 xI x6).f4) == ((rd_T34 xJ x6).f4))))))) = true then (some false) else (billetlaw12_Same.l1 k (wrap64 (x6 + 1)) xK xG xI xL xH xJ)) else (none)) else (none)) else (some true)
end
def billetlaw12_Same.f (k : Nat) (a0_0 : Int) (l0_1 : List (S32)) (l0_2 : List (S34)) (a1_0 : Int) (l1_1 : List (S32)) (l1_2 : List (S34)) : Option (Bool) := if a0_0 = a1_0 then (if (l0_1.length : Int) = (l1_1.length : Int) then (billetlaw12_Same.j0 k ((l0_2.length : Int) != (l1_2.length : Int)) a0_0 l0_1 l0_2 a1_0 l1_1 l1_2) else (billetlaw12_Same.j0 k true a0_0 l0_1 l0_2 a1_0 l1_1 l1_2)) else (billetlaw12_Same.j0 k true a0_0 l0_1 l0_2 a1_0 l1_1 l1_2)
theorem billetlaw12_Same.mono_l : ∀ k, (∀ y0 y1 y2 y3 y4 y5 y6, LeO (billetlaw12_Same.j0 k y0 y1 y2 y3 y4 y5 y6) (billetlaw12_Same.j0 (k + 1) y0 y1 y2 y3 y4 y5 y6)) ∧ (∀ y0 y1 y2 y3 y4 y5 y6, LeO (billetlaw12_Same.l0 k y0 y1 y2 y3 y4 y5 y6) (billetlaw12_Same.l0 (k + 1) y0 y1 y2 y3 y4 y5 y6)) ∧ (∀ y0 y1 y2 y3 y4 y5 y6, LeO (billetlaw12_Same.l1 k y0 y1 y2 y3 y4 y5 y6) (billetlaw12_Same.l1 (k + 1) y0 y1 y2 y3 y4 y5 y6))
 | 0 => ⟨fun _ _ _ _ _ _ _ r h => by simp [billetlaw12_Same.j0] at h, fun _ _ _ _ _ _ _ r h => by simp [billetlaw12_Same.l0] at h, fun _ _ _ _ _ _ _ r h => by simp [billetlaw12_Same.l1] at h⟩
 | k + 1 => by
  obtain ⟨ih0, ih1, ih2⟩ := billetlaw12_Same.mono_l k
  refine ⟨?_, ?_, ?_⟩
  ·intro y0 y1 y2 y3 y4 y5 y6
   unfold billetlaw12_Same.j0
   repeat' first
   | (with_reducible exact ih0 _ _ _ _ _ _ _)
   | (with_reducible exact ih1 _ _ _ _ _ _ _)
   | (with_reducible exact ih2 _ _ _ _ _ _ _)
   | (with_reducible exact LeO.refl _)
   | (with_reducible exact LeO.none _)
   | (with_reducible refine LeO.ite ?_ ?_)
   | (with_reducible refine LeO.bind ?_ (fun _ => ?_))
   | exact ih0 _ _ _ _ _ _ _
   | exact ih1 _ _ _ _ _ _ _
   | exact ih2 _ _ _ _ _ _ _
   | exact LeO.none _
   | refine LeO.ite ?_ ?_
   | refine LeO.bind ?_ (fun _ => ?_)
  ·intro y0 y1 y2 y3 y4 y5 y6
   unfold billetlaw12_Same.l0
   repeat' first
   | (with_reducible exact ih0 _ _ _ _ _ _ _)
   | (with_reducible exact ih1 _ _ _ _ _ _ _)
   | (with_reducible exact ih2 _ _ _ _ _ _ _)
   | (with_reducible exact LeO.refl _)
   | (with_reducible exact LeO.none _)
   | (with_reducible refine LeO.ite ?_ ?_)
   | (with_reducible refine LeO.bind ?_ (fun _ => ?_))
   | exact ih0 _ _ _ _ _ _ _
   | exact ih1 _ _ _ _ _ _ _
   | exact ih2 _ _ _ _ _ _ _
   | exact LeO.none _
   | refine LeO.ite ?_ ?_
   | refine LeO.bind ?_ (fun _ => ?_)
  ·intro y0 y1 y2 y3 y4 y5 y6
   unfold billetlaw12_Same.l1
   repeat' first
   | (with_reducible exact ih0 _ _ _ _ _ _ _)
   | (with_reducible exact ih1 _ _ _ _ _ _ _)
   | (with_reducible exact ih2 _ _ _ _ _ _ _)
   | (with_reducible exact LeO.refl _)
   | (with_reducible exact LeO.none _)
   | (with_reducible refine LeO.ite ?_ ?_)
   | (with_reducible refine LeO.bind ?_ (fun _ => ?_))
   | exact ih0 _ _ _ _ _ _ _
   | exact ih1 _ _ _ _ _ _ _
   | exact ih2 _ _ _ _ _ _ _
   | exact LeO.none _
   | refine LeO.ite ?_ ?_
   | refine LeO.bind ?_ (fun _ => ?_)
theorem billetlaw12_Same.mono : ∀ a0 a1 a2 a3 a4 a5 k, LeO (billetlaw12_Same.f k a0 a1 a2 a3 a4 a5) (billetlaw12_Same.f (k + 1) a0 a1 a2 a3 a4 a5) := by
 intro a0 a1 a2 a3 a4 a5 k
 obtain ⟨ih0, ih1, ih2⟩ := billetlaw12_Same.mono_l k
 unfold billetlaw12_Same.f
 repeat' first
   | (with_reducible exact ih0 _ _ _ _ _ _ _)
   | (with_reducible exact ih1 _ _ _ _ _ _ _)
   | (with_reducible exact ih2 _ _ _ _ _ _ _)
   | (with_reducible exact LeO.refl _)
   | (with_reducible exact LeO.none _)
   | (with_reducible refine LeO.ite ?_ ?_)
   | (with_reducible refine LeO.bind ?_ (fun _ => ?_))
   | exact ih0 _ _ _ _ _ _ _
   | exact ih1 _ _ _ _ _ _ _
   | exact ih2 _ _ _ _ _ _ _
   | exact LeO.none _
   | refine LeO.ite ?_ ?_
   | refine LeO.bind ?_ (fun _ => ?_)
set_option maxHeartbeats 8000000 in
set_option maxRecDepth 100000 in
theorem billetlaw12_Same.calls (k : Nat) (a0_0 : Int) (A0_1 : Option Addr) (c0_1 : Nat) (l0_1 : List (S32)) (A0_2 : Option Addr) (c0_2 : Nat) (l0_2 : List (S34)) (a1_0 : Int) (A1_1 : Option Addr) (c1_1 : Nat) (l1_1 : List (S32)) (A1_2 : Option Addr) (c1_2 : Nat) (l1_2 : List (S34)) (r : Bool) (w : World) (hr0_1 : Kd.C k32 w A0_1 l0_1.length l0_1) (hc0_1 : l0_1.length ≤ c0_1) (hr0_2 : Kd.C k34 w A0_2 l0_2.length l0_2) (hc0_2 : l0_2.length ≤ c0_2) (hr1_1 : Kd.C k32 w A1_1 l1_1.length l1_1) (hc1_1 : l1_1.length ≤ c1_1) (hr1_2 : Kd.C k34 w A1_2 l1_2.length l1_2) (hc1_2 : l1_2.length ≤ c1_2) (h : billetlaw12_Same.f k a0_0 l0_1 l0_2 a1_0 l1_1 l1_2 = some r) :
  Calls Tryz.prog 16 #[.agg #[.int .i64 a0_0, .slice A0_1 l0_1.length c0_1, .slice A0_2 l0_2.length c0_2], .agg #[.int .i64 a1_0, .slice A1_1 l1_1.length c1_1, .slice A1_2 l1_2.length c1_2]] w fun e w' => e = .returned (.bool r) ∧ Below w.heap.size w w' := by
 have hu27 := Tryz.underlying27
 have hu32 := Tryz.underlying32
 have hu34 := Tryz.underlying34
 have HR0_1 := Aside0.mk hr0_1
 have HC0_1 := Aside0.mk hc0_1
 clear hr0_1 hc0_1
 have HR0_2 := Aside0.mk hr0_2
 have HC0_2 := Aside0.mk hc0_2
 clear hr0_2 hc0_2
 have HR1_1 := Aside0.mk hr1_1
 have HC1_1 := Aside0.mk hc1_1
 clear hr1_1 hc1_1
 have HR1_2 := Aside0.mk hr1_2
 have HC1_2 := Aside0.mk hc1_2
 clear hr1_2 hc1_2
 have HB := Aside0.mk (Below.refl w.heap.size w)
 have H : (if a0_0 = a1_0 then (if (l0_1.length : Int) = (l1_1.length : Int) then (billetlaw12_Same.j0 k ((l0_2.length : Int) != (l1_2.length : Int)) a0_0 l0_1 l0_2 a1_0 l1_1 l1_2) else (billetlaw12_Same.j0 k true a0_0 l0_1 l0_2 a1_0 l1_1 l1_2)) else (billetlaw12_Same.j0 k true a0_0 l0_1 l0_2 a1_0 l1_1 l1_2)) = some r := h
 clear h
 have HC3 := Aside0.mk H
 clear H
 go_enter Tryz.func16, Tryz.ntmps16
 go_upto_region 1 with (first | ((with_reducible refine gate_dst (N := 2) rfl ?_); (try (refine gate_guard (by rfl) ?_; dsimp only)); refine box_event ?hg (N := 2) ?hd (cs := #[.int .i64 a0_0, .slice A0_1 l0_1.length c0_1, .slice A0_2 l0_2.length c0_2]) (t := 27) ?hr ?_; (case hd => rfl); (case hg => rfl); (case hr => first | (go_simp; done) | (go_simp; rfl)); intro gbA hg w4 hbox hb; have n0_ := Aside0.mk (below_step (by repeat (first | (with_reducible first | exact HB.out | apply below_alloc | apply pw_below_drewN | apply below_drew1) | exact HB.out)) hb); have n1_ := Aside0.mk (hbox); have n2_ := Aside0.mk ((by rw [hg]; exact (below_size (by repeat (first | (with_reducible first | exact HB.out | apply below_alloc | apply pw_below_drewN | apply below_drew1) | exact HB.out))) : w.heap.size ≤ gbA)); have n3_ := Aside0.mk ((by rw [hg]; exact (below_size (by repeat (first | (with_reducible first | exact HB.out | apply below_alloc | apply pw_below_drewN | apply below_drew1) | exact HB.out))) : w.heap.size ≤ gbA)); clear HB; have HB := n0_; have BKA := n1_; have GWA := n2_; have GEA := n3_; clear n0_ n1_ n2_ n3_; clear hb hbox hg) | ((with_reducible refine gate_dst (N := 3) rfl ?_); (try (refine gate_guard (by rfl) ?_; dsimp only)); refine box_event ?hg (N := 3) ?hd (cs := #[.int .i64 a1_0, .slice A1_1 l1_1.length c1_1, .slice A1_2 l1_2.length c1_2]) (t := 27) ?hr ?_; (case hd => rfl); (case hg => rfl); (case hr => first | (go_simp; done) | (go_simp; rfl)); intro gbB hg w5 hbox hb; have n0_ := Aside0.mk (blk_below (g := gbA) (o := .cells #[.int .i64 a0_0, .slice A0_1 l0_1.length c0_1, .slice A0_2 l0_2.length c0_2] 27 (0, 0)) (by (with_reducible repeat (first | refine blk_drewN ?_ _ | refine blk_drew ?_ | refine blk_alloc ?_ _)); exact BKA.out) hb); have n1_ := Aside0.mk (below_step (by repeat (first | (with_reducible first | exact HB.out | apply below_alloc | apply pw_below_drewN | apply below_drew1 | refine below_set ?_ GEA.out) | exact HB.out)) hb); have n2_ := Aside0.mk (hbox); have n3_ := Aside0.mk ((by rw [hg]; exact (below_size (by repeat (first | (with_reducible first | exact HB.out | apply below_alloc | apply pw_below_drewN | apply below_drew1 | refine below_set ?_ GEA.out) | exact HB.out))) : w.heap.size ≤ gbB)); have n4_ := Aside0.mk ((by rw [hg]; exact (below_size (by repeat (first | (with_reducible first | exact HB.out | apply below_alloc | apply pw_below_drewN | apply below_drew1 | refine below_set ?_ GEA.out) | exact HB.out))) : w.heap.size ≤ gbB)); have n5_ := Aside0.mk ((by rw [hg]; exact Nat.ne_of_lt (blk_lt (g := gbA) (o := .cells #[.int .i64 a0_0, .slice A0_1 l0_1.length c0_1, .slice A0_2 l0_2.length c0_2] 27 (0, 0)) (by (with_reducible repeat (first | refine blk_drewN ?_ _ | refine blk_drew ?_ | refine blk_alloc ?_ _)); exact BKA.out)) : gbA ≠ gbB)); have n6_ := Aside0.mk ((by rw [hg]; exact Nat.ne_of_gt (blk_lt (g := gbA) (o := .cells #[.int .i64 a0_0, .slice A0_1 l0_1.length c0_1, .slice A0_2 l0_2.length c0_2] 27 (0, 0)) (by (with_reducible repeat (first | refine blk_drewN ?_ _ | refine blk_drew ?_ | refine blk_alloc ?_ _)); exact BKA.out)) : gbB ≠ gbA)); clear BKA; clear HB; have BKA := n0_; have HB := n1_; have BKB := n2_; have GWB := n3_; have GEB := n4_; have NBA_B := n5_; have NBB_A := n6_; clear n0_ n1_ n2_ n3_ n4_ n5_ n6_; clear hb hbox hg))
 repeat (go_quiet (first | ((with_reducible refine gate_dst (N := 2) rfl ?_); (try (refine gate_guard (by rfl) ?_; dsimp only)); refine box_event ?hg (N := 2) ?hd (cs := #[.int .i64 a0_0, .slice A0_1 l0_1.length c0_1, .slice A0_2 l0_2.length c0_2]) (t := 27) ?hr ?_; (case hd => rfl); (case hg => rfl); (case hr => first | (go_simp; done) | (go_simp; rfl)); intro gbA hg w4 hbox hb; have n0_ := Aside0.mk (below_step (by repeat (first | (with_reducible first | exact HB.out | apply below_alloc | apply pw_below_drewN | apply below_drew1) | exact HB.out)) hb); have n1_ := Aside0.mk (hbox); have n2_ := Aside0.mk ((by rw [hg]; exact (below_size (by repeat (first | (with_reducible first | exact HB.out | apply below_alloc | apply pw_below_drewN | apply below_drew1) | exact HB.out))) : w.heap.size ≤ gbA)); have n3_ := Aside0.mk ((by rw [hg]; exact (below_size (by repeat (first | (with_reducible first | exact HB.out | apply below_alloc | apply pw_below_drewN | apply below_drew1) | exact HB.out))) : w.heap.size ≤ gbA)); clear HB; have HB := n0_; have BKA := n1_; have GWA := n2_; have GEA := n3_; clear n0_ n1_ n2_ n3_; clear hb hbox hg) | ((with_reducible refine gate_dst (N := 3) rfl ?_); (try (refine gate_guard (by rfl) ?_; dsimp only)); refine box_event ?hg (N := 3) ?hd (cs := #[.int .i64 a1_0, .slice A1_1 l1_1.length c1_1, .slice A1_2 l1_2.length c1_2]) (t := 27) ?hr ?_; (case hd => rfl); (case hg => rfl); (case hr => first | (go_simp; done) | (go_simp; rfl)); intro gbB hg w5 hbox hb; have n0_ := Aside0.mk (blk_below (g := gbA) (o := .cells #[.int .i64 a0_0, .slice A0_1 l0_1.length c0_1, .slice A0_2 l0_2.length c0_2] 27 (0, 0)) (by (with_reducible repeat (first | refine blk_drewN ?_ _ | refine blk_drew ?_ | refine blk_alloc ?_ _)); exact BKA.out) hb); have n1_ := Aside0.mk (below_step (by repeat (first | (with_reducible first | exact HB.out | apply below_alloc | apply pw_below_drewN | apply below_drew1 | refine below_set ?_ GEA.out) | exact HB.out)) hb); have n2_ := Aside0.mk (hbox); have n3_ := Aside0.mk ((by rw [hg]; exact (below_size (by repeat (first | (with_reducible first | exact HB.out | apply below_alloc | apply pw_below_drewN | apply below_drew1 | refine below_set ?_ GEA.out) | exact HB.out))) : w.heap.size ≤ gbB)); have n4_ := Aside0.mk ((by rw [hg]; exact (below_size (by repeat (first | (with_reducible first | exact HB.out | apply below_alloc | apply pw_below_drewN | apply below_drew1 | refine below_set ?_ GEA.out) | exact HB.out))) : w.heap.size ≤ gbB)); have n5_ := Aside0.mk ((by rw [hg]; exact Nat.ne_of_lt (blk_lt (g := gbA) (o := .cells #[.int .i64 a0_0, .slice A0_1 l0_1.length c0_1, .slice A0_2 l0_2.length c0_2] 27 (0, 0)) (by (with_reducible repeat (first | refine blk_drewN ?_ _ | refine blk_drew ?_ | refine blk_alloc ?_ _)); exact BKA.out)) : gbA ≠ gbB)); have n6_ := Aside0.mk ((by rw [hg]; exact Nat.ne_of_gt (blk_lt (g := gbA) (o := .cells #[.int .i64 a0_0, .slice A0_1 l0_1.length c0_1, .slice A0_2 l0_2.length c0_2] 27 (0, 0)) (by (with_reducible repeat (first | refine blk_drewN ?_ _ | refine blk_drew ?_ | refine blk_alloc ?_ _)); exact BKA.out)) : gbB ≠ gbA)); clear BKA; clear HB; have BKA := n0_; have HB := n1_; have BKB := n2_; have GWB := n3_; have GEB := n4_; have NBA_B := n5_; have NBB_A := n6_; clear n0_ n1_ n2_ n3_ n4_ n5_ n6_; clear hb hbox hg)); go_upto_region 1 with (first | ((with_reducible refine gate_dst (N := 2) rfl ?_); (try (refine gate_guard (by rfl) ?_; dsimp only)); refine box_event ?hg (N := 2) ?hd (cs := #[.int .i64 a0_0, .slice A0_1 l0_1.length c0_1, .slice A0_2 l0_2.length c0_2]) (t := 27) ?hr ?_; (case hd => rfl); (case hg => rfl); (case hr => first | (go_simp; done) | (go_simp; rfl)); intro gbA hg w4 hbox hb; have n0_ := Aside0.mk (below_step (by repeat (first | (with_reducible first | exact HB.out | apply below_alloc | apply pw_below_drewN | apply below_drew1) | exact HB.out)) hb); have n1_ := Aside0.mk (hbox); have n2_ := Aside0.mk ((by rw [hg]; exact (below_size (by repeat (first | (with_reducible first | exact HB.out | apply below_alloc | apply pw_below_drewN | apply below_drew1) | exact HB.out))) : w.heap.size ≤ gbA)); have n3_ := Aside0.mk ((by rw [hg]; exact (below_size (by repeat (first | (with_reducible first | exact HB.out | apply below_alloc | apply pw_below_drewN | apply below_drew1) | exact HB.out))) : w.heap.size ≤ gbA)); clear HB; have HB := n0_; have BKA := n1_; have GWA := n2_; have GEA := n3_; clear n0_ n1_ n2_ n3_; clear hb hbox hg) | ((with_reducible refine gate_dst (N := 3) rfl ?_); (try (refine gate_guard (by rfl) ?_; dsimp only)); refine box_event ?hg (N := 3) ?hd (cs := #[.int .i64 a1_0, .slice A1_1 l1_1.length c1_1, .slice A1_2 l1_2.length c1_2]) (t := 27) ?hr ?_; (case hd => rfl); (case hg => rfl); (case hr => first | (go_simp; done) | (go_simp; rfl)); intro gbB hg w5 hbox hb; have n0_ := Aside0.mk (blk_below (g := gbA) (o := .cells #[.int .i64 a0_0, .slice A0_1 l0_1.length c0_1, .slice A0_2 l0_2.length c0_2] 27 (0, 0)) (by (with_reducible repeat (first | refine blk_drewN ?_ _ | refine blk_drew ?_ | refine blk_alloc ?_ _)); exact BKA.out) hb); have n1_ := Aside0.mk (below_step (by repeat (first | (with_reducible first | exact HB.out | apply below_alloc | apply pw_below_drewN | apply below_drew1 | refine below_set ?_ GEA.out) | exact HB.out)) hb); have n2_ := Aside0.mk (hbox); have n3_ := Aside0.mk ((by rw [hg]; exact (below_size (by repeat (first | (with_reducible first | exact HB.out | apply below_alloc | apply pw_below_drewN | apply below_drew1 | refine below_set ?_ GEA.out) | exact HB.out))) : w.heap.size ≤ gbB)); have n4_ := Aside0.mk ((by rw [hg]; exact (below_size (by repeat (first | (with_reducible first | exact HB.out | apply below_alloc | apply pw_below_drewN | apply below_drew1 | refine below_set ?_ GEA.out) | exact HB.out))) : w.heap.size ≤ gbB)); have n5_ := Aside0.mk ((by rw [hg]; exact Nat.ne_of_lt (blk_lt (g := gbA) (o := .cells #[.int .i64 a0_0, .slice A0_1 l0_1.length c0_1, .slice A0_2 l0_2.length c0_2] 27 (0, 0)) (by (with_reducible repeat (first | refine blk_drewN ?_ _ | refine blk_drew ?_ | refine blk_alloc ?_ _)); exact BKA.out)) : gbA ≠ gbB)); have n6_ := Aside0.mk ((by rw [hg]; exact Nat.ne_of_gt (blk_lt (g := gbA) (o := .cells #[.int .i64 a0_0, .slice A0_1 l0_1.length c0_1, .slice A0_2 l0_2.length c0_2] 27 (0, 0)) (by (with_reducible repeat (first | refine blk_drewN ?_ _ | refine blk_drew ?_ | refine blk_alloc ?_ _)); exact BKA.out)) : gbB ≠ gbA)); clear BKA; clear HB; have BKA := n0_; have HB := n1_; have BKB := n2_; have GWB := n3_; have GEB := n4_; have NBA_B := n5_; have NBB_A := n6_; clear n0_ n1_ n2_ n3_ n4_ n5_ n6_; clear hb hbox hg)))
 (try simp only [Act.put, List.setIfInBounds_toArray, List.set_cons_zero, List.set_cons_succ])
 go_cut [29] (fun v29 wc => ∃ (kq : Nat) (x29_2 : Bool), v29 = .bool x29_2 ∧ Aside0 (billetlaw12_Same.j0 kq x29_2 a0_0 l0_1 l0_2 a1_0 l1_1 l1_2 = some r) ∧ Aside0 (kq ≤ k) ∧ Aside0 (wc.heap[gbA]? = some (.cells #[.int .i64 a0_0, (.slice A0_1 l0_1.length c0_1), (.slice A0_2 l0_2.length c0_2)] 27 (0, 0))) ∧ Aside0 (wc.heap[gbB]? = some (.cells #[.int .i64 a1_0, (.slice A1_1 l1_1.length c1_1), (.slice A1_2 l1_2.length c1_2)] 27 (0, 0))) ∧ Aside0 (Below w.heap.size w wc))
 case first =>
  have H := HC3.out
  clear HC3
  by_cases c6 : a0_0 = a1_0
  ·rw [if_pos c6] at H
   have c6b0 : (a0_0 == a1_0) = true := beq_iff_eq.mpr c6
   have c6b1 : (a0_0 != a1_0) = false := bne_eq_false_iff_eq.mpr c6
   clear c6
   (first | rw [c6b0] | (simp only [i64_w, i32_w]; rw [c6b0]) | skip)
   by_cases c7 : (l0_1.length : Int) = (l1_1.length : Int)
   ·rw [if_pos c7] at H
    have c7b0 : ((l0_1.length : Int) == (l1_1.length : Int)) = true := beq_iff_eq.mpr c7
    have c7b1 : ((l0_1.length : Int) != (l1_1.length : Int)) = false := bne_eq_false_iff_eq.mpr c7
    have c7b2 : (l0_1.length == l1_1.length) = true := by first | simpa using c7 | (simp at c7 ⊢; omega)
    clear c7
    have H' := Aside0.mk H
    clear H
    have hnb8 := NBA_B.out
    have hnc8 := NBB_A.out
    have hcz9_0 : w5.cell? ⟨gbA, 0, none⟩ = some (.int .i64 a0_0) := (blk_cell BKA.out 0).trans rfl
    have hcz9_1 : w5.cell? ⟨gbA, 1, none⟩ = some (.slice A0_1 l0_1.length c0_1) := (blk_cell BKA.out 1).trans rfl
    have hcz9_2 : w5.cell? ⟨gbA, 2, none⟩ = some (.slice A0_2 l0_2.length c0_2) := (blk_cell BKA.out 2).trans rfl
    have hfz9_0 := blk_frozen BKA.out 0
    have hfz9_1 := blk_frozen BKA.out 1
    have hfz9_2 := blk_frozen BKA.out 2
    have hcz10_0 : w5.cell? ⟨gbB, 0, none⟩ = some (.int .i64 a1_0) := (blk_cell BKB.out 0).trans rfl
    have hcz10_1 : w5.cell? ⟨gbB, 1, none⟩ = some (.slice A1_1 l1_1.length c1_1) := (blk_cell BKB.out 1).trans rfl
    have hcz10_2 : w5.cell? ⟨gbB, 2, none⟩ = some (.slice A1_2 l1_2.length c1_2) := (blk_cell BKB.out 2).trans rfl
    have hfz10_0 := blk_frozen BKB.out 0
    have hfz10_1 := blk_frozen BKB.out 1
    have hfz10_2 := blk_frozen BKB.out 2
    go_wp2
    repeat (go_quiet (fail); try go_wp2)
    go_meet
    case rel => exact ⟨_, (((l0_2.length : Int) != (l1_2.length : Int))), (by first | rfl | (simp; done) | (simp [*]; done)), H', ⟨by first | omega | exact Nat.le_refl _⟩, ⟨by (with_reducible repeat (first | refine blk_drewN ?_ _ | refine blk_drew ?_ | refine blk_alloc ?_ _)); exact BKA.out⟩, ⟨by (with_reducible repeat (first | refine blk_drewN ?_ _ | refine blk_drew ?_ | refine blk_alloc ?_ _)); exact BKB.out⟩, ⟨by repeat (first | (with_reducible first | exact HB.out | apply below_alloc | apply pw_below_drewN | apply below_drew1 | refine below_set ?_ GEA.out | refine below_set ?_ GEB.out) | exact HB.out)⟩⟩
   ·rw [if_neg c7] at H
    have c7b0 : ((l0_1.length : Int) == (l1_1.length : Int)) = false := beq_eq_false_iff_ne.mpr c7
    have c7b1 : ((l0_1.length : Int) != (l1_1.length : Int)) = true := bne_iff_ne.mpr c7
    have c7b2 : (l0_1.length == l1_1.length) = false := by first | simpa using c7 | (simp at c7 ⊢; omega)
    have H' := Aside0.mk H
    clear H
    have hnb11 := NBA_B.out
    have hnc11 := NBB_A.out
    have hcz12_0 : w5.cell? ⟨gbA, 0, none⟩ = some (.int .i64 a0_0) := (blk_cell BKA.out 0).trans rfl
    have hcz12_1 : w5.cell? ⟨gbA, 1, none⟩ = some (.slice A0_1 l0_1.length c0_1) := (blk_cell BKA.out 1).trans rfl
    have hcz12_2 : w5.cell? ⟨gbA, 2, none⟩ = some (.slice A0_2 l0_2.length c0_2) := (blk_cell BKA.out 2).trans rfl
    have hfz12_0 := blk_frozen BKA.out 0
    have hfz12_1 := blk_frozen BKA.out 1
    have hfz12_2 := blk_frozen BKA.out 2
    have hcz13_0 : w5.cell? ⟨gbB, 0, none⟩ = some (.int .i64 a1_0) := (blk_cell BKB.out 0).trans rfl
    have hcz13_1 : w5.cell? ⟨gbB, 1, none⟩ = some (.slice A1_1 l1_1.length c1_1) := (blk_cell BKB.out 1).trans rfl
    have hcz13_2 : w5.cell? ⟨gbB, 2, none⟩ = some (.slice A1_2 l1_2.length c1_2) := (blk_cell BKB.out 2).trans rfl
    have hfz13_0 := blk_frozen BKB.out 0
    have hfz13_1 := blk_frozen BKB.out 1
    have hfz13_2 := blk_frozen BKB.out 2
    go_wp2
    repeat (go_quiet (fail); try go_wp2)
    go_meet
    case rel => exact ⟨_, (true), (by first | rfl | (simp; done) | (simp [*]; done)), H', ⟨by first | omega | exact Nat.le_refl _⟩, ⟨by (with_reducible repeat (first | refine blk_drewN ?_ _ | refine blk_drew ?_ | refine blk_alloc ?_ _)); exact BKA.out⟩, ⟨by (with_reducible repeat (first | refine blk_drewN ?_ _ | refine blk_drew ?_ | refine blk_alloc ?_ _)); exact BKB.out⟩, ⟨by repeat (first | (with_reducible first | exact HB.out | apply below_alloc | apply pw_below_drewN | apply below_drew1 | refine below_set ?_ GEA.out | refine below_set ?_ GEB.out) | exact HB.out)⟩⟩
  ·rw [if_neg c6] at H
   have c6b0 : (a0_0 == a1_0) = false := beq_eq_false_iff_ne.mpr c6
   have c6b1 : (a0_0 != a1_0) = true := bne_iff_ne.mpr c6
   (first | rw [c6b0] | (simp only [i64_w, i32_w]; rw [c6b0]) | skip)
   have H' := Aside0.mk H
   clear H
   have hnb14 := NBA_B.out
   have hnc14 := NBB_A.out
   have hcz15_0 : w5.cell? ⟨gbA, 0, none⟩ = some (.int .i64 a0_0) := (blk_cell BKA.out 0).trans rfl
   have hcz15_1 : w5.cell? ⟨gbA, 1, none⟩ = some (.slice A0_1 l0_1.length c0_1) := (blk_cell BKA.out 1).trans rfl
   have hcz15_2 : w5.cell? ⟨gbA, 2, none⟩ = some (.slice A0_2 l0_2.length c0_2) := (blk_cell BKA.out 2).trans rfl
   have hfz15_0 := blk_frozen BKA.out 0
   have hfz15_1 := blk_frozen BKA.out 1
   have hfz15_2 := blk_frozen BKA.out 2
   have hcz16_0 : w5.cell? ⟨gbB, 0, none⟩ = some (.int .i64 a1_0) := (blk_cell BKB.out 0).trans rfl
   have hcz16_1 : w5.cell? ⟨gbB, 1, none⟩ = some (.slice A1_1 l1_1.length c1_1) := (blk_cell BKB.out 1).trans rfl
   have hcz16_2 : w5.cell? ⟨gbB, 2, none⟩ = some (.slice A1_2 l1_2.length c1_2) := (blk_cell BKB.out 2).trans rfl
   have hfz16_0 := blk_frozen BKB.out 0
   have hfz16_1 := blk_frozen BKB.out 1
   have hfz16_2 := blk_frozen BKB.out 2
   go_wp2
   repeat (go_quiet (fail); try go_wp2)
   go_meet
   case rel => exact ⟨_, (true), (by first | rfl | (simp; done) | (simp [*]; done)), H', ⟨by first | omega | exact Nat.le_refl _⟩, ⟨by (with_reducible repeat (first | refine blk_drewN ?_ _ | refine blk_drew ?_ | refine blk_alloc ?_ _)); exact BKA.out⟩, ⟨by (with_reducible repeat (first | refine blk_drewN ?_ _ | refine blk_drew ?_ | refine blk_alloc ?_ _)); exact BKB.out⟩, ⟨by repeat (first | (with_reducible first | exact HB.out | apply below_alloc | apply pw_below_drewN | apply below_drew1 | refine below_set ?_ GEA.out | refine below_set ?_ GEB.out) | exact HB.out)⟩⟩
 case rest =>
  clear HC3
  obtain ⟨kq, x29_2, rfl, HA, HJ2, BKA, BKB, HB⟩ := hcut
  cases kq with
  | zero => exact absurd HA.out (by simp [billetlaw12_Same.j0])
  | succ kj2 =>
   have H := HA.out
   clear HA
   simp only [billetlaw12_Same.j0] at H
   by_cases c17 : x29_2 = true
   ·subst c17
    have H1 : (some false) = some r := by rw [if_pos rfl] at H; exact H
    clear H
    have H := H1
    clear H1
    obtain rfl := Option.some.inj H
    go_wp2
    repeat (go_quiet (fail); try go_wp2)
    go_ret
    exact ⟨by first | rfl | (simp [errW_none, errW_some] <;> rfl) | (simp [*, errW_none, errW_some] <;> rfl), by repeat (first | (with_reducible first | exact HB.out | apply below_alloc | apply pw_below_drewN | apply below_drew1 | refine below_set ?_ GEA.out | refine below_set ?_ GEB.out) | exact HB.out)⟩
   ·replace c17 := Bool.eq_false_iff.mpr c17
    subst c17
    have H1 : (billetlaw12_Same.l0 kj2 0 a0_0 l0_1 l0_2 a1_0 l1_1 l1_2) = some r := by rw [if_neg (show ¬ (false = true) by decide)] at H; exact H
    clear H
    have H := H1
    clear H1
    have H' := Aside0.mk H
    clear H
    go_wp2
    repeat (go_quiet (fail); try go_wp2)
    go_loopg [5] kj2 (fun kq v5 w' => ∃ (x5_2 : Int), v5 = .int .i64 x5_2 ∧ Aside0 (billetlaw12_Same.l0 kq x5_2 a0_0 l0_1 l0_2 a1_0 l1_1 l1_2 = some r) ∧ Aside0 (kq ≤ kj2) ∧ Aside0 (w'.heap[gbA]? = some (.cells #[.int .i64 a0_0, (.slice A0_1 l0_1.length c0_1), (.slice A0_2 l0_2.length c0_2)] 27 (0, 0))) ∧ Aside0 (w'.heap[gbB]? = some (.cells #[.int .i64 a1_0, (.slice A1_1 l1_1.length c1_1), (.slice A1_2 l1_2.length c1_2)] 27 (0, 0))) ∧ Aside0 (Below w.heap.size w w'))
    case atStart => exact ⟨(0), (by first | rfl | (simp; done) | (simp [*]; done)), H', ⟨Nat.le_refl _⟩, ⟨by (with_reducible repeat (first | refine blk_drewN ?_ _ | refine blk_drew ?_ | refine blk_alloc ?_ _)); exact BKA.out⟩, ⟨by (with_reducible repeat (first | refine blk_drewN ?_ _ | refine blk_drew ?_ | refine blk_alloc ?_ _)); exact BKB.out⟩, ⟨by repeat (first | (with_reducible first | exact HB.out | apply below_alloc | apply pw_below_drewN | apply below_drew1 | refine below_set ?_ GEA.out | refine below_set ?_ GEB.out) | exact HB.out)⟩⟩
    case round =>
     clear H'
     obtain ⟨x5_2, rfl, HA, HK2, BKA, BKB, HB⟩ := hrel
     cases gk with
     | zero => exact absurd HA.out (by simp [billetlaw12_Same.l0])
     | succ k2 =>
      have H := HA.out
      clear HA
      simp only [billetlaw12_Same.l0] at H
      by_cases c18 : x5_2 < (l0_1.length : Int)
      ·rw [if_pos c18] at H
       have c18b0 : decide (x5_2 < (l0_1.length : Int)) = true := decide_eq_true c18
       clear c18
       by_cases c19 : 0 ≤ x5_2
       ·rw [if_pos c19] at H
        have c19b0 : decide (0 ≤ x5_2) = true := decide_eq_true c19
        clear c19
        by_cases c20 : x5_2 < (l1_1.length : Int)
        ·rw [if_pos c20] at H
         have c20b0 : decide (x5_2 < (l1_1.length : Int)) = true := decide_eq_true c20
         clear c20
         by_cases c21 : (!((((rd_T32 l0_1 x5_2).f0).toList) == (((rd_T32 l1_1 x5_2).f0).toList)) || (!(((rd_T32 l0_1 x5_2).f1) == ((rd_T32 l1_1 x5_2).f1)) || (!(((rd_T32 l0_1 x5_2).f2) == ((rd_T32 l1_1 x5_2).f2)) || (!(((rd_T32 l0_1 x5_2).f3) == ((rd_T32 l1_1 x5_2).f3)) || (!(((rd_T32 l0_1 x5_2).f4) == ((rd_T32 l1_1 x5_2).f4)) || (!((((rd_T32 l0_1 x5_2).f5).toList) == (((rd_T32 l1_1 x5_2).f5).toList)))))))) = true
         ·rw [if_pos c21] at H
          have c21b0 : (!((((rd_T32 l0_1 x5_2).f0).toList) == (((rd_T32 l1_1 x5_2).f0).toList)) || (!(((rd_T32 l0_1 x5_2).f1) == ((rd_T32 l1_1 x5_2).f1)) || (!(((rd_T32 l0_1 x5_2).f2) == ((rd_T32 l1_1 x5_2).f2)) || (!(((rd_T32 l0_1 x5_2).f3) == ((rd_T32 l1_1 x5_2).f3)) || (!(((rd_T32 l0_1 x5_2).f4) == ((rd_T32 l1_1 x5_2).f4)) || (!((((rd_T32 l0_1 x5_2).f5).toList) == (((rd_T32 l1_1 x5_2).f5).toList)))))))) = true := c21
          clear c21
          obtain rfl := Option.some.inj H
          have hnb22 := NBA_B.out
          have hnc22 := NBB_A.out
          have hcz23_0 : wr.cell? ⟨gbA, 0, none⟩ = some (.int .i64 a0_0) := (blk_cell BKA.out 0).trans rfl
          have hcz23_1 : wr.cell? ⟨gbA, 1, none⟩ = some (.slice A0_1 l0_1.length c0_1) := (blk_cell BKA.out 1).trans rfl
          have hcz23_2 : wr.cell? ⟨gbA, 2, none⟩ = some (.slice A0_2 l0_2.length c0_2) := (blk_cell BKA.out 2).trans rfl
          have hfz23_0 := blk_frozen BKA.out 0
          have hfz23_1 := blk_frozen BKA.out 1
          have hfz23_2 := blk_frozen BKA.out 2
          have pC : 0 ≤ (x5_2 : Int) := of_decide_eq_true (by first | (with_reducible assumption) | assumption)
          have qC : x5_2 < (l0_1.length : Int) := of_decide_eq_true (by first | (with_reducible assumption) | assumption)
          obtain ⟨adC, eC, hxC_0, hxC_1, hxC_2, hxC_3, hxC_4, hxC_5⟩ := at_T32 HR0_1.out x5_2 pC qC
          cases eC
          replace hxC_0 := (HB.out.cell (World.block_lt_of_cell? w _ hxC_0)).trans hxC_0
          replace hxC_1 := (HB.out.cell (World.block_lt_of_cell? w _ hxC_1)).trans hxC_1
          replace hxC_2 := (HB.out.cell (World.block_lt_of_cell? w _ hxC_2)).trans hxC_2
          replace hxC_3 := (HB.out.cell (World.block_lt_of_cell? w _ hxC_3)).trans hxC_3
          replace hxC_4 := (HB.out.cell (World.block_lt_of_cell? w _ hxC_4)).trans hxC_4
          replace hxC_5 := (HB.out.cell (World.block_lt_of_cell? w _ hxC_5)).trans hxC_5
          replace pC := eq_true pC
          (try replace pCz := eq_true pCz)
          replace qC := eq_true qC
          (try replace qCz := eq_true qCz)
          have hcz24_0 : wr.cell? ⟨gbB, 0, none⟩ = some (.int .i64 a1_0) := (blk_cell BKB.out 0).trans rfl
          have hcz24_1 : wr.cell? ⟨gbB, 1, none⟩ = some (.slice A1_1 l1_1.length c1_1) := (blk_cell BKB.out 1).trans rfl
          have hcz24_2 : wr.cell? ⟨gbB, 2, none⟩ = some (.slice A1_2 l1_2.length c1_2) := (blk_cell BKB.out 2).trans rfl
          have hfz24_0 := blk_frozen BKB.out 0
          have hfz24_1 := blk_frozen BKB.out 1
          have hfz24_2 := blk_frozen BKB.out 2
          have pD : 0 ≤ (x5_2 : Int) := of_decide_eq_true (by first | (with_reducible assumption) | assumption)
          have qD : x5_2 < (l1_1.length : Int) := of_decide_eq_true (by first | (with_reducible assumption) | assumption)
          obtain ⟨adD, eD, hxD_0, hxD_1, hxD_2, hxD_3, hxD_4, hxD_5⟩ := at_T32 HR1_1.out x5_2 pD qD
          cases eD
          replace hxD_0 := (HB.out.cell (World.block_lt_of_cell? w _ hxD_0)).trans hxD_0
          replace hxD_1 := (HB.out.cell (World.block_lt_of_cell? w _ hxD_1)).trans hxD_1
          replace hxD_2 := (HB.out.cell (World.block_lt_of_cell? w _ hxD_2)).trans hxD_2
          replace hxD_3 := (HB.out.cell (World.block_lt_of_cell? w _ hxD_3)).trans hxD_3
          replace hxD_4 := (HB.out.cell (World.block_lt_of_cell? w _ hxD_4)).trans hxD_4
          replace hxD_5 := (HB.out.cell (World.block_lt_of_cell? w _ hxD_5)).trans hxD_5
          replace pD := eq_true pD
          (try replace pDz := eq_true pDz)
          replace qD := eq_true qD
          (try replace qDz := eq_true qDz)
          go_wp2
          repeat (go_quiet (fail); try go_wp2)
          go_ret
          exact ⟨by first | rfl | (simp [errW_none, errW_some] <;> rfl) | (simp [*, errW_none, errW_some] <;> rfl), by repeat (first | (with_reducible first | exact HB.out | apply below_alloc | apply pw_below_drewN | apply below_drew1 | refine below_set ?_ GEA.out | refine below_set ?_ GEB.out) | exact HB.out)⟩
         ·rw [if_neg c21] at H
          have c21b0 : (!((((rd_T32 l0_1 x5_2).f0).toList) == (((rd_T32 l1_1 x5_2).f0).toList)) || (!(((rd_T32 l0_1 x5_2).f1) == ((rd_T32 l1_1 x5_2).f1)) || (!(((rd_T32 l0_1 x5_2).f2) == ((rd_T32 l1_1 x5_2).f2)) || (!(((rd_T32 l0_1 x5_2).f3) == ((rd_T32 l1_1 x5_2).f3)) || (!(((rd_T32 l0_1 x5_2).f4) == ((rd_T32 l1_1 x5_2).f4)) || (!((((rd_T32 l0_1 x5_2).f5).toList) == (((rd_T32 l1_1 x5_2).f5).toList)))))))) = false := by simpa using c21
          clear c21
          have H' := Aside0.mk H
          clear H
          have hnb25 := NBA_B.out
          have hnc25 := NBB_A.out
          have hcz26_0 : wr.cell? ⟨gbA, 0, none⟩ = some (.int .i64 a0_0) := (blk_cell BKA.out 0).trans rfl
          have hcz26_1 : wr.cell? ⟨gbA, 1, none⟩ = some (.slice A0_1 l0_1.length c0_1) := (blk_cell BKA.out 1).trans rfl
          have hcz26_2 : wr.cell? ⟨gbA, 2, none⟩ = some (.slice A0_2 l0_2.length c0_2) := (blk_cell BKA.out 2).trans rfl
          have hfz26_0 := blk_frozen BKA.out 0
          have hfz26_1 := blk_frozen BKA.out 1
          have hfz26_2 := blk_frozen BKA.out 2
          have pC : 0 ≤ (x5_2 : Int) := of_decide_eq_true (by first | (with_reducible assumption) | assumption)
          have qC : x5_2 < (l0_1.length : Int) := of_decide_eq_true (by first | (with_reducible assumption) | assumption)
          obtain ⟨adC, eC, hxC_0, hxC_1, hxC_2, hxC_3, hxC_4, hxC_5⟩ := at_T32 HR0_1.out x5_2 pC qC
          cases eC
          replace hxC_0 := (HB.out.cell (World.block_lt_of_cell? w _ hxC_0)).trans hxC_0
          replace hxC_1 := (HB.out.cell (World.block_lt_of_cell? w _ hxC_1)).trans hxC_1
          replace hxC_2 := (HB.out.cell (World.block_lt_of_cell? w _ hxC_2)).trans hxC_2
          replace hxC_3 := (HB.out.cell (World.block_lt_of_cell? w _ hxC_3)).trans hxC_3
          replace hxC_4 := (HB.out.cell (World.block_lt_of_cell? w _ hxC_4)).trans hxC_4
          replace hxC_5 := (HB.out.cell (World.block_lt_of_cell? w _ hxC_5)).trans hxC_5
          replace pC := eq_true pC
          (try replace pCz := eq_true pCz)
          replace qC := eq_true qC
          (try replace qCz := eq_true qCz)
          have hcz27_0 : wr.cell? ⟨gbB, 0, none⟩ = some (.int .i64 a1_0) := (blk_cell BKB.out 0).trans rfl
          have hcz27_1 : wr.cell? ⟨gbB, 1, none⟩ = some (.slice A1_1 l1_1.length c1_1) := (blk_cell BKB.out 1).trans rfl
          have hcz27_2 : wr.cell? ⟨gbB, 2, none⟩ = some (.slice A1_2 l1_2.length c1_2) := (blk_cell BKB.out 2).trans rfl
          have hfz27_0 := blk_frozen BKB.out 0
          have hfz27_1 := blk_frozen BKB.out 1
          have hfz27_2 := blk_frozen BKB.out 2
          have pD : 0 ≤ (x5_2 : Int) := of_decide_eq_true (by first | (with_reducible assumption) | assumption)
          have qD : x5_2 < (l1_1.length : Int) := of_decide_eq_true (by first | (with_reducible assumption) | assumption)
          obtain ⟨adD, eD, hxD_0, hxD_1, hxD_2, hxD_3, hxD_4, hxD_5⟩ := at_T32 HR1_1.out x5_2 pD qD
          cases eD
          replace hxD_0 := (HB.out.cell (World.block_lt_of_cell? w _ hxD_0)).trans hxD_0
          replace hxD_1 := (HB.out.cell (World.block_lt_of_cell? w _ hxD_1)).trans hxD_1
          replace hxD_2 := (HB.out.cell (World.block_lt_of_cell? w _ hxD_2)).trans hxD_2
          replace hxD_3 := (HB.out.cell (World.block_lt_of_cell? w _ hxD_3)).trans hxD_3
          replace hxD_4 := (HB.out.cell (World.block_lt_of_cell? w _ hxD_4)).trans hxD_4
          replace hxD_5 := (HB.out.cell (World.block_lt_of_cell? w _ hxD_5)).trans hxD_5
          replace pD := eq_true pD
          (try replace pDz := eq_true pDz)
          replace qD := eq_true qD
          (try replace qDz := eq_true qDz)
          go_wp2
          repeat (go_quiet (fail); try go_wp2)
          go_roundg k2
          case measure => have := HJ2.out; have := HK2.out; omega
          case rel => exact ⟨(wrap64 (x5_2 + 1)), (by first | rfl | (simp; done) | (simp [*]; done)), H', ⟨by have := HJ2.out; have := HK2.out; omega⟩, ⟨by (with_reducible repeat (first | refine blk_drewN ?_ _ | refine blk_drew ?_ | refine blk_alloc ?_ _)); exact BKA.out⟩, ⟨by (with_reducible repeat (first | refine blk_drewN ?_ _ | refine blk_drew ?_ | refine blk_alloc ?_ _)); exact BKB.out⟩, ⟨by repeat (first | (with_reducible first | exact HB.out | apply below_alloc | apply pw_below_drewN | apply below_drew1 | refine below_set ?_ GEA.out | refine below_set ?_ GEB.out) | exact HB.out)⟩⟩
        ·rw [if_neg c20] at H
         exact absurd H (by simp)
       ·rw [if_neg c19] at H
        exact absurd H (by simp)
      ·rw [if_neg c18] at H
       have c18b0 : decide (x5_2 < (l0_1.length : Int)) = false := decide_eq_false c18
       clear c18
       have H' := Aside0.mk H
       clear H
       have hnb28 := NBA_B.out
       have hnc28 := NBB_A.out
       have hcz29_0 : wr.cell? ⟨gbA, 0, none⟩ = some (.int .i64 a0_0) := (blk_cell BKA.out 0).trans rfl
       have hcz29_1 : wr.cell? ⟨gbA, 1, none⟩ = some (.slice A0_1 l0_1.length c0_1) := (blk_cell BKA.out 1).trans rfl
       have hcz29_2 : wr.cell? ⟨gbA, 2, none⟩ = some (.slice A0_2 l0_2.length c0_2) := (blk_cell BKA.out 2).trans rfl
       have hfz29_0 := blk_frozen BKA.out 0
       have hfz29_1 := blk_frozen BKA.out 1
       have hfz29_2 := blk_frozen BKA.out 2
       go_wp2
       repeat (go_quiet (fail); try go_wp2)
       go_loopg [6] k2 (fun kq v6 w' => ∃ (x6_3 : Int), v6 = .int .i64 x6_3 ∧ Aside0 (billetlaw12_Same.l1 kq x6_3 a0_0 l0_1 l0_2 a1_0 l1_1 l1_2 = some r) ∧ Aside0 (kq ≤ k2) ∧ Aside0 (w'.heap[gbA]? = some (.cells #[.int .i64 a0_0, (.slice A0_1 l0_1.length c0_1), (.slice A0_2 l0_2.length c0_2)] 27 (0, 0))) ∧ Aside0 (w'.heap[gbB]? = some (.cells #[.int .i64 a1_0, (.slice A1_1 l1_1.length c1_1), (.slice A1_2 l1_2.length c1_2)] 27 (0, 0))) ∧ Aside0 (Below w.heap.size w w'))
       case atStart => exact ⟨(0), (by first | rfl | (simp; done) | (simp [*]; done)), H', ⟨Nat.le_refl _⟩, ⟨by (with_reducible repeat (first | refine blk_drewN ?_ _ | refine blk_drew ?_ | refine blk_alloc ?_ _)); exact BKA.out⟩, ⟨by (with_reducible repeat (first | refine blk_drewN ?_ _ | refine blk_drew ?_ | refine blk_alloc ?_ _)); exact BKB.out⟩, ⟨by repeat (first | (with_reducible first | exact HB.out | apply below_alloc | apply pw_below_drewN | apply below_drew1 | refine below_set ?_ GEA.out | refine below_set ?_ GEB.out) | exact HB.out)⟩⟩
       case round =>
        clear H'
        clear c18b0 hcz29_0 hcz29_1 hcz29_2 hfz29_0 hfz29_1 hfz29_2
        obtain ⟨x6_3, rfl, HA, HK3, BKA, BKB, HB⟩ := hrel
        cases gk with
        | zero => exact absurd HA.out (by simp [billetlaw12_Same.l1])
        | succ k3 =>
         have H := HA.out
         clear HA
         simp only [billetlaw12_Same.l1] at H
         by_cases c30 : x6_3 < (l0_2.length : Int)
         ·rw [if_pos c30] at H
          have c30b0 : decide (x6_3 < (l0_2.length : Int)) = true := decide_eq_true c30
          clear c30
          by_cases c31 : 0 ≤ x6_3
          ·rw [if_pos c31] at H
           have c31b0 : decide (0 ≤ x6_3) = true := decide_eq_true c31
           clear c31
           by_cases c32 : x6_3 < (l1_2.length : Int)
           ·rw [if_pos c32] at H
            have c32b0 : decide (x6_3 < (l1_2.length : Int)) = true := decide_eq_true c32
            clear c32
            by_cases c33 : (!((((rd_T34 l0_2 x6_3).f0).toList) == (((rd_T34 l1_2 x6_3).f0).toList)) || (!(((rd_T34 l0_2 x6_3).f1) == ((rd_T34 l1_2 x6_3).f1)) || (!(((rd_T34 l0_2 x6_3).f2) == ((rd_T34 l1_2 x6_3).f2)) || (!((((rd_T34 l0_2 x6_3).f3).toList) == (((rd_T34 l1_2 x6_3).f3).toList)) || (!(((rd_T34 l0_2 x6_3).f4) == ((rd_T34 l1_2 x6_3).f4))))))) = true
            ·rw [if_pos c33] at H
             have c33b0 : (!((((rd_T34 l0_2 x6_3).f0).toList) == (((rd_T34 l1_2 x6_3).f0).toList)) || (!(((rd_T34 l0_2 x6_3).f1) == ((rd_T34 l1_2 x6_3).f1)) || (!(((rd_T34 l0_2 x6_3).f2) == ((rd_T34 l1_2 x6_3).f2)) || (!((((rd_T34 l0_2 x6_3).f3).toList) == (((rd_T34 l1_2 x6_3).f3).toList)) || (!(((rd_T34 l0_2 x6_3).f4) == ((rd_T34 l1_2 x6_3).f4))))))) = true := c33
             clear c33
             obtain rfl := Option.some.inj H
             have hnb34 := NBA_B.out
             have hnc34 := NBB_A.out
             have hcz35_0 : wr.cell? ⟨gbA, 0, none⟩ = some (.int .i64 a0_0) := (blk_cell BKA.out 0).trans rfl
             have hcz35_1 : wr.cell? ⟨gbA, 1, none⟩ = some (.slice A0_1 l0_1.length c0_1) := (blk_cell BKA.out 1).trans rfl
             have hcz35_2 : wr.cell? ⟨gbA, 2, none⟩ = some (.slice A0_2 l0_2.length c0_2) := (blk_cell BKA.out 2).trans rfl
             have hfz35_0 := blk_frozen BKA.out 0
             have hfz35_1 := blk_frozen BKA.out 1
             have hfz35_2 := blk_frozen BKA.out 2
             have pE : 0 ≤ (x6_3 : Int) := of_decide_eq_true (by first | (with_reducible assumption) | assumption)
             have qE : x6_3 < (l0_2.length : Int) := of_decide_eq_true (by first | (with_reducible assumption) | assumption)
             obtain ⟨adE, eE, hxE_0, hxE_1, hxE_2, hxE_3, hxE_4⟩ := at_T34 HR0_2.out x6_3 pE qE
             cases eE
             replace hxE_0 := (HB.out.cell (World.block_lt_of_cell? w _ hxE_0)).trans hxE_0
             replace hxE_1 := (HB.out.cell (World.block_lt_of_cell? w _ hxE_1)).trans hxE_1
             replace hxE_2 := (HB.out.cell (World.block_lt_of_cell? w _ hxE_2)).trans hxE_2
             replace hxE_3 := (HB.out.cell (World.block_lt_of_cell? w _ hxE_3)).trans hxE_3
             replace hxE_4 := (HB.out.cell (World.block_lt_of_cell? w _ hxE_4)).trans hxE_4
             replace pE := eq_true pE
             (try replace pEz := eq_true pEz)
             replace qE := eq_true qE
             (try replace qEz := eq_true qEz)
             have hcz36_0 : wr.cell? ⟨gbB, 0, none⟩ = some (.int .i64 a1_0) := (blk_cell BKB.out 0).trans rfl
             have hcz36_1 : wr.cell? ⟨gbB, 1, none⟩ = some (.slice A1_1 l1_1.length c1_1) := (blk_cell BKB.out 1).trans rfl
             have hcz36_2 : wr.cell? ⟨gbB, 2, none⟩ = some (.slice A1_2 l1_2.length c1_2) := (blk_cell BKB.out 2).trans rfl
             have hfz36_0 := blk_frozen BKB.out 0
             have hfz36_1 := blk_frozen BKB.out 1
             have hfz36_2 := blk_frozen BKB.out 2
             have pF : 0 ≤ (x6_3 : Int) := of_decide_eq_true (by first | (with_reducible assumption) | assumption)
             have qF : x6_3 < (l1_2.length : Int) := of_decide_eq_true (by first | (with_reducible assumption) | assumption)
             obtain ⟨adF, eF, hxF_0, hxF_1, hxF_2, hxF_3, hxF_4⟩ := at_T34 HR1_2.out x6_3 pF qF
             cases eF
             replace hxF_0 := (HB.out.cell (World.block_lt_of_cell? w _ hxF_0)).trans hxF_0
             replace hxF_1 := (HB.out.cell (World.block_lt_of_cell? w _ hxF_1)).trans hxF_1
             replace hxF_2 := (HB.out.cell (World.block_lt_of_cell? w _ hxF_2)).trans hxF_2
             replace hxF_3 := (HB.out.cell (World.block_lt_of_cell? w _ hxF_3)).trans hxF_3
             replace hxF_4 := (HB.out.cell (World.block_lt_of_cell? w _ hxF_4)).trans hxF_4
             replace pF := eq_true pF
             (try replace pFz := eq_true pFz)
             replace qF := eq_true qF
             (try replace qFz := eq_true qFz)
             go_wp2
             repeat (go_quiet (fail); try go_wp2)
             go_ret
             exact ⟨by first | rfl | (simp [errW_none, errW_some] <;> rfl) | (simp [*, errW_none, errW_some] <;> rfl), by repeat (first | (with_reducible first | exact HB.out | apply below_alloc | apply pw_below_drewN | apply below_drew1 | refine below_set ?_ GEA.out | refine below_set ?_ GEB.out) | exact HB.out)⟩
            ·rw [if_neg c33] at H
             have c33b0 : (!((((rd_T34 l0_2 x6_3).f0).toList) == (((rd_T34 l1_2 x6_3).f0).toList)) || (!(((rd_T34 l0_2 x6_3).f1) == ((rd_T34 l1_2 x6_3).f1)) || (!(((rd_T34 l0_2 x6_3).f2) == ((rd_T34 l1_2 x6_3).f2)) || (!((((rd_T34 l0_2 x6_3).f3).toList) == (((rd_T34 l1_2 x6_3).f3).toList)) || (!(((rd_T34 l0_2 x6_3).f4) == ((rd_T34 l1_2 x6_3).f4))))))) = false := by simpa using c33
             clear c33
             have H' := Aside0.mk H
             clear H
             have hnb37 := NBA_B.out
             have hnc37 := NBB_A.out
             have hcz38_0 : wr.cell? ⟨gbA, 0, none⟩ = some (.int .i64 a0_0) := (blk_cell BKA.out 0).trans rfl
             have hcz38_1 : wr.cell? ⟨gbA, 1, none⟩ = some (.slice A0_1 l0_1.length c0_1) := (blk_cell BKA.out 1).trans rfl
             have hcz38_2 : wr.cell? ⟨gbA, 2, none⟩ = some (.slice A0_2 l0_2.length c0_2) := (blk_cell BKA.out 2).trans rfl
             have hfz38_0 := blk_frozen BKA.out 0
             have hfz38_1 := blk_frozen BKA.out 1
             have hfz38_2 := blk_frozen BKA.out 2
             have pE : 0 ≤ (x6_3 : Int) := of_decide_eq_true (by first | (with_reducible assumption) | assumption)
             have qE : x6_3 < (l0_2.length : Int) := of_decide_eq_true (by first | (with_reducible assumption) | assumption)
             obtain ⟨adE, eE, hxE_0, hxE_1, hxE_2, hxE_3, hxE_4⟩ := at_T34 HR0_2.out x6_3 pE qE
             cases eE
             replace hxE_0 := (HB.out.cell (World.block_lt_of_cell? w _ hxE_0)).trans hxE_0
             replace hxE_1 := (HB.out.cell (World.block_lt_of_cell? w _ hxE_1)).trans hxE_1
             replace hxE_2 := (HB.out.cell (World.block_lt_of_cell? w _ hxE_2)).trans hxE_2
             replace hxE_3 := (HB.out.cell (World.block_lt_of_cell? w _ hxE_3)).trans hxE_3
             replace hxE_4 := (HB.out.cell (World.block_lt_of_cell? w _ hxE_4)).trans hxE_4
             replace pE := eq_true pE
             (try replace pEz := eq_true pEz)
             replace qE := eq_true qE
             (try replace qEz := eq_true qEz)
             have hcz39_0 : wr.cell? ⟨gbB, 0, none⟩ = some (.int .i64 a1_0) := (blk_cell BKB.out 0).trans rfl
             have hcz39_1 : wr.cell? ⟨gbB, 1, none⟩ = some (.slice A1_1 l1_1.length c1_1) := (blk_cell BKB.out 1).trans rfl
             have hcz39_2 : wr.cell? ⟨gbB, 2, none⟩ = some (.slice A1_2 l1_2.length c1_2) := (blk_cell BKB.out 2).trans rfl
             have hfz39_0 := blk_frozen BKB.out 0
             have hfz39_1 := blk_frozen BKB.out 1
             have hfz39_2 := blk_frozen BKB.out 2
             have pF : 0 ≤ (x6_3 : Int) := of_decide_eq_true (by first | (with_reducible assumption) | assumption)
             have qF : x6_3 < (l1_2.length : Int) := of_decide_eq_true (by first | (with_reducible assumption) | assumption)
             obtain ⟨adF, eF, hxF_0, hxF_1, hxF_2, hxF_3, hxF_4⟩ := at_T34 HR1_2.out x6_3 pF qF
             cases eF
             replace hxF_0 := (HB.out.cell (World.block_lt_of_cell? w _ hxF_0)).trans hxF_0
             replace hxF_1 := (HB.out.cell (World.block_lt_of_cell? w _ hxF_1)).trans hxF_1
             replace hxF_2 := (HB.out.cell (World.block_lt_of_cell? w _ hxF_2)).trans hxF_2
             replace hxF_3 := (HB.out.cell (World.block_lt_of_cell? w _ hxF_3)).trans hxF_3
             replace hxF_4 := (HB.out.cell (World.block_lt_of_cell? w _ hxF_4)).trans hxF_4
             replace pF := eq_true pF
             (try replace pFz := eq_true pFz)
             replace qF := eq_true qF
             (try replace qFz := eq_true qFz)
             go_wp2
             repeat (go_quiet (fail); try go_wp2)
             go_roundg k3
             case measure => have := HJ2.out; have := HK2.out; have := HK3.out; omega
             case rel => exact ⟨(wrap64 (x6_3 + 1)), (by first | rfl | (simp; done) | (simp [*]; done)), H', ⟨by have := HJ2.out; have := HK2.out; have := HK3.out; omega⟩, ⟨by (with_reducible repeat (first | refine blk_drewN ?_ _ | refine blk_drew ?_ | refine blk_alloc ?_ _)); exact BKA.out⟩, ⟨by (with_reducible repeat (first | refine blk_drewN ?_ _ | refine blk_drew ?_ | refine blk_alloc ?_ _)); exact BKB.out⟩, ⟨by repeat (first | (with_reducible first | exact HB.out | apply below_alloc | apply pw_below_drewN | apply below_drew1 | refine below_set ?_ GEA.out | refine below_set ?_ GEB.out) | exact HB.out)⟩⟩
           ·rw [if_neg c32] at H
            exact absurd H (by simp)
          ·rw [if_neg c31] at H
           exact absurd H (by simp)
         ·rw [if_neg c30] at H
          have c30b0 : decide (x6_3 < (l0_2.length : Int)) = false := decide_eq_false c30
          clear c30
          obtain rfl := Option.some.inj H
          have hnb40 := NBA_B.out
          have hnc40 := NBB_A.out
          have hcz41_0 : wr.cell? ⟨gbA, 0, none⟩ = some (.int .i64 a0_0) := (blk_cell BKA.out 0).trans rfl
          have hcz41_1 : wr.cell? ⟨gbA, 1, none⟩ = some (.slice A0_1 l0_1.length c0_1) := (blk_cell BKA.out 1).trans rfl
          have hcz41_2 : wr.cell? ⟨gbA, 2, none⟩ = some (.slice A0_2 l0_2.length c0_2) := (blk_cell BKA.out 2).trans rfl
          have hfz41_0 := blk_frozen BKA.out 0
          have hfz41_1 := blk_frozen BKA.out 1
          have hfz41_2 := blk_frozen BKA.out 2
          go_wp2
          repeat (go_quiet (fail); try go_wp2)
          go_ret
          exact ⟨by first | rfl | (simp [errW_none, errW_some] <;> rfl) | (simp [*, errW_none, errW_some] <;> rfl), by repeat (first | (with_reducible first | exact HB.out | apply below_alloc | apply pw_below_drewN | apply below_drew1 | refine below_set ?_ GEA.out | refine below_set ?_ GEB.out) | exact HB.out)⟩

end Go.Proofs.YtldlkbjbfgieeaaGreatDoor.Q
