-- Written by a program of this session (mp.py).
import Derived.Test.YtpgifeoigconbaaDoorSl
import Derived.Test.YtpgifeoigconbaaDoorQx0
import Derived.Test.YtpgifeoigconbaaDoorQx44
namespace Go.Proofs.YtpgifeoigconbaaDoor.Q
open Go.RowKit Go.Proofs.YtpgifeoigconbaaDoorW.PrintWords Go.Proofs.YtpgifeoigconbaaDoorW.PrintLast Go.Proofs.YtpgifeoigconbaaDoor.Mo
attribute [local go_sem high] Go.Proofs.YtpgifeoigconbaaDoor.Sl.gtr_less Go.Proofs.YtpgifeoigconbaaDoor.Sl.leq_less
attribute [local go_sem] max2_int min2_int max_two min_two max_three min_three max_four min_four   -- for this text's walks alone
open Go.Proofs.YtpgifeoigconbaaDoor.Gn
set_option linter.unusedVariables false
set_option linter.unusedSimpArgs false

/-! ### billetref16_Right: function 24 -/
mutual
def billetref16_Right.j0 : Nat → Bool → Int → Int → Int → Int → Int → Int → List (S35) → Option (Bool)
 | 0, _, _, _, _, _, _, _, _ => none
 | k + 1, x70, xH, xI, xJ, xK, xL, xM, xG => if x70 = true then (some false) else (billetref16_Right.l0 k 0 xH xI xJ xK xL xM xG)
def billetref16_Right.l0 : Nat → Int → Int → Int → Int → Int → Int → Int → List (S35) → Option (Bool)
 | 0, _, _, _, _, _, _, _, _ => none
 | k + 1, x3, xH, xI, xJ, xK, xL, xM, xG => if x3 < (xG.length : Int) then (if 0 ≤ x3 then ((billetref04_IsName.f k ((rd_T35 xG x3).f0)).bind fun tO => ((billetref04_IsName.f k ((rd_T35 xG x3).f1)).bind fun tN => (if tO = true then (if tN = true then (if ((rd_T35 xG x3).f2) < 1 then (billetref16_Right.j2 k x3 true xH xI xJ xK xL xM xG ((rd_T35 xG x3).f0) ((rd_T35 xG x3).f1) ((rd_T35 xG x3).f2)) else (billetref16_Right.j2 k x3 (decide (((rd_T35 xG x3).f2) > 1000)) xH xI xJ xK xL xM xG ((rd_T35 xG x3).f0) ((rd_T35 xG x3).f1) ((rd_T35 xG x3).f2))) else (billetref16_Right.j2 k x3 true xH xI xJ xK xL xM xG ((rd_T35 xG x3).f0) ((rd_T35 xG x3).f1) ((rd_T35 xG x3).f2))) else (billetref16_Right.j2 k x3 true xH xI xJ xK xL xM xG ((rd_T35 xG x3).f0) ((rd_T35 xG x3).f1) ((rd_T35 xG x3).f2))))) else (none)) else (some true)
def billetref16_Right.j2 : Nat → Int → Bool → Int → Int → Int → Int → Int → Int → List (S35) → ByteArray → ByteArray → Int → Option (Bool)
 | 0, _, _, _, _, _, _, _, _, _, _, _, _ => none
 | k + 1, x3, xP, xH, xI, xJ, xK, xL, xM, xG, xQ, xT, xU => if xP = true then (some false) else (if x3 > 0 then (if 0 ≤ (wrap64 (x3 - 1)) then (if (wrap64 (x3 - 1)) < (xG.length : Int) then (if (Op.bytesLess xQ.toList (((rd_T35 xG (wrap64 (x3 - 1))).f0).toList)) = true then (some false) else (if ((rd_T35 xG (wrap64 (x3 - 1))).f0).toList = xQ.toList then (if ((Op.bytesLess (((rd_T35 xG (wrap64 (x3 - 1))).f1).toList) xT.toList) = true) then (billetref16_Right.l0 k (wrap64 (x3 + 1)) xH xI xJ xK xL xM xG) else (some false)) else (billetref16_Right.l0 k (wrap64 (x3 + 1)) xH xI xJ xK xL xM xG))) else (none)) else (none)) else (billetref16_Right.l0 k (wrap64 (x3 + 1)) xH xI xJ xK xL xM xG))
end
def billetref16_Right.f (k : Nat) (a0_0 : Int) (a0_1 : Int) (a0_2 : Int) (a0_3 : Int) (a0_4 : Int) (a0_5 : Int) (l0_6 : List (S35)) : Option (Bool) := if a0_0 = 1 then (if a0_1 < 0 then (billetref16_Right.j0 k true a0_0 a0_1 a0_2 a0_3 a0_4 a0_5 l0_6) else (if a0_1 ≥ 3 then (billetref16_Right.j0 k true a0_0 a0_1 a0_2 a0_3 a0_4 a0_5 l0_6) else (if a0_2 < 0 then (billetref16_Right.j0 k true a0_0 a0_1 a0_2 a0_3 a0_4 a0_5 l0_6) else (if a0_2 > 1099511627776 then (billetref16_Right.j0 k true a0_0 a0_1 a0_2 a0_3 a0_4 a0_5 l0_6) else (if a0_3 < 0 then (billetref16_Right.j0 k true a0_0 a0_1 a0_2 a0_3 a0_4 a0_5 l0_6) else (if a0_3 > 1099511627776 then (billetref16_Right.j0 k true a0_0 a0_1 a0_2 a0_3 a0_4 a0_5 l0_6) else (if a0_4 < 0 then (billetref16_Right.j0 k true a0_0 a0_1 a0_2 a0_3 a0_4 a0_5 l0_6) else (if a0_4 > 1099511627776 then (billetref16_Right.j0 k true a0_0 a0_1 a0_2 a0_3 a0_4 a0_5 l0_6) else (if a0_5 < (-2199023255552) then (billetref16_Right.j0 k true a0_0 a0_1 a0_2 a0_3 a0_4 a0_5 l0_6) else (if a0_5 > 2199023255552 then (billetref16_Right.j0 k true a0_0 a0_1 a0_2 a0_3 a0_4 a0_5 l0_6) else (billetref16_Right.j0 k (decide ((l0_6.length : Int) > 64)) a0_0 a0_1 a0_2 a0_3 a0_4 a0_5 l0_6))))))))))) else (if a0_0 = 2 then (if a0_1 < 0 then (billetref16_Right.j0 k true a0_0 a0_1 a0_2 a0_3 a0_4 a0_5 l0_6) else (if a0_1 ≥ 3 then (billetref16_Right.j0 k true a0_0 a0_1 a0_2 a0_3 a0_4 a0_5 l0_6) else (if a0_2 < 0 then (billetref16_Right.j0 k true a0_0 a0_1 a0_2 a0_3 a0_4 a0_5 l0_6) else (if a0_2 > 1099511627776 then (billetref16_Right.j0 k true a0_0 a0_1 a0_2 a0_3 a0_4 a0_5 l0_6) else (if a0_3 < 0 then (billetref16_Right.j0 k true a0_0 a0_1 a0_2 a0_3 a0_4 a0_5 l0_6) else (if a0_3 > 1099511627776 then (billetref16_Right.j0 k true a0_0 a0_1 a0_2 a0_3 a0_4 a0_5 l0_6) else (if a0_4 < 0 then (billetref16_Right.j0 k true a0_0 a0_1 a0_2 a0_3 a0_4 a0_5 l0_6) else (if a0_4 > 1099511627776 then (billetref16_Right.j0 k true a0_0 a0_1 a0_2 a0_3 a0_4 a0_5 l0_6) else (if a0_5 < (-2199023255552) then (billetref16_Right.j0 k true a0_0 a0_1 a0_2 a0_3 a0_4 a0_5 l0_6) else (if a0_5 > 2199023255552 then (billetref16_Right.j0 k true a0_0 a0_1 a0_2 a0_3 a0_4 a0_5 l0_6) else (billetref16_Right.j0 k (decide ((l0_6.length : Int) > 64)) a0_0 a0_1 a0_2 a0_3 a0_4 a0_5 l0_6))))))))))) else (billetref16_Right.j0 k true a0_0 a0_1 a0_2 a0_3 a0_4 a0_5 l0_6))
theorem billetref16_Right.mono_l : ∀ k, (∀ y0 y1 y2 y3 y4 y5 y6 y7, LeO (billetref16_Right.j0 k y0 y1 y2 y3 y4 y5 y6 y7) (billetref16_Right.j0 (k + 1) y0 y1 y2 y3 y4 y5 y6 y7)) ∧ (∀ y0 y1 y2 y3 y4 y5 y6 y7, LeO (billetref16_Right.l0 k y0 y1 y2 y3 y4 y5 y6 y7) (billetref16_Right.l0 (k + 1) y0 y1 y2 y3 y4 y5 y6 y7)) ∧ (∀ y0 y1 y2 y3 y4 y5 y6 y7 y8 y9 y10 y11, LeO (billetref16_Right.j2 k y0 y1 y2 y3 y4 y5 y6 y7 y8 y9 y10 y11) (billetref16_Right.j2 (k + 1) y0 y1 y2 y3 y4 y5 y6 y7 y8 y9 y10 y11))
 | 0 => ⟨fun _ _ _ _ _ _ _ _ r h => by simp [billetref16_Right.j0] at h, fun _ _ _ _ _ _ _ _ r h => by simp [billetref16_Right.l0] at h, fun _ _ _ _ _ _ _ _ _ _ _ _ r h => by simp [billetref16_Right.j2] at h⟩
 | k + 1 => by
  obtain ⟨ih0, ih1, ih2⟩ := billetref16_Right.mono_l k
  refine ⟨?_, ?_, ?_⟩
  ·intro y0 y1 y2 y3 y4 y5 y6 y7
   unfold billetref16_Right.j0
   repeat' first
   | (with_reducible exact ih0 _ _ _ _ _ _ _ _)
   | (with_reducible exact ih1 _ _ _ _ _ _ _ _)
   | (with_reducible exact ih2 _ _ _ _ _ _ _ _ _ _ _ _)
   | (with_reducible exact billetref04_IsName.mono _ _)
   | (with_reducible exact LeO.refl _)
   | (with_reducible exact LeO.none _)
   | (with_reducible refine LeO.ite ?_ ?_)
   | (with_reducible refine LeO.bind ?_ (fun _ => ?_))
   | exact ih0 _ _ _ _ _ _ _ _
   | exact ih1 _ _ _ _ _ _ _ _
   | exact ih2 _ _ _ _ _ _ _ _ _ _ _ _
   | exact billetref04_IsName.mono _ _
   | exact LeO.none _
   | refine LeO.ite ?_ ?_
   | refine LeO.bind ?_ (fun _ => ?_)
  ·intro y0 y1 y2 y3 y4 y5 y6 y7
   unfold billetref16_Right.l0
   repeat' first
   | (with_reducible exact ih0 _ _ _ _ _ _ _ _)
   | (with_reducible exact ih1 _ _ _ _ _ _ _ _)
   | (with_reducible exact ih2 _ _ _ _ _ _ _ _ _ _ _ _)
   | (with_reducible exact billetref04_IsName.mono _ _)
   | (with_reducible exact LeO.refl _)
   | (with_reducible exact LeO.none _)
   | (with_reducible refine LeO.ite ?_ ?_)
   | (with_reducible refine LeO.bind ?_ (fun _ => ?_))
   | exact ih0 _ _ _ _ _ _ _ _
   | exact ih1 _ _ _ _ _ _ _ _
   | exact ih2 _ _ _ _ _ _ _ _ _ _ _ _
   | exact billetref04_IsName.mono _ _
   | exact LeO.none _
   | refine LeO.ite ?_ ?_
   | refine LeO.bind ?_ (fun _ => ?_)
  ·intro y0 y1 y2 y3 y4 y5 y6 y7 y8 y9 y10 y11
   unfold billetref16_Right.j2
   repeat' first
   | (with_reducible exact ih0 _ _ _ _ _ _ _ _)
   | (with_reducible exact ih1 _ _ _ _ _ _ _ _)
   | (with_reducible exact ih2 _ _ _ _ _ _ _ _ _ _ _ _)
   | (with_reducible exact billetref04_IsName.mono _ _)
   | (with_reducible exact LeO.refl _)
   | (with_reducible exact LeO.none _)
   | (with_reducible refine LeO.ite ?_ ?_)
   | (with_reducible refine LeO.bind ?_ (fun _ => ?_))
   | exact ih0 _ _ _ _ _ _ _ _
   | exact ih1 _ _ _ _ _ _ _ _
   | exact ih2 _ _ _ _ _ _ _ _ _ _ _ _
   | exact billetref04_IsName.mono _ _
   | exact LeO.none _
   | refine LeO.ite ?_ ?_
   | refine LeO.bind ?_ (fun _ => ?_)
theorem billetref16_Right.mono : ∀ a0 a1 a2 a3 a4 a5 a6 k, LeO (billetref16_Right.f k a0 a1 a2 a3 a4 a5 a6) (billetref16_Right.f (k + 1) a0 a1 a2 a3 a4 a5 a6) := by
 intro a0 a1 a2 a3 a4 a5 a6 k
 obtain ⟨ih0, ih1, ih2⟩ := billetref16_Right.mono_l k
 unfold billetref16_Right.f
 repeat' first
   | (with_reducible exact ih0 _ _ _ _ _ _ _ _)
   | (with_reducible exact ih1 _ _ _ _ _ _ _ _)
   | (with_reducible exact ih2 _ _ _ _ _ _ _ _ _ _ _ _)
   | (with_reducible exact billetref04_IsName.mono _ _)
   | (with_reducible exact LeO.refl _)
   | (with_reducible exact LeO.none _)
   | (with_reducible refine LeO.ite ?_ ?_)
   | (with_reducible refine LeO.bind ?_ (fun _ => ?_))
   | exact ih0 _ _ _ _ _ _ _ _
   | exact ih1 _ _ _ _ _ _ _ _
   | exact ih2 _ _ _ _ _ _ _ _ _ _ _ _
   | exact billetref04_IsName.mono _ _
   | exact LeO.none _
   | refine LeO.ite ?_ ?_
   | refine LeO.bind ?_ (fun _ => ?_)
set_option maxHeartbeats 8000000 in
set_option maxRecDepth 100000 in
theorem billetref16_Right.calls (k : Nat) (a0_0 : Int) (a0_1 : Int) (a0_2 : Int) (a0_3 : Int) (a0_4 : Int) (a0_5 : Int) (A0_6 : Option Addr) (c0_6 : Nat) (l0_6 : List (S35)) (r : Bool) (w : World) (hr0_6 : Kd.C k35 w A0_6 l0_6.length l0_6) (hc0_6 : l0_6.length ≤ c0_6) (h : billetref16_Right.f k a0_0 a0_1 a0_2 a0_3 a0_4 a0_5 l0_6 = some r) :
  Calls Tryd.prog 24 #[.agg #[.int .i64 a0_0, .int .i64 a0_1, .int .i64 a0_2, .int .i64 a0_3, .int .i64 a0_4, .int .i64 a0_5, .slice A0_6 l0_6.length c0_6]] w fun e w' => e = .returned (.bool r) ∧ Below w.heap.size w w' := by
 have hu31 := Tryd.underlying31
 have hu35 := Tryd.underlying35
 have HR0_6 := Aside0.mk hr0_6
 have HC0_6 := Aside0.mk hc0_6
 clear hr0_6 hc0_6
 have HB := Aside0.mk (Below.refl w.heap.size w)
 have H : (if a0_0 = 1 then (if a0_1 < 0 then (billetref16_Right.j0 k true a0_0 a0_1 a0_2 a0_3 a0_4 a0_5 l0_6) else (if a0_1 ≥ 3 then (billetref16_Right.j0 k true a0_0 a0_1 a0_2 a0_3 a0_4 a0_5 l0_6) else (if a0_2 < 0 then (billetref16_Right.j0 k true a0_0 a0_1 a0_2 a0_3 a0_4 a0_5 l0_6) else (if a0_2 > 1099511627776 then (billetref16_Right.j0 k true a0_0 a0_1 a0_2 a0_3 a0_4 a0_5 l0_6) else (if a0_3 < 0 then (billetref16_Right.j0 k true a0_0 a0_1 a0_2 a0_3 a0_4 a0_5 l0_6) else (if a0_3 > 1099511627776 then (billetref16_Right.j0 k true a0_0 a0_1 a0_2 a0_3 a0_4 a0_5 l0_6) else (if a0_4 < 0 then (billetref16_Right.j0 k true a0_0 a0_1 a0_2 a0_3 a0_4 a0_5 l0_6) else (if a0_4 > 1099511627776 then (billetref16_Right.j0 k true a0_0 a0_1 a0_2 a0_3 a0_4 a0_5 l0_6) else (if a0_5 < (-2199023255552) then (billetref16_Right.j0 k true a0_0 a0_1 a0_2 a0_3 a0_4 a0_5 l0_6) else (if a0_5 > 2199023255552 then (billetref16_Right.j0 k true a0_0 a0_1 a0_2 a0_3 a0_4 a0_5 l0_6) else (billetref16_Right.j0 k (decide ((l0_6.length : Int) > 64)) a0_0 a0_1 a0_2 a0_3 a0_4 a0_5 l0_6))))))))))) else (if a0_0 = 2 then (if a0_1 < 0 then (billetref16_Right.j0 k true a0_0 a0_1 a0_2 a0_3 a0_4 a0_5 l0_6) else (if a0_1 ≥ 3 then (billetref16_Right.j0 k true a0_0 a0_1 a0_2 a0_3 a0_4 a0_5 l0_6) else (if a0_2 < 0 then (billetref16_Right.j0 k true a0_0 a0_1 a0_2 a0_3 a0_4 a0_5 l0_6) else (if a0_2 > 1099511627776 then (billetref16_Right.j0 k true a0_0 a0_1 a0_2 a0_3 a0_4 a0_5 l0_6) else (if a0_3 < 0 then (billetref16_Right.j0 k true a0_0 a0_1 a0_2 a0_3 a0_4 a0_5 l0_6) else (if a0_3 > 1099511627776 then (billetref16_Right.j0 k true a0_0 a0_1 a0_2 a0_3 a0_4 a0_5 l0_6) else (if a0_4 < 0 then (billetref16_Right.j0 k true a0_0 a0_1 a0_2 a0_3 a0_4 a0_5 l0_6) else (if a0_4 > 1099511627776 then (billetref16_Right.j0 k true a0_0 a0_1 a0_2 a0_3 a0_4 a0_5 l0_6) else (if a0_5 < (-2199023255552) then (billetref16_Right.j0 k true a0_0 a0_1 a0_2 a0_3 a0_4 a0_5 l0_6) else (if a0_5 > 2199023255552 then (billetref16_Right.j0 k true a0_0 a0_1 a0_2 a0_3 a0_4 a0_5 l0_6) else (billetref16_Right.j0 k (decide ((l0_6.length : Int) > 64)) a0_0 a0_1 a0_2 a0_3 a0_4 a0_5 l0_6))))))))))) else (billetref16_Right.j0 k true a0_0 a0_1 a0_2 a0_3 a0_4 a0_5 l0_6))) = some r := h
 clear h
 have HC2 := Aside0.mk H
 clear H
 go_enter Tryd.func24, Tryd.ntmps24
 go_upto_region 1 with (first | ((with_reducible refine gate_dst (N := 1) rfl ?_); (try (refine gate_guard (by rfl) ?_; dsimp only)); refine box_event ?hg (N := 1) ?hd (cs := #[.int .i64 a0_0, .int .i64 a0_1, .int .i64 a0_2, .int .i64 a0_3, .int .i64 a0_4, .int .i64 a0_5, .slice A0_6 l0_6.length c0_6]) (t := 31) ?hr ?_; (case hd => rfl); (case hg => rfl); (case hr => first | (go_simp; done) | (go_simp; rfl)); intro gbA hg w3 hbox hb; have n0_ := Aside0.mk (below_step (by repeat (first | (with_reducible first | exact HB.out | apply below_alloc | apply pw_below_drewN | apply below_drew1) | exact HB.out)) hb); have n1_ := Aside0.mk (hbox); have n2_ := Aside0.mk ((by rw [hg]; exact (below_size (by repeat (first | (with_reducible first | exact HB.out | apply below_alloc | apply pw_below_drewN | apply below_drew1) | exact HB.out))) : w.heap.size ≤ gbA)); have n3_ := Aside0.mk ((by rw [hg]; exact (below_size (by repeat (first | (with_reducible first | exact HB.out | apply below_alloc | apply pw_below_drewN | apply below_drew1) | exact HB.out))) : w.heap.size ≤ gbA)); clear HB; have HB := n0_; have BKA := n1_; have GWA := n2_; have GEA := n3_; clear n0_ n1_ n2_ n3_; clear hb hbox hg))
 repeat (go_quiet (first | ((with_reducible refine gate_dst (N := 1) rfl ?_); (try (refine gate_guard (by rfl) ?_; dsimp only)); refine box_event ?hg (N := 1) ?hd (cs := #[.int .i64 a0_0, .int .i64 a0_1, .int .i64 a0_2, .int .i64 a0_3, .int .i64 a0_4, .int .i64 a0_5, .slice A0_6 l0_6.length c0_6]) (t := 31) ?hr ?_; (case hd => rfl); (case hg => rfl); (case hr => first | (go_simp; done) | (go_simp; rfl)); intro gbA hg w3 hbox hb; have n0_ := Aside0.mk (below_step (by repeat (first | (with_reducible first | exact HB.out | apply below_alloc | apply pw_below_drewN | apply below_drew1) | exact HB.out)) hb); have n1_ := Aside0.mk (hbox); have n2_ := Aside0.mk ((by rw [hg]; exact (below_size (by repeat (first | (with_reducible first | exact HB.out | apply below_alloc | apply pw_below_drewN | apply below_drew1) | exact HB.out))) : w.heap.size ≤ gbA)); have n3_ := Aside0.mk ((by rw [hg]; exact (below_size (by repeat (first | (with_reducible first | exact HB.out | apply below_alloc | apply pw_below_drewN | apply below_drew1) | exact HB.out))) : w.heap.size ≤ gbA)); clear HB; have HB := n0_; have BKA := n1_; have GWA := n2_; have GEA := n3_; clear n0_ n1_ n2_ n3_; clear hb hbox hg)); go_upto_region 1 with (first | ((with_reducible refine gate_dst (N := 1) rfl ?_); (try (refine gate_guard (by rfl) ?_; dsimp only)); refine box_event ?hg (N := 1) ?hd (cs := #[.int .i64 a0_0, .int .i64 a0_1, .int .i64 a0_2, .int .i64 a0_3, .int .i64 a0_4, .int .i64 a0_5, .slice A0_6 l0_6.length c0_6]) (t := 31) ?hr ?_; (case hd => rfl); (case hg => rfl); (case hr => first | (go_simp; done) | (go_simp; rfl)); intro gbA hg w3 hbox hb; have n0_ := Aside0.mk (below_step (by repeat (first | (with_reducible first | exact HB.out | apply below_alloc | apply pw_below_drewN | apply below_drew1) | exact HB.out)) hb); have n1_ := Aside0.mk (hbox); have n2_ := Aside0.mk ((by rw [hg]; exact (below_size (by repeat (first | (with_reducible first | exact HB.out | apply below_alloc | apply pw_below_drewN | apply below_drew1) | exact HB.out))) : w.heap.size ≤ gbA)); have n3_ := Aside0.mk ((by rw [hg]; exact (below_size (by repeat (first | (with_reducible first | exact HB.out | apply below_alloc | apply pw_below_drewN | apply below_drew1) | exact HB.out))) : w.heap.size ≤ gbA)); clear HB; have HB := n0_; have BKA := n1_; have GWA := n2_; have GEA := n3_; clear n0_ n1_ n2_ n3_; clear hb hbox hg)))
 (try simp only [Act.put, List.setIfInBounds_toArray, List.set_cons_zero, List.set_cons_succ])
 go_cut [70] (fun v70 wc => ∃ (kq : Nat) (x70_1 : Bool), v70 = .bool x70_1 ∧ Aside0 (billetref16_Right.j0 kq x70_1 a0_0 a0_1 a0_2 a0_3 a0_4 a0_5 l0_6 = some r) ∧ Aside0 (kq ≤ k) ∧ Aside0 (wc.heap[gbA]? = some (.cells #[.int .i64 a0_0, .int .i64 a0_1, .int .i64 a0_2, .int .i64 a0_3, .int .i64 a0_4, .int .i64 a0_5, (.slice A0_6 l0_6.length c0_6)] 31 (0, 0))) ∧ Aside0 (Below w.heap.size w wc))
 case first =>
  have H := HC2.out
  clear HC2
  by_cases c4 : a0_0 = 1
  ·rw [if_pos c4] at H
   have c4b0 : (a0_0 == 1) = true := beq_iff_eq.mpr c4
   have c4b1 : (a0_0 != 1) = false := bne_eq_false_iff_eq.mpr c4
   clear c4
   (first | rw [c4b0] | (simp only [i64_w, i32_w]; rw [c4b0]) | skip)
   by_cases c5 : a0_1 < 0
   ·rw [if_pos c5] at H
    have c5b0 : decide (a0_1 < 0) = true := decide_eq_true c5
    clear c5
    have H' := Aside0.mk H
    clear H
    have hcz6_0 : w3.cell? ⟨gbA, 0, none⟩ = some (.int .i64 a0_0) := (blk_cell BKA.out 0).trans rfl
    have hcz6_1 : w3.cell? ⟨gbA, 1, none⟩ = some (.int .i64 a0_1) := (blk_cell BKA.out 1).trans rfl
    have hcz6_2 : w3.cell? ⟨gbA, 2, none⟩ = some (.int .i64 a0_2) := (blk_cell BKA.out 2).trans rfl
    have hcz6_3 : w3.cell? ⟨gbA, 3, none⟩ = some (.int .i64 a0_3) := (blk_cell BKA.out 3).trans rfl
    have hcz6_4 : w3.cell? ⟨gbA, 4, none⟩ = some (.int .i64 a0_4) := (blk_cell BKA.out 4).trans rfl
    have hcz6_5 : w3.cell? ⟨gbA, 5, none⟩ = some (.int .i64 a0_5) := (blk_cell BKA.out 5).trans rfl
    have hcz6_6 : w3.cell? ⟨gbA, 6, none⟩ = some (.slice A0_6 l0_6.length c0_6) := (blk_cell BKA.out 6).trans rfl
    have hfz6_0 := blk_frozen BKA.out 0
    have hfz6_1 := blk_frozen BKA.out 1
    have hfz6_2 := blk_frozen BKA.out 2
    have hfz6_3 := blk_frozen BKA.out 3
    have hfz6_4 := blk_frozen BKA.out 4
    have hfz6_5 := blk_frozen BKA.out 5
    have hfz6_6 := blk_frozen BKA.out 6
    go_wp2
    repeat (go_quiet (fail); try go_wp2)
    go_meet
    case rel => exact ⟨_, (true), (by first | rfl | (simp; done) | (simp [*]; done)), H', ⟨by first | omega | exact Nat.le_refl _⟩, ⟨by (with_reducible repeat (first | refine blk_drewN ?_ _ | refine blk_drew ?_ | refine blk_alloc ?_ _)); exact BKA.out⟩, ⟨by repeat (first | (with_reducible first | exact HB.out | apply below_alloc | apply pw_below_drewN | apply below_drew1 | refine below_set ?_ GEA.out) | exact HB.out)⟩⟩
   ·rw [if_neg c5] at H
    have c5b0 : decide (a0_1 < 0) = false := decide_eq_false c5
    clear c5
    by_cases c7 : a0_1 ≥ 3
    ·rw [if_pos c7] at H
     have c7b0 : decide (3 ≤ a0_1) = true := decide_eq_true c7
     clear c7
     have H' := Aside0.mk H
     clear H
     have hcz8_0 : w3.cell? ⟨gbA, 0, none⟩ = some (.int .i64 a0_0) := (blk_cell BKA.out 0).trans rfl
     have hcz8_1 : w3.cell? ⟨gbA, 1, none⟩ = some (.int .i64 a0_1) := (blk_cell BKA.out 1).trans rfl
     have hcz8_2 : w3.cell? ⟨gbA, 2, none⟩ = some (.int .i64 a0_2) := (blk_cell BKA.out 2).trans rfl
     have hcz8_3 : w3.cell? ⟨gbA, 3, none⟩ = some (.int .i64 a0_3) := (blk_cell BKA.out 3).trans rfl
     have hcz8_4 : w3.cell? ⟨gbA, 4, none⟩ = some (.int .i64 a0_4) := (blk_cell BKA.out 4).trans rfl
     have hcz8_5 : w3.cell? ⟨gbA, 5, none⟩ = some (.int .i64 a0_5) := (blk_cell BKA.out 5).trans rfl
     have hcz8_6 : w3.cell? ⟨gbA, 6, none⟩ = some (.slice A0_6 l0_6.length c0_6) := (blk_cell BKA.out 6).trans rfl
     have hfz8_0 := blk_frozen BKA.out 0
     have hfz8_1 := blk_frozen BKA.out 1
     have hfz8_2 := blk_frozen BKA.out 2
     have hfz8_3 := blk_frozen BKA.out 3
     have hfz8_4 := blk_frozen BKA.out 4
     have hfz8_5 := blk_frozen BKA.out 5
     have hfz8_6 := blk_frozen BKA.out 6
     go_wp2
     repeat (go_quiet (fail); try go_wp2)
     go_meet
     case rel => exact ⟨_, (true), (by first | rfl | (simp; done) | (simp [*]; done)), H', ⟨by first | omega | exact Nat.le_refl _⟩, ⟨by (with_reducible repeat (first | refine blk_drewN ?_ _ | refine blk_drew ?_ | refine blk_alloc ?_ _)); exact BKA.out⟩, ⟨by repeat (first | (with_reducible first | exact HB.out | apply below_alloc | apply pw_below_drewN | apply below_drew1 | refine below_set ?_ GEA.out) | exact HB.out)⟩⟩
    ·rw [if_neg c7] at H
     have c7b0 : decide (3 ≤ a0_1) = false := decide_eq_false c7
     clear c7
     by_cases c9 : a0_2 < 0
     ·rw [if_pos c9] at H
      have c9b0 : decide (a0_2 < 0) = true := decide_eq_true c9
      clear c9
      have H' := Aside0.mk H
      clear H
      have hcz10_0 : w3.cell? ⟨gbA, 0, none⟩ = some (.int .i64 a0_0) := (blk_cell BKA.out 0).trans rfl
      have hcz10_1 : w3.cell? ⟨gbA, 1, none⟩ = some (.int .i64 a0_1) := (blk_cell BKA.out 1).trans rfl
      have hcz10_2 : w3.cell? ⟨gbA, 2, none⟩ = some (.int .i64 a0_2) := (blk_cell BKA.out 2).trans rfl
      have hcz10_3 : w3.cell? ⟨gbA, 3, none⟩ = some (.int .i64 a0_3) := (blk_cell BKA.out 3).trans rfl
      have hcz10_4 : w3.cell? ⟨gbA, 4, none⟩ = some (.int .i64 a0_4) := (blk_cell BKA.out 4).trans rfl
      have hcz10_5 : w3.cell? ⟨gbA, 5, none⟩ = some (.int .i64 a0_5) := (blk_cell BKA.out 5).trans rfl
      have hcz10_6 : w3.cell? ⟨gbA, 6, none⟩ = some (.slice A0_6 l0_6.length c0_6) := (blk_cell BKA.out 6).trans rfl
      have hfz10_0 := blk_frozen BKA.out 0
      have hfz10_1 := blk_frozen BKA.out 1
      have hfz10_2 := blk_frozen BKA.out 2
      have hfz10_3 := blk_frozen BKA.out 3
      have hfz10_4 := blk_frozen BKA.out 4
      have hfz10_5 := blk_frozen BKA.out 5
      have hfz10_6 := blk_frozen BKA.out 6
      go_wp2
      repeat (go_quiet (fail); try go_wp2)
      go_meet
      case rel => exact ⟨_, (true), (by first | rfl | (simp; done) | (simp [*]; done)), H', ⟨by first | omega | exact Nat.le_refl _⟩, ⟨by (with_reducible repeat (first | refine blk_drewN ?_ _ | refine blk_drew ?_ | refine blk_alloc ?_ _)); exact BKA.out⟩, ⟨by repeat (first | (with_reducible first | exact HB.out | apply below_alloc | apply pw_below_drewN | apply below_drew1 | refine below_set ?_ GEA.out) | exact HB.out)⟩⟩
     ·rw [if_neg c9] at H
      have c9b0 : decide (a0_2 < 0) = false := decide_eq_false c9
      clear c9
      by_cases c11 : a0_2 > 1099511627776
      ·rw [if_pos c11] at H
       have c11b0 : decide (1099511627776 < a0_2) = true := decide_eq_true c11
       clear c11
       have H' := Aside0.mk H
       clear H
       have hcz12_0 : w3.cell? ⟨gbA, 0, none⟩ = some (.int .i64 a0_0) := (blk_cell BKA.out 0).trans rfl
       have hcz12_1 : w3.cell? ⟨gbA, 1, none⟩ = some (.int .i64 a0_1) := (blk_cell BKA.out 1).trans rfl
       have hcz12_2 : w3.cell? ⟨gbA, 2, none⟩ = some (.int .i64 a0_2) := (blk_cell BKA.out 2).trans rfl
       have hcz12_3 : w3.cell? ⟨gbA, 3, none⟩ = some (.int .i64 a0_3) := (blk_cell BKA.out 3).trans rfl
       have hcz12_4 : w3.cell? ⟨gbA, 4, none⟩ = some (.int .i64 a0_4) := (blk_cell BKA.out 4).trans rfl
       have hcz12_5 : w3.cell? ⟨gbA, 5, none⟩ = some (.int .i64 a0_5) := (blk_cell BKA.out 5).trans rfl
       have hcz12_6 : w3.cell? ⟨gbA, 6, none⟩ = some (.slice A0_6 l0_6.length c0_6) := (blk_cell BKA.out 6).trans rfl
       have hfz12_0 := blk_frozen BKA.out 0
       have hfz12_1 := blk_frozen BKA.out 1
       have hfz12_2 := blk_frozen BKA.out 2
       have hfz12_3 := blk_frozen BKA.out 3
       have hfz12_4 := blk_frozen BKA.out 4
       have hfz12_5 := blk_frozen BKA.out 5
       have hfz12_6 := blk_frozen BKA.out 6
       go_wp2
       repeat (go_quiet (fail); try go_wp2)
       go_meet
       case rel => exact ⟨_, (true), (by first | rfl | (simp; done) | (simp [*]; done)), H', ⟨by first | omega | exact Nat.le_refl _⟩, ⟨by (with_reducible repeat (first | refine blk_drewN ?_ _ | refine blk_drew ?_ | refine blk_alloc ?_ _)); exact BKA.out⟩, ⟨by repeat (first | (with_reducible first | exact HB.out | apply below_alloc | apply pw_below_drewN | apply below_drew1 | refine below_set ?_ GEA.out) | exact HB.out)⟩⟩
      ·rw [if_neg c11] at H
       have c11b0 : decide (1099511627776 < a0_2) = false := decide_eq_false c11
       clear c11
       by_cases c13 : a0_3 < 0
       ·rw [if_pos c13] at H
        have c13b0 : decide (a0_3 < 0) = true := decide_eq_true c13
        clear c13
        have H' := Aside0.mk H
        clear H
        have hcz14_0 : w3.cell? ⟨gbA, 0, none⟩ = some (.int .i64 a0_0) := (blk_cell BKA.out 0).trans rfl
        have hcz14_1 : w3.cell? ⟨gbA, 1, none⟩ = some (.int .i64 a0_1) := (blk_cell BKA.out 1).trans rfl
        have hcz14_2 : w3.cell? ⟨gbA, 2, none⟩ = some (.int .i64 a0_2) := (blk_cell BKA.out 2).trans rfl
        have hcz14_3 : w3.cell? ⟨gbA, 3, none⟩ = some (.int .i64 a0_3) := (blk_cell BKA.out 3).trans rfl
        have hcz14_4 : w3.cell? ⟨gbA, 4, none⟩ = some (.int .i64 a0_4) := (blk_cell BKA.out 4).trans rfl
        have hcz14_5 : w3.cell? ⟨gbA, 5, none⟩ = some (.int .i64 a0_5) := (blk_cell BKA.out 5).trans rfl
        have hcz14_6 : w3.cell? ⟨gbA, 6, none⟩ = some (.slice A0_6 l0_6.length c0_6) := (blk_cell BKA.out 6).trans rfl
        have hfz14_0 := blk_frozen BKA.out 0
        have hfz14_1 := blk_frozen BKA.out 1
        have hfz14_2 := blk_frozen BKA.out 2
        have hfz14_3 := blk_frozen BKA.out 3
        have hfz14_4 := blk_frozen BKA.out 4
        have hfz14_5 := blk_frozen BKA.out 5
        have hfz14_6 := blk_frozen BKA.out 6
        go_wp2
        repeat (go_quiet (fail); try go_wp2)
        go_meet
        case rel => exact ⟨_, (true), (by first | rfl | (simp; done) | (simp [*]; done)), H', ⟨by first | omega | exact Nat.le_refl _⟩, ⟨by (with_reducible repeat (first | refine blk_drewN ?_ _ | refine blk_drew ?_ | refine blk_alloc ?_ _)); exact BKA.out⟩, ⟨by repeat (first | (with_reducible first | exact HB.out | apply below_alloc | apply pw_below_drewN | apply below_drew1 | refine below_set ?_ GEA.out) | exact HB.out)⟩⟩
       ·rw [if_neg c13] at H
        have c13b0 : decide (a0_3 < 0) = false := decide_eq_false c13
        clear c13
        by_cases c15 : a0_3 > 1099511627776
        ·rw [if_pos c15] at H
         have c15b0 : decide (1099511627776 < a0_3) = true := decide_eq_true c15
         clear c15
         have H' := Aside0.mk H
         clear H
         have hcz16_0 : w3.cell? ⟨gbA, 0, none⟩ = some (.int .i64 a0_0) := (blk_cell BKA.out 0).trans rfl
         have hcz16_1 : w3.cell? ⟨gbA, 1, none⟩ = some (.int .i64 a0_1) := (blk_cell BKA.out 1).trans rfl
         have hcz16_2 : w3.cell? ⟨gbA, 2, none⟩ = some (.int .i64 a0_2) := (blk_cell BKA.out 2).trans rfl
         have hcz16_3 : w3.cell? ⟨gbA, 3, none⟩ = some (.int .i64 a0_3) := (blk_cell BKA.out 3).trans rfl
         have hcz16_4 : w3.cell? ⟨gbA, 4, none⟩ = some (.int .i64 a0_4) := (blk_cell BKA.out 4).trans rfl
         have hcz16_5 : w3.cell? ⟨gbA, 5, none⟩ = some (.int .i64 a0_5) := (blk_cell BKA.out 5).trans rfl
         have hcz16_6 : w3.cell? ⟨gbA, 6, none⟩ = some (.slice A0_6 l0_6.length c0_6) := (blk_cell BKA.out 6).trans rfl
         have hfz16_0 := blk_frozen BKA.out 0
         have hfz16_1 := blk_frozen BKA.out 1
         have hfz16_2 := blk_frozen BKA.out 2
         have hfz16_3 := blk_frozen BKA.out 3
         have hfz16_4 := blk_frozen BKA.out 4
         have hfz16_5 := blk_frozen BKA.out 5
         have hfz16_6 := blk_frozen BKA.out 6
         go_wp2
         repeat (go_quiet (fail); try go_wp2)
         go_meet
         case rel => exact ⟨_, (true), (by first | rfl | (simp; done) | (simp [*]; done)), H', ⟨by first | omega | exact Nat.le_refl _⟩, ⟨by (with_reducible repeat (first | refine blk_drewN ?_ _ | refine blk_drew ?_ | refine blk_alloc ?_ _)); exact BKA.out⟩, ⟨by repeat (first | (with_reducible first | exact HB.out | apply below_alloc | apply pw_below_drewN | apply below_drew1 | refine below_set ?_ GEA.out) | exact HB.out)⟩⟩
        ·rw [if_neg c15] at H
         have c15b0 : decide (1099511627776 < a0_3) = false := decide_eq_false c15
         clear c15
         by_cases c17 : a0_4 < 0
         ·rw [if_pos c17] at H
          have c17b0 : decide (a0_4 < 0) = true := decide_eq_true c17
          clear c17
          have H' := Aside0.mk H
          clear H
          have hcz18_0 : w3.cell? ⟨gbA, 0, none⟩ = some (.int .i64 a0_0) := (blk_cell BKA.out 0).trans rfl
          have hcz18_1 : w3.cell? ⟨gbA, 1, none⟩ = some (.int .i64 a0_1) := (blk_cell BKA.out 1).trans rfl
          have hcz18_2 : w3.cell? ⟨gbA, 2, none⟩ = some (.int .i64 a0_2) := (blk_cell BKA.out 2).trans rfl
          have hcz18_3 : w3.cell? ⟨gbA, 3, none⟩ = some (.int .i64 a0_3) := (blk_cell BKA.out 3).trans rfl
          have hcz18_4 : w3.cell? ⟨gbA, 4, none⟩ = some (.int .i64 a0_4) := (blk_cell BKA.out 4).trans rfl
          have hcz18_5 : w3.cell? ⟨gbA, 5, none⟩ = some (.int .i64 a0_5) := (blk_cell BKA.out 5).trans rfl
          have hcz18_6 : w3.cell? ⟨gbA, 6, none⟩ = some (.slice A0_6 l0_6.length c0_6) := (blk_cell BKA.out 6).trans rfl
          have hfz18_0 := blk_frozen BKA.out 0
          have hfz18_1 := blk_frozen BKA.out 1
          have hfz18_2 := blk_frozen BKA.out 2
          have hfz18_3 := blk_frozen BKA.out 3
          have hfz18_4 := blk_frozen BKA.out 4
          have hfz18_5 := blk_frozen BKA.out 5
          have hfz18_6 := blk_frozen BKA.out 6
          go_wp2
          repeat (go_quiet (fail); try go_wp2)
          go_meet
          case rel => exact ⟨_, (true), (by first | rfl | (simp; done) | (simp [*]; done)), H', ⟨by first | omega | exact Nat.le_refl _⟩, ⟨by (with_reducible repeat (first | refine blk_drewN ?_ _ | refine blk_drew ?_ | refine blk_alloc ?_ _)); exact BKA.out⟩, ⟨by repeat (first | (with_reducible first | exact HB.out | apply below_alloc | apply pw_below_drewN | apply below_drew1 | refine below_set ?_ GEA.out) | exact HB.out)⟩⟩
         ·rw [if_neg c17] at H
          have c17b0 : decide (a0_4 < 0) = false := decide_eq_false c17
          clear c17
          by_cases c19 : a0_4 > 1099511627776
          ·rw [if_pos c19] at H
           have c19b0 : decide (1099511627776 < a0_4) = true := decide_eq_true c19
           clear c19
           have H' := Aside0.mk H
           clear H
           have hcz20_0 : w3.cell? ⟨gbA, 0, none⟩ = some (.int .i64 a0_0) := (blk_cell BKA.out 0).trans rfl
           have hcz20_1 : w3.cell? ⟨gbA, 1, none⟩ = some (.int .i64 a0_1) := (blk_cell BKA.out 1).trans rfl
           have hcz20_2 : w3.cell? ⟨gbA, 2, none⟩ = some (.int .i64 a0_2) := (blk_cell BKA.out 2).trans rfl
           have hcz20_3 : w3.cell? ⟨gbA, 3, none⟩ = some (.int .i64 a0_3) := (blk_cell BKA.out 3).trans rfl
           have hcz20_4 : w3.cell? ⟨gbA, 4, none⟩ = some (.int .i64 a0_4) := (blk_cell BKA.out 4).trans rfl
           have hcz20_5 : w3.cell? ⟨gbA, 5, none⟩ = some (.int .i64 a0_5) := (blk_cell BKA.out 5).trans rfl
           have hcz20_6 : w3.cell? ⟨gbA, 6, none⟩ = some (.slice A0_6 l0_6.length c0_6) := (blk_cell BKA.out 6).trans rfl
           have hfz20_0 := blk_frozen BKA.out 0
           have hfz20_1 := blk_frozen BKA.out 1
           have hfz20_2 := blk_frozen BKA.out 2
           have hfz20_3 := blk_frozen BKA.out 3
           have hfz20_4 := blk_frozen BKA.out 4
           have hfz20_5 := blk_frozen BKA.out 5
           have hfz20_6 := blk_frozen BKA.out 6
           go_wp2
           repeat (go_quiet (fail); try go_wp2)
           go_meet
           case rel => exact ⟨_, (true), (by first | rfl | (simp; done) | (simp [*]; done)), H', ⟨by first | omega | exact Nat.le_refl _⟩, ⟨by (with_reducible repeat (first | refine blk_drewN ?_ _ | refine blk_drew ?_ | refine blk_alloc ?_ _)); exact BKA.out⟩, ⟨by repeat (first | (with_reducible first | exact HB.out | apply below_alloc | apply pw_below_drewN | apply below_drew1 | refine below_set ?_ GEA.out) | exact HB.out)⟩⟩
          ·rw [if_neg c19] at H
           have c19b0 : decide (1099511627776 < a0_4) = false := decide_eq_false c19
           clear c19
           by_cases c21 : a0_5 < (-2199023255552)
           ·rw [if_pos c21] at H
            have c21b0 : decide (a0_5 < (-2199023255552)) = true := decide_eq_true c21
            clear c21
            have H' := Aside0.mk H
            clear H
            have hcz22_0 : w3.cell? ⟨gbA, 0, none⟩ = some (.int .i64 a0_0) := (blk_cell BKA.out 0).trans rfl
            have hcz22_1 : w3.cell? ⟨gbA, 1, none⟩ = some (.int .i64 a0_1) := (blk_cell BKA.out 1).trans rfl
            have hcz22_2 : w3.cell? ⟨gbA, 2, none⟩ = some (.int .i64 a0_2) := (blk_cell BKA.out 2).trans rfl
            have hcz22_3 : w3.cell? ⟨gbA, 3, none⟩ = some (.int .i64 a0_3) := (blk_cell BKA.out 3).trans rfl
            have hcz22_4 : w3.cell? ⟨gbA, 4, none⟩ = some (.int .i64 a0_4) := (blk_cell BKA.out 4).trans rfl
            have hcz22_5 : w3.cell? ⟨gbA, 5, none⟩ = some (.int .i64 a0_5) := (blk_cell BKA.out 5).trans rfl
            have hcz22_6 : w3.cell? ⟨gbA, 6, none⟩ = some (.slice A0_6 l0_6.length c0_6) := (blk_cell BKA.out 6).trans rfl
            have hfz22_0 := blk_frozen BKA.out 0
            have hfz22_1 := blk_frozen BKA.out 1
            have hfz22_2 := blk_frozen BKA.out 2
            have hfz22_3 := blk_frozen BKA.out 3
            have hfz22_4 := blk_frozen BKA.out 4
            have hfz22_5 := blk_frozen BKA.out 5
            have hfz22_6 := blk_frozen BKA.out 6
            go_wp2
            repeat (go_quiet (fail); try go_wp2)
            go_meet
            case rel => exact ⟨_, (true), (by first | rfl | (simp; done) | (simp [*]; done)), H', ⟨by first | omega | exact Nat.le_refl _⟩, ⟨by (with_reducible repeat (first | refine blk_drewN ?_ _ | refine blk_drew ?_ | refine blk_alloc ?_ _)); exact BKA.out⟩, ⟨by repeat (first | (with_reducible first | exact HB.out | apply below_alloc | apply pw_below_drewN | apply below_drew1 | refine below_set ?_ GEA.out) | exact HB.out)⟩⟩
           ·rw [if_neg c21] at H
            have c21b0 : decide (a0_5 < (-2199023255552)) = false := decide_eq_false c21
            clear c21
            by_cases c23 : a0_5 > 2199023255552
            ·rw [if_pos c23] at H
             have c23b0 : decide (2199023255552 < a0_5) = true := decide_eq_true c23
             clear c23
             have H' := Aside0.mk H
             clear H
             have hcz24_0 : w3.cell? ⟨gbA, 0, none⟩ = some (.int .i64 a0_0) := (blk_cell BKA.out 0).trans rfl
             have hcz24_1 : w3.cell? ⟨gbA, 1, none⟩ = some (.int .i64 a0_1) := (blk_cell BKA.out 1).trans rfl
             have hcz24_2 : w3.cell? ⟨gbA, 2, none⟩ = some (.int .i64 a0_2) := (blk_cell BKA.out 2).trans rfl
             have hcz24_3 : w3.cell? ⟨gbA, 3, none⟩ = some (.int .i64 a0_3) := (blk_cell BKA.out 3).trans rfl
             have hcz24_4 : w3.cell? ⟨gbA, 4, none⟩ = some (.int .i64 a0_4) := (blk_cell BKA.out 4).trans rfl
             have hcz24_5 : w3.cell? ⟨gbA, 5, none⟩ = some (.int .i64 a0_5) := (blk_cell BKA.out 5).trans rfl
             have hcz24_6 : w3.cell? ⟨gbA, 6, none⟩ = some (.slice A0_6 l0_6.length c0_6) := (blk_cell BKA.out 6).trans rfl
             have hfz24_0 := blk_frozen BKA.out 0
             have hfz24_1 := blk_frozen BKA.out 1
             have hfz24_2 := blk_frozen BKA.out 2
             have hfz24_3 := blk_frozen BKA.out 3
             have hfz24_4 := blk_frozen BKA.out 4
             have hfz24_5 := blk_frozen BKA.out 5
             have hfz24_6 := blk_frozen BKA.out 6
             go_wp2
             repeat (go_quiet (fail); try go_wp2)
             go_meet
             case rel => exact ⟨_, (true), (by first | rfl | (simp; done) | (simp [*]; done)), H', ⟨by first | omega | exact Nat.le_refl _⟩, ⟨by (with_reducible repeat (first | refine blk_drewN ?_ _ | refine blk_drew ?_ | refine blk_alloc ?_ _)); exact BKA.out⟩, ⟨by repeat (first | (with_reducible first | exact HB.out | apply below_alloc | apply pw_below_drewN | apply below_drew1 | refine below_set ?_ GEA.out) | exact HB.out)⟩⟩
            ·rw [if_neg c23] at H
             have c23b0 : decide (2199023255552 < a0_5) = false := decide_eq_false c23
             clear c23
             have H' := Aside0.mk H
             clear H
             have hcz25_0 : w3.cell? ⟨gbA, 0, none⟩ = some (.int .i64 a0_0) := (blk_cell BKA.out 0).trans rfl
             have hcz25_1 : w3.cell? ⟨gbA, 1, none⟩ = some (.int .i64 a0_1) := (blk_cell BKA.out 1).trans rfl
             have hcz25_2 : w3.cell? ⟨gbA, 2, none⟩ = some (.int .i64 a0_2) := (blk_cell BKA.out 2).trans rfl
             have hcz25_3 : w3.cell? ⟨gbA, 3, none⟩ = some (.int .i64 a0_3) := (blk_cell BKA.out 3).trans rfl
             have hcz25_4 : w3.cell? ⟨gbA, 4, none⟩ = some (.int .i64 a0_4) := (blk_cell BKA.out 4).trans rfl
             have hcz25_5 : w3.cell? ⟨gbA, 5, none⟩ = some (.int .i64 a0_5) := (blk_cell BKA.out 5).trans rfl
             have hcz25_6 : w3.cell? ⟨gbA, 6, none⟩ = some (.slice A0_6 l0_6.length c0_6) := (blk_cell BKA.out 6).trans rfl
             have hfz25_0 := blk_frozen BKA.out 0
             have hfz25_1 := blk_frozen BKA.out 1
             have hfz25_2 := blk_frozen BKA.out 2
             have hfz25_3 := blk_frozen BKA.out 3
             have hfz25_4 := blk_frozen BKA.out 4
             have hfz25_5 := blk_frozen BKA.out 5
             have hfz25_6 := blk_frozen BKA.out 6
             go_wp2
             repeat (go_quiet (fail); try go_wp2)
             go_meet
             case rel => exact ⟨_, (decide ((l0_6.length : Int) > 64)), (by first | rfl | (simp; done) | (simp [*]; done)), H', ⟨by first | omega | exact Nat.le_refl _⟩, ⟨by (with_reducible repeat (first | refine blk_drewN ?_ _ | refine blk_drew ?_ | refine blk_alloc ?_ _)); exact BKA.out⟩, ⟨by repeat (first | (with_reducible first | exact HB.out | apply below_alloc | apply pw_below_drewN | apply below_drew1 | refine below_set ?_ GEA.out) | exact HB.out)⟩⟩
  ·rw [if_neg c4] at H
   have c4b0 : (a0_0 == 1) = false := beq_eq_false_iff_ne.mpr c4
   have c4b1 : (a0_0 != 1) = true := bne_iff_ne.mpr c4
   (first | rw [c4b0] | (simp only [i64_w, i32_w]; rw [c4b0]) | skip)
   by_cases c26 : a0_0 = 2
   ·rw [if_pos c26] at H
    have c26b0 : (a0_0 == 2) = true := beq_iff_eq.mpr c26
    have c26b1 : (a0_0 != 2) = false := bne_eq_false_iff_eq.mpr c26
    clear c26
    by_cases c27 : a0_1 < 0
    ·rw [if_pos c27] at H
     have c27b0 : decide (a0_1 < 0) = true := decide_eq_true c27
     clear c27
     have H' := Aside0.mk H
     clear H
     have hcz28_0 : w3.cell? ⟨gbA, 0, none⟩ = some (.int .i64 a0_0) := (blk_cell BKA.out 0).trans rfl
     have hcz28_1 : w3.cell? ⟨gbA, 1, none⟩ = some (.int .i64 a0_1) := (blk_cell BKA.out 1).trans rfl
     have hcz28_2 : w3.cell? ⟨gbA, 2, none⟩ = some (.int .i64 a0_2) := (blk_cell BKA.out 2).trans rfl
     have hcz28_3 : w3.cell? ⟨gbA, 3, none⟩ = some (.int .i64 a0_3) := (blk_cell BKA.out 3).trans rfl
     have hcz28_4 : w3.cell? ⟨gbA, 4, none⟩ = some (.int .i64 a0_4) := (blk_cell BKA.out 4).trans rfl
     have hcz28_5 : w3.cell? ⟨gbA, 5, none⟩ = some (.int .i64 a0_5) := (blk_cell BKA.out 5).trans rfl
     have hcz28_6 : w3.cell? ⟨gbA, 6, none⟩ = some (.slice A0_6 l0_6.length c0_6) := (blk_cell BKA.out 6).trans rfl
     have hfz28_0 := blk_frozen BKA.out 0
     have hfz28_1 := blk_frozen BKA.out 1
     have hfz28_2 := blk_frozen BKA.out 2
     have hfz28_3 := blk_frozen BKA.out 3
     have hfz28_4 := blk_frozen BKA.out 4
     have hfz28_5 := blk_frozen BKA.out 5
     have hfz28_6 := blk_frozen BKA.out 6
     go_wp2
     repeat (go_quiet (fail); try go_wp2)
     go_meet
     case rel => exact ⟨_, (true), (by first | rfl | (simp; done) | (simp [*]; done)), H', ⟨by first | omega | exact Nat.le_refl _⟩, ⟨by (with_reducible repeat (first | refine blk_drewN ?_ _ | refine blk_drew ?_ | refine blk_alloc ?_ _)); exact BKA.out⟩, ⟨by repeat (first | (with_reducible first | exact HB.out | apply below_alloc | apply pw_below_drewN | apply below_drew1 | refine below_set ?_ GEA.out) | exact HB.out)⟩⟩
    ·rw [if_neg c27] at H
     have c27b0 : decide (a0_1 < 0) = false := decide_eq_false c27
     clear c27
     by_cases c29 : a0_1 ≥ 3
     ·rw [if_pos c29] at H
      have c29b0 : decide (3 ≤ a0_1) = true := decide_eq_true c29
      clear c29
      have H' := Aside0.mk H
      clear H
      have hcz30_0 : w3.cell? ⟨gbA, 0, none⟩ = some (.int .i64 a0_0) := (blk_cell BKA.out 0).trans rfl
      have hcz30_1 : w3.cell? ⟨gbA, 1, none⟩ = some (.int .i64 a0_1) := (blk_cell BKA.out 1).trans rfl
      have hcz30_2 : w3.cell? ⟨gbA, 2, none⟩ = some (.int .i64 a0_2) := (blk_cell BKA.out 2).trans rfl
      have hcz30_3 : w3.cell? ⟨gbA, 3, none⟩ = some (.int .i64 a0_3) := (blk_cell BKA.out 3).trans rfl
      have hcz30_4 : w3.cell? ⟨gbA, 4, none⟩ = some (.int .i64 a0_4) := (blk_cell BKA.out 4).trans rfl
      have hcz30_5 : w3.cell? ⟨gbA, 5, none⟩ = some (.int .i64 a0_5) := (blk_cell BKA.out 5).trans rfl
      have hcz30_6 : w3.cell? ⟨gbA, 6, none⟩ = some (.slice A0_6 l0_6.length c0_6) := (blk_cell BKA.out 6).trans rfl
      have hfz30_0 := blk_frozen BKA.out 0
      have hfz30_1 := blk_frozen BKA.out 1
      have hfz30_2 := blk_frozen BKA.out 2
      have hfz30_3 := blk_frozen BKA.out 3
      have hfz30_4 := blk_frozen BKA.out 4
      have hfz30_5 := blk_frozen BKA.out 5
      have hfz30_6 := blk_frozen BKA.out 6
      go_wp2
      repeat (go_quiet (fail); try go_wp2)
      go_meet
      case rel => exact ⟨_, (true), (by first | rfl | (simp; done) | (simp [*]; done)), H', ⟨by first | omega | exact Nat.le_refl _⟩, ⟨by (with_reducible repeat (first | refine blk_drewN ?_ _ | refine blk_drew ?_ | refine blk_alloc ?_ _)); exact BKA.out⟩, ⟨by repeat (first | (with_reducible first | exact HB.out | apply below_alloc | apply pw_below_drewN | apply below_drew1 | refine below_set ?_ GEA.out) | exact HB.out)⟩⟩
     ·rw [if_neg c29] at H
      have c29b0 : decide (3 ≤ a0_1) = false := decide_eq_false c29
      clear c29
      by_cases c31 : a0_2 < 0
      ·rw [if_pos c31] at H
       have c31b0 : decide (a0_2 < 0) = true := decide_eq_true c31
       clear c31
       have H' := Aside0.mk H
       clear H
       have hcz32_0 : w3.cell? ⟨gbA, 0, none⟩ = some (.int .i64 a0_0) := (blk_cell BKA.out 0).trans rfl
       have hcz32_1 : w3.cell? ⟨gbA, 1, none⟩ = some (.int .i64 a0_1) := (blk_cell BKA.out 1).trans rfl
       have hcz32_2 : w3.cell? ⟨gbA, 2, none⟩ = some (.int .i64 a0_2) := (blk_cell BKA.out 2).trans rfl
       have hcz32_3 : w3.cell? ⟨gbA, 3, none⟩ = some (.int .i64 a0_3) := (blk_cell BKA.out 3).trans rfl
       have hcz32_4 : w3.cell? ⟨gbA, 4, none⟩ = some (.int .i64 a0_4) := (blk_cell BKA.out 4).trans rfl
       have hcz32_5 : w3.cell? ⟨gbA, 5, none⟩ = some (.int .i64 a0_5) := (blk_cell BKA.out 5).trans rfl
       have hcz32_6 : w3.cell? ⟨gbA, 6, none⟩ = some (.slice A0_6 l0_6.length c0_6) := (blk_cell BKA.out 6).trans rfl
       have hfz32_0 := blk_frozen BKA.out 0
       have hfz32_1 := blk_frozen BKA.out 1
       have hfz32_2 := blk_frozen BKA.out 2
       have hfz32_3 := blk_frozen BKA.out 3
       have hfz32_4 := blk_frozen BKA.out 4
       have hfz32_5 := blk_frozen BKA.out 5
       have hfz32_6 := blk_frozen BKA.out 6
       go_wp2
       repeat (go_quiet (fail); try go_wp2)
       go_meet
       case rel => exact ⟨_, (true), (by first | rfl | (simp; done) | (simp [*]; done)), H', ⟨by first | omega | exact Nat.le_refl _⟩, ⟨by (with_reducible repeat (first | refine blk_drewN ?_ _ | refine blk_drew ?_ | refine blk_alloc ?_ _)); exact BKA.out⟩, ⟨by repeat (first | (with_reducible first | exact HB.out | apply below_alloc | apply pw_below_drewN | apply below_drew1 | refine below_set ?_ GEA.out) | exact HB.out)⟩⟩
      ·rw [if_neg c31] at H
       have c31b0 : decide (a0_2 < 0) = false := decide_eq_false c31
       clear c31
       by_cases c33 : a0_2 > 1099511627776
       ·rw [if_pos c33] at H
        have c33b0 : decide (1099511627776 < a0_2) = true := decide_eq_true c33
        clear c33
        have H' := Aside0.mk H
        clear H
        have hcz34_0 : w3.cell? ⟨gbA, 0, none⟩ = some (.int .i64 a0_0) := (blk_cell BKA.out 0).trans rfl
        have hcz34_1 : w3.cell? ⟨gbA, 1, none⟩ = some (.int .i64 a0_1) := (blk_cell BKA.out 1).trans rfl
        have hcz34_2 : w3.cell? ⟨gbA, 2, none⟩ = some (.int .i64 a0_2) := (blk_cell BKA.out 2).trans rfl
        have hcz34_3 : w3.cell? ⟨gbA, 3, none⟩ = some (.int .i64 a0_3) := (blk_cell BKA.out 3).trans rfl
        have hcz34_4 : w3.cell? ⟨gbA, 4, none⟩ = some (.int .i64 a0_4) := (blk_cell BKA.out 4).trans rfl
        have hcz34_5 : w3.cell? ⟨gbA, 5, none⟩ = some (.int .i64 a0_5) := (blk_cell BKA.out 5).trans rfl
        have hcz34_6 : w3.cell? ⟨gbA, 6, none⟩ = some (.slice A0_6 l0_6.length c0_6) := (blk_cell BKA.out 6).trans rfl
        have hfz34_0 := blk_frozen BKA.out 0
        have hfz34_1 := blk_frozen BKA.out 1
        have hfz34_2 := blk_frozen BKA.out 2
        have hfz34_3 := blk_frozen BKA.out 3
        have hfz34_4 := blk_frozen BKA.out 4
        have hfz34_5 := blk_frozen BKA.out 5
        have hfz34_6 := blk_frozen BKA.out 6
        go_wp2
        repeat (go_quiet (fail); try go_wp2)
        go_meet
        case rel => exact ⟨_, (true), (by first | rfl | (simp; done) | (simp [*]; done)), H', ⟨by first | omega | exact Nat.le_refl _⟩, ⟨by (with_reducible repeat (first | refine blk_drewN ?_ _ | refine blk_drew ?_ | refine blk_alloc ?_ _)); exact BKA.out⟩, ⟨by repeat (first | (with_reducible first | exact HB.out | apply below_alloc | apply pw_below_drewN | apply below_drew1 | refine below_set ?_ GEA.out) | exact HB.out)⟩⟩
       ·rw [if_neg c33] at H
        have c33b0 : decide (1099511627776 < a0_2) = false := decide_eq_false c33
        clear c33
        by_cases c35 : a0_3 < 0
        ·rw [if_pos c35] at H
         have c35b0 : decide (a0_3 < 0) = true := decide_eq_true c35
         clear c35
         have H' := Aside0.mk H
         clear H
         have hcz36_0 : w3.cell? ⟨gbA, 0, none⟩ = some (.int .i64 a0_0) := (blk_cell BKA.out 0).trans rfl
         have hcz36_1 : w3.cell? ⟨gbA, 1, none⟩ = some (.int .i64 a0_1) := (blk_cell BKA.out 1).trans rfl
         have hcz36_2 : w3.cell? ⟨gbA, 2, none⟩ = some (.int .i64 a0_2) := (blk_cell BKA.out 2).trans rfl
         have hcz36_3 : w3.cell? ⟨gbA, 3, none⟩ = some (.int .i64 a0_3) := (blk_cell BKA.out 3).trans rfl
         have hcz36_4 : w3.cell? ⟨gbA, 4, none⟩ = some (.int .i64 a0_4) := (blk_cell BKA.out 4).trans rfl
         have hcz36_5 : w3.cell? ⟨gbA, 5, none⟩ = some (.int .i64 a0_5) := (blk_cell BKA.out 5).trans rfl
         have hcz36_6 : w3.cell? ⟨gbA, 6, none⟩ = some (.slice A0_6 l0_6.length c0_6) := (blk_cell BKA.out 6).trans rfl
         have hfz36_0 := blk_frozen BKA.out 0
         have hfz36_1 := blk_frozen BKA.out 1
         have hfz36_2 := blk_frozen BKA.out 2
         have hfz36_3 := blk_frozen BKA.out 3
         have hfz36_4 := blk_frozen BKA.out 4
         have hfz36_5 := blk_frozen BKA.out 5
         have hfz36_6 := blk_frozen BKA.out 6
         go_wp2
         repeat (go_quiet (fail); try go_wp2)
         go_meet
         case rel => exact ⟨_, (true), (by first | rfl | (simp; done) | (simp [*]; done)), H', ⟨by first | omega | exact Nat.le_refl _⟩, ⟨by (with_reducible repeat (first | refine blk_drewN ?_ _ | refine blk_drew ?_ | refine blk_alloc ?_ _)); exact BKA.out⟩, ⟨by repeat (first | (with_reducible first | exact HB.out | apply below_alloc | apply pw_below_drewN | apply below_drew1 | refine below_set ?_ GEA.out) | exact HB.out)⟩⟩
        ·rw [if_neg c35] at H
         have c35b0 : decide (a0_3 < 0) = false := decide_eq_false c35
         clear c35
         by_cases c37 : a0_3 > 1099511627776
         ·rw [if_pos c37] at H
          have c37b0 : decide (1099511627776 < a0_3) = true := decide_eq_true c37
          clear c37
          have H' := Aside0.mk H
          clear H
          have hcz38_0 : w3.cell? ⟨gbA, 0, none⟩ = some (.int .i64 a0_0) := (blk_cell BKA.out 0).trans rfl
          have hcz38_1 : w3.cell? ⟨gbA, 1, none⟩ = some (.int .i64 a0_1) := (blk_cell BKA.out 1).trans rfl
          have hcz38_2 : w3.cell? ⟨gbA, 2, none⟩ = some (.int .i64 a0_2) := (blk_cell BKA.out 2).trans rfl
          have hcz38_3 : w3.cell? ⟨gbA, 3, none⟩ = some (.int .i64 a0_3) := (blk_cell BKA.out 3).trans rfl
          have hcz38_4 : w3.cell? ⟨gbA, 4, none⟩ = some (.int .i64 a0_4) := (blk_cell BKA.out 4).trans rfl
          have hcz38_5 : w3.cell? ⟨gbA, 5, none⟩ = some (.int .i64 a0_5) := (blk_cell BKA.out 5).trans rfl
          have hcz38_6 : w3.cell? ⟨gbA, 6, none⟩ = some (.slice A0_6 l0_6.length c0_6) := (blk_cell BKA.out 6).trans rfl
          have hfz38_0 := blk_frozen BKA.out 0
          have hfz38_1 := blk_frozen BKA.out 1
          have hfz38_2 := blk_frozen BKA.out 2
          have hfz38_3 := blk_frozen BKA.out 3
          have hfz38_4 := blk_frozen BKA.out 4
          have hfz38_5 := blk_frozen BKA.out 5
          have hfz38_6 := blk_frozen BKA.out 6
          go_wp2
          repeat (go_quiet (fail); try go_wp2)
          go_meet
          case rel => exact ⟨_, (true), (by first | rfl | (simp; done) | (simp [*]; done)), H', ⟨by first | omega | exact Nat.le_refl _⟩, ⟨by (with_reducible repeat (first | refine blk_drewN ?_ _ | refine blk_drew ?_ | refine blk_alloc ?_ _)); exact BKA.out⟩, ⟨by repeat (first | (with_reducible first | exact HB.out | apply below_alloc | apply pw_below_drewN | apply below_drew1 | refine below_set ?_ GEA.out) | exact HB.out)⟩⟩
         ·rw [if_neg c37] at H
          have c37b0 : decide (1099511627776 < a0_3) = false := decide_eq_false c37
          clear c37
          by_cases c39 : a0_4 < 0
          ·rw [if_pos c39] at H
           have c39b0 : decide (a0_4 < 0) = true := decide_eq_true c39
           clear c39
           have H' := Aside0.mk H
           clear H
           have hcz40_0 : w3.cell? ⟨gbA, 0, none⟩ = some (.int .i64 a0_0) := (blk_cell BKA.out 0).trans rfl
           have hcz40_1 : w3.cell? ⟨gbA, 1, none⟩ = some (.int .i64 a0_1) := (blk_cell BKA.out 1).trans rfl
           have hcz40_2 : w3.cell? ⟨gbA, 2, none⟩ = some (.int .i64 a0_2) := (blk_cell BKA.out 2).trans rfl
           have hcz40_3 : w3.cell? ⟨gbA, 3, none⟩ = some (.int .i64 a0_3) := (blk_cell BKA.out 3).trans rfl
           have hcz40_4 : w3.cell? ⟨gbA, 4, none⟩ = some (.int .i64 a0_4) := (blk_cell BKA.out 4).trans rfl
           have hcz40_5 : w3.cell? ⟨gbA, 5, none⟩ = some (.int .i64 a0_5) := (blk_cell BKA.out 5).trans rfl
           have hcz40_6 : w3.cell? ⟨gbA, 6, none⟩ = some (.slice A0_6 l0_6.length c0_6) := (blk_cell BKA.out 6).trans rfl
           have hfz40_0 := blk_frozen BKA.out 0
           have hfz40_1 := blk_frozen BKA.out 1
           have hfz40_2 := blk_frozen BKA.out 2
           have hfz40_3 := blk_frozen BKA.out 3
           have hfz40_4 := blk_frozen BKA.out 4
           have hfz40_5 := blk_frozen BKA.out 5
           have hfz40_6 := blk_frozen BKA.out 6
           go_wp2
           repeat (go_quiet (fail); try go_wp2)
           go_meet
           case rel => exact ⟨_, (true), (by first | rfl | (simp; done) | (simp [*]; done)), H', ⟨by first | omega | exact Nat.le_refl _⟩, ⟨by (with_reducible repeat (first | refine blk_drewN ?_ _ | refine blk_drew ?_ | refine blk_alloc ?_ _)); exact BKA.out⟩, ⟨by repeat (first | (with_reducible first | exact HB.out | apply below_alloc | apply pw_below_drewN | apply below_drew1 | refine below_set ?_ GEA.out) | exact HB.out)⟩⟩
          ·rw [if_neg c39] at H
           have c39b0 : decide (a0_4 < 0) = false := decide_eq_false c39
           clear c39
           by_cases c41 : a0_4 > 1099511627776
           ·rw [if_pos c41] at H
            have c41b0 : decide (1099511627776 < a0_4) = true := decide_eq_true c41
            clear c41
            have H' := Aside0.mk H
            clear H
            have hcz42_0 : w3.cell? ⟨gbA, 0, none⟩ = some (.int .i64 a0_0) := (blk_cell BKA.out 0).trans rfl
            have hcz42_1 : w3.cell? ⟨gbA, 1, none⟩ = some (.int .i64 a0_1) := (blk_cell BKA.out 1).trans rfl
            have hcz42_2 : w3.cell? ⟨gbA, 2, none⟩ = some (.int .i64 a0_2) := (blk_cell BKA.out 2).trans rfl
            have hcz42_3 : w3.cell? ⟨gbA, 3, none⟩ = some (.int .i64 a0_3) := (blk_cell BKA.out 3).trans rfl
            have hcz42_4 : w3.cell? ⟨gbA, 4, none⟩ = some (.int .i64 a0_4) := (blk_cell BKA.out 4).trans rfl
            have hcz42_5 : w3.cell? ⟨gbA, 5, none⟩ = some (.int .i64 a0_5) := (blk_cell BKA.out 5).trans rfl
            have hcz42_6 : w3.cell? ⟨gbA, 6, none⟩ = some (.slice A0_6 l0_6.length c0_6) := (blk_cell BKA.out 6).trans rfl
            have hfz42_0 := blk_frozen BKA.out 0
            have hfz42_1 := blk_frozen BKA.out 1
            have hfz42_2 := blk_frozen BKA.out 2
            have hfz42_3 := blk_frozen BKA.out 3
            have hfz42_4 := blk_frozen BKA.out 4
            have hfz42_5 := blk_frozen BKA.out 5
            have hfz42_6 := blk_frozen BKA.out 6
            go_wp2
            repeat (go_quiet (fail); try go_wp2)
            go_meet
            case rel => exact ⟨_, (true), (by first | rfl | (simp; done) | (simp [*]; done)), H', ⟨by first | omega | exact Nat.le_refl _⟩, ⟨by (with_reducible repeat (first | refine blk_drewN ?_ _ | refine blk_drew ?_ | refine blk_alloc ?_ _)); exact BKA.out⟩, ⟨by repeat (first | (with_reducible first | exact HB.out | apply below_alloc | apply pw_below_drewN | apply below_drew1 | refine below_set ?_ GEA.out) | exact HB.out)⟩⟩
           ·rw [if_neg c41] at H
            have c41b0 : decide (1099511627776 < a0_4) = false := decide_eq_false c41
            clear c41
            by_cases c43 : a0_5 < (-2199023255552)
            ·rw [if_pos c43] at H
             have c43b0 : decide (a0_5 < (-2199023255552)) = true := decide_eq_true c43
             clear c43
             have H' := Aside0.mk H
             clear H
             have hcz44_0 : w3.cell? ⟨gbA, 0, none⟩ = some (.int .i64 a0_0) := (blk_cell BKA.out 0).trans rfl
             have hcz44_1 : w3.cell? ⟨gbA, 1, none⟩ = some (.int .i64 a0_1) := (blk_cell BKA.out 1).trans rfl
             have hcz44_2 : w3.cell? ⟨gbA, 2, none⟩ = some (.int .i64 a0_2) := (blk_cell BKA.out 2).trans rfl
             have hcz44_3 : w3.cell? ⟨gbA, 3, none⟩ = some (.int .i64 a0_3) := (blk_cell BKA.out 3).trans rfl
             have hcz44_4 : w3.cell? ⟨gbA, 4, none⟩ = some (.int .i64 a0_4) := (blk_cell BKA.out 4).trans rfl
             have hcz44_5 : w3.cell? ⟨gbA, 5, none⟩ = some (.int .i64 a0_5) := (blk_cell BKA.out 5).trans rfl
             have hcz44_6 : w3.cell? ⟨gbA, 6, none⟩ = some (.slice A0_6 l0_6.length c0_6) := (blk_cell BKA.out 6).trans rfl
             have hfz44_0 := blk_frozen BKA.out 0
             have hfz44_1 := blk_frozen BKA.out 1
             have hfz44_2 := blk_frozen BKA.out 2
             have hfz44_3 := blk_frozen BKA.out 3
             have hfz44_4 := blk_frozen BKA.out 4
             have hfz44_5 := blk_frozen BKA.out 5
             have hfz44_6 := blk_frozen BKA.out 6
             go_wp2
             repeat (go_quiet (fail); try go_wp2)
             go_meet
             case rel => exact ⟨_, (true), (by first | rfl | (simp; done) | (simp [*]; done)), H', ⟨by first | omega | exact Nat.le_refl _⟩, ⟨by (with_reducible repeat (first | refine blk_drewN ?_ _ | refine blk_drew ?_ | refine blk_alloc ?_ _)); exact BKA.out⟩, ⟨by repeat (first | (with_reducible first | exact HB.out | apply below_alloc | apply pw_below_drewN | apply below_drew1 | refine below_set ?_ GEA.out) | exact HB.out)⟩⟩
            ·rw [if_neg c43] at H
             have c43b0 : decide (a0_5 < (-2199023255552)) = false := decide_eq_false c43
             clear c43
             by_cases c45 : a0_5 > 2199023255552
             ·rw [if_pos c45] at H
              have c45b0 : decide (2199023255552 < a0_5) = true := decide_eq_true c45
              clear c45
              have H' := Aside0.mk H
              clear H
              have hcz46_0 : w3.cell? ⟨gbA, 0, none⟩ = some (.int .i64 a0_0) := (blk_cell BKA.out 0).trans rfl
              have hcz46_1 : w3.cell? ⟨gbA, 1, none⟩ = some (.int .i64 a0_1) := (blk_cell BKA.out 1).trans rfl
              have hcz46_2 : w3.cell? ⟨gbA, 2, none⟩ = some (.int .i64 a0_2) := (blk_cell BKA.out 2).trans rfl
              have hcz46_3 : w3.cell? ⟨gbA, 3, none⟩ = some (.int .i64 a0_3) := (blk_cell BKA.out 3).trans rfl
              have hcz46_4 : w3.cell? ⟨gbA, 4, none⟩ = some (.int .i64 a0_4) := (blk_cell BKA.out 4).trans rfl
              have hcz46_5 : w3.cell? ⟨gbA, 5, none⟩ = some (.int .i64 a0_5) := (blk_cell BKA.out 5).trans rfl
              have hcz46_6 : w3.cell? ⟨gbA, 6, none⟩ = some (.slice A0_6 l0_6.length c0_6) := (blk_cell BKA.out 6).trans rfl
              have hfz46_0 := blk_frozen BKA.out 0
              have hfz46_1 := blk_frozen BKA.out 1
              have hfz46_2 := blk_frozen BKA.out 2
              have hfz46_3 := blk_frozen BKA.out 3
              have hfz46_4 := blk_frozen BKA.out 4
              have hfz46_5 := blk_frozen BKA.out 5
              have hfz46_6 := blk_frozen BKA.out 6
              go_wp2
              repeat (go_quiet (fail); try go_wp2)
              go_meet
              case rel => exact ⟨_, (true), (by first | rfl | (simp; done) | (simp [*]; done)), H', ⟨by first | omega | exact Nat.le_refl _⟩, ⟨by (with_reducible repeat (first | refine blk_drewN ?_ _ | refine blk_drew ?_ | refine blk_alloc ?_ _)); exact BKA.out⟩, ⟨by repeat (first | (with_reducible first | exact HB.out | apply below_alloc | apply pw_below_drewN | apply below_drew1 | refine below_set ?_ GEA.out) | exact HB.out)⟩⟩
             ·rw [if_neg c45] at H
              have c45b0 : decide (2199023255552 < a0_5) = false := decide_eq_false c45
              clear c45
              have H' := Aside0.mk H
              clear H
              have hcz47_0 : w3.cell? ⟨gbA, 0, none⟩ = some (.int .i64 a0_0) := (blk_cell BKA.out 0).trans rfl
              have hcz47_1 : w3.cell? ⟨gbA, 1, none⟩ = some (.int .i64 a0_1) := (blk_cell BKA.out 1).trans rfl
              have hcz47_2 : w3.cell? ⟨gbA, 2, none⟩ = some (.int .i64 a0_2) := (blk_cell BKA.out 2).trans rfl
              have hcz47_3 : w3.cell? ⟨gbA, 3, none⟩ = some (.int .i64 a0_3) := (blk_cell BKA.out 3).trans rfl
              have hcz47_4 : w3.cell? ⟨gbA, 4, none⟩ = some (.int .i64 a0_4) := (blk_cell BKA.out 4).trans rfl
              have hcz47_5 : w3.cell? ⟨gbA, 5, none⟩ = some (.int .i64 a0_5) := (blk_cell BKA.out 5).trans rfl
              have hcz47_6 : w3.cell? ⟨gbA, 6, none⟩ = some (.slice A0_6 l0_6.length c0_6) := (blk_cell BKA.out 6).trans rfl
              have hfz47_0 := blk_frozen BKA.out 0
              have hfz47_1 := blk_frozen BKA.out 1
              have hfz47_2 := blk_frozen BKA.out 2
              have hfz47_3 := blk_frozen BKA.out 3
              have hfz47_4 := blk_frozen BKA.out 4
              have hfz47_5 := blk_frozen BKA.out 5
              have hfz47_6 := blk_frozen BKA.out 6
              go_wp2
              repeat (go_quiet (fail); try go_wp2)
              go_meet
              case rel => exact ⟨_, (decide ((l0_6.length : Int) > 64)), (by first | rfl | (simp; done) | (simp [*]; done)), H', ⟨by first | omega | exact Nat.le_refl _⟩, ⟨by (with_reducible repeat (first | refine blk_drewN ?_ _ | refine blk_drew ?_ | refine blk_alloc ?_ _)); exact BKA.out⟩, ⟨by repeat (first | (with_reducible first | exact HB.out | apply below_alloc | apply pw_below_drewN | apply below_drew1 | refine below_set ?_ GEA.out) | exact HB.out)⟩⟩
   ·rw [if_neg c26] at H
    have c26b0 : (a0_0 == 2) = false := beq_eq_false_iff_ne.mpr c26
    have c26b1 : (a0_0 != 2) = true := bne_iff_ne.mpr c26
    have H' := Aside0.mk H
    clear H
    have hcz48_0 : w3.cell? ⟨gbA, 0, none⟩ = some (.int .i64 a0_0) := (blk_cell BKA.out 0).trans rfl
    have hcz48_1 : w3.cell? ⟨gbA, 1, none⟩ = some (.int .i64 a0_1) := (blk_cell BKA.out 1).trans rfl
    have hcz48_2 : w3.cell? ⟨gbA, 2, none⟩ = some (.int .i64 a0_2) := (blk_cell BKA.out 2).trans rfl
    have hcz48_3 : w3.cell? ⟨gbA, 3, none⟩ = some (.int .i64 a0_3) := (blk_cell BKA.out 3).trans rfl
    have hcz48_4 : w3.cell? ⟨gbA, 4, none⟩ = some (.int .i64 a0_4) := (blk_cell BKA.out 4).trans rfl
    have hcz48_5 : w3.cell? ⟨gbA, 5, none⟩ = some (.int .i64 a0_5) := (blk_cell BKA.out 5).trans rfl
    have hcz48_6 : w3.cell? ⟨gbA, 6, none⟩ = some (.slice A0_6 l0_6.length c0_6) := (blk_cell BKA.out 6).trans rfl
    have hfz48_0 := blk_frozen BKA.out 0
    have hfz48_1 := blk_frozen BKA.out 1
    have hfz48_2 := blk_frozen BKA.out 2
    have hfz48_3 := blk_frozen BKA.out 3
    have hfz48_4 := blk_frozen BKA.out 4
    have hfz48_5 := blk_frozen BKA.out 5
    have hfz48_6 := blk_frozen BKA.out 6
    go_wp2
    repeat (go_quiet (fail); try go_wp2)
    go_meet
    case rel => exact ⟨_, (true), (by first | rfl | (simp; done) | (simp [*]; done)), H', ⟨by first | omega | exact Nat.le_refl _⟩, ⟨by (with_reducible repeat (first | refine blk_drewN ?_ _ | refine blk_drew ?_ | refine blk_alloc ?_ _)); exact BKA.out⟩, ⟨by repeat (first | (with_reducible first | exact HB.out | apply below_alloc | apply pw_below_drewN | apply below_drew1 | refine below_set ?_ GEA.out) | exact HB.out)⟩⟩
 case rest =>
  clear HC2
  try clear c1
  try clear c2
  try clear p2
  try clear c3
  try clear c4
  try clear c4b0
  try clear c4b1
  try clear c5
  try clear c5b0
  try clear c7
  try clear c7b0
  try clear c9
  try clear c9b0
  try clear c11
  try clear c11b0
  try clear c13
  try clear c13b0
  try clear c15
  try clear c15b0
  try clear c17
  try clear c17b0
  try clear c19
  try clear c19b0
  try clear c21
  try clear c21b0
  try clear c23
  try clear c23b0
  try clear c26
  try clear c26b0
  try clear c26b1
  try clear c27
  try clear c27b0
  try clear c29
  try clear c29b0
  try clear c31
  try clear c31b0
  try clear c33
  try clear c33b0
  try clear c35
  try clear c35b0
  try clear c37
  try clear c37b0
  try clear c39
  try clear c39b0
  try clear c41
  try clear c41b0
  try clear c43
  try clear c43b0
  try clear c45
  try clear c45b0
  try clear hcz10_0
  try clear hcz10_1
  try clear hcz10_2
  try clear hcz10_3
  try clear hcz10_4
  try clear hcz10_5
  try clear hcz10_6
  try clear hcz12_0
  try clear hcz12_1
  try clear hcz12_2
  try clear hcz12_3
  try clear hcz12_4
  try clear hcz12_5
  try clear hcz12_6
  try clear hcz14_0
  try clear hcz14_1
  try clear hcz14_2
  try clear hcz14_3
  try clear hcz14_4
  try clear hcz14_5
  try clear hcz14_6
  try clear hcz16_0
  try clear hcz16_1
  try clear hcz16_2
  try clear hcz16_3
  try clear hcz16_4
  try clear hcz16_5
  try clear hcz16_6
  try clear hcz18_0
  try clear hcz18_1
  try clear hcz18_2
  try clear hcz18_3
  try clear hcz18_4
  try clear hcz18_5
  try clear hcz18_6
  try clear hcz20_0
  try clear hcz20_1
  try clear hcz20_2
  try clear hcz20_3
  try clear hcz20_4
  try clear hcz20_5
  try clear hcz20_6
  try clear hcz22_0
  try clear hcz22_1
  try clear hcz22_2
  try clear hcz22_3
  try clear hcz22_4
  try clear hcz22_5
  try clear hcz22_6
  try clear hcz24_0
  try clear hcz24_1
  try clear hcz24_2
  try clear hcz24_3
  try clear hcz24_4
  try clear hcz24_5
  try clear hcz24_6
  try clear hcz25_0
  try clear hcz25_1
  try clear hcz25_2
  try clear hcz25_3
  try clear hcz25_4
  try clear hcz25_5
  try clear hcz25_6
  try clear hcz28_0
  try clear hcz28_1
  try clear hcz28_2
  try clear hcz28_3
  try clear hcz28_4
  try clear hcz28_5
  try clear hcz28_6
  try clear hcz30_0
  try clear hcz30_1
  try clear hcz30_2
  try clear hcz30_3
  try clear hcz30_4
  try clear hcz30_5
  try clear hcz30_6
  try clear hcz32_0
  try clear hcz32_1
  try clear hcz32_2
  try clear hcz32_3
  try clear hcz32_4
  try clear hcz32_5
  try clear hcz32_6
  try clear hcz34_0
  try clear hcz34_1
  try clear hcz34_2
  try clear hcz34_3
  try clear hcz34_4
  try clear hcz34_5
  try clear hcz34_6
  try clear hcz36_0
  try clear hcz36_1
  try clear hcz36_2
  try clear hcz36_3
  try clear hcz36_4
  try clear hcz36_5
  try clear hcz36_6
  try clear hcz38_0
  try clear hcz38_1
  try clear hcz38_2
  try clear hcz38_3
  try clear hcz38_4
  try clear hcz38_5
  try clear hcz38_6
  try clear hcz40_0
  try clear hcz40_1
  try clear hcz40_2
  try clear hcz40_3
  try clear hcz40_4
  try clear hcz40_5
  try clear hcz40_6
  try clear hcz42_0
  try clear hcz42_1
  try clear hcz42_2
  try clear hcz42_3
  try clear hcz42_4
  try clear hcz42_5
  try clear hcz42_6
  try clear hcz44_0
  try clear hcz44_1
  try clear hcz44_2
  try clear hcz44_3
  try clear hcz44_4
  try clear hcz44_5
  try clear hcz44_6
  try clear hcz46_0
  try clear hcz46_1
  try clear hcz46_2
  try clear hcz46_3
  try clear hcz46_4
  try clear hcz46_5
  try clear hcz46_6
  try clear hcz47_0
  try clear hcz47_1
  try clear hcz47_2
  try clear hcz47_3
  try clear hcz47_4
  try clear hcz47_5
  try clear hcz47_6
  try clear hcz48_0
  try clear hcz48_1
  try clear hcz48_2
  try clear hcz48_3
  try clear hcz48_4
  try clear hcz48_5
  try clear hcz48_6
  try clear hcz8_0
  try clear hcz8_1
  try clear hcz8_2
  try clear hcz8_3
  try clear hcz8_4
  try clear hcz8_5
  try clear hcz8_6
  try clear hfz10_0
  try clear hfz10_1
  try clear hfz10_2
  try clear hfz10_3
  try clear hfz10_4
  try clear hfz10_5
  try clear hfz10_6
  try clear hfz12_0
  try clear hfz12_1
  try clear hfz12_2
  try clear hfz12_3
  try clear hfz12_4
  try clear hfz12_5
  try clear hfz12_6
  try clear hfz14_0
  try clear hfz14_1
  try clear hfz14_2
  try clear hfz14_3
  try clear hfz14_4
  try clear hfz14_5
  try clear hfz14_6
  try clear hfz16_0
  try clear hfz16_1
  try clear hfz16_2
  try clear hfz16_3
  try clear hfz16_4
  try clear hfz16_5
  try clear hfz16_6
  try clear hfz18_0
  try clear hfz18_1
  try clear hfz18_2
  try clear hfz18_3
  try clear hfz18_4
  try clear hfz18_5
  try clear hfz18_6
  try clear hfz20_0
  try clear hfz20_1
  try clear hfz20_2
  try clear hfz20_3
  try clear hfz20_4
  try clear hfz20_5
  try clear hfz20_6
  try clear hfz22_0
  try clear hfz22_1
  try clear hfz22_2
  try clear hfz22_3
  try clear hfz22_4
  try clear hfz22_5
  try clear hfz22_6
  try clear hfz24_0
  try clear hfz24_1
  try clear hfz24_2
  try clear hfz24_3
  try clear hfz24_4
  try clear hfz24_5
  try clear hfz24_6
  try clear hfz25_0
  try clear hfz25_1
  try clear hfz25_2
  try clear hfz25_3
  try clear hfz25_4
  try clear hfz25_5
  try clear hfz25_6
  try clear hfz28_0
  try clear hfz28_1
  try clear hfz28_2
  try clear hfz28_3
  try clear hfz28_4
  try clear hfz28_5
  try clear hfz28_6
  try clear hfz30_0
  try clear hfz30_1
  try clear hfz30_2
  try clear hfz30_3
  try clear hfz30_4
  try clear hfz30_5
  try clear hfz30_6
  try clear hfz32_0
  try clear hfz32_1
  try clear hfz32_2
  try clear hfz32_3
  try clear hfz32_4
  try clear hfz32_5
  try clear hfz32_6
  try clear hfz34_0
  try clear hfz34_1
  try clear hfz34_2
  try clear hfz34_3
  try clear hfz34_4
  try clear hfz34_5
  try clear hfz34_6
  try clear hfz36_0
  try clear hfz36_1
  try clear hfz36_2
  try clear hfz36_3
  try clear hfz36_4
  try clear hfz36_5
  try clear hfz36_6
  try clear hfz38_0
  try clear hfz38_1
  try clear hfz38_2
  try clear hfz38_3
  try clear hfz38_4
  try clear hfz38_5
  try clear hfz38_6
  try clear hfz40_0
  try clear hfz40_1
  try clear hfz40_2
  try clear hfz40_3
  try clear hfz40_4
  try clear hfz40_5
  try clear hfz40_6
  try clear hfz42_0
  try clear hfz42_1
  try clear hfz42_2
  try clear hfz42_3
  try clear hfz42_4
  try clear hfz42_5
  try clear hfz42_6
  try clear hfz44_0
  try clear hfz44_1
  try clear hfz44_2
  try clear hfz44_3
  try clear hfz44_4
  try clear hfz44_5
  try clear hfz44_6
  try clear hfz46_0
  try clear hfz46_1
  try clear hfz46_2
  try clear hfz46_3
  try clear hfz46_4
  try clear hfz46_5
  try clear hfz46_6
  try clear hfz47_0
  try clear hfz47_1
  try clear hfz47_2
  try clear hfz47_3
  try clear hfz47_4
  try clear hfz47_5
  try clear hfz47_6
  try clear hfz48_0
  try clear hfz48_1
  try clear hfz48_2
  try clear hfz48_3
  try clear hfz48_4
  try clear hfz48_5
  try clear hfz48_6
  try clear hfz6_1
  try clear hfz6_2
  try clear hfz6_3
  try clear hfz6_4
  try clear hfz6_5
  try clear hfz6_6
  try clear hfz8_0
  try clear hfz8_1
  try clear hfz8_2
  try clear hfz8_3
  try clear hfz8_4
  try clear hfz8_5
  try clear hfz8_6
  obtain ⟨kq, x70_1, rfl, HA, HJ1, BKA, HB⟩ := hcut
  cases kq with
  | zero => exact absurd HA.out (by simp [billetref16_Right.j0])
  | succ kj1 =>
   have H := HA.out
   clear HA
   simp only [billetref16_Right.j0] at H
   by_cases c49 : x70_1 = true
   ·subst c49
    have H1 : (some false) = some r := by rw [if_pos rfl] at H; exact H
    clear H
    have H := H1
    clear H1
    obtain rfl := Option.some.inj H
    go_wp2
    repeat (go_quiet (fail); try go_wp2)
    go_ret
    exact ⟨by first | rfl | (simp [errW_none, errW_some] <;> rfl) | (simp [*, errW_none, errW_some] <;> rfl), by repeat (first | (with_reducible first | exact HB.out | apply below_alloc | apply pw_below_drewN | apply below_drew1 | refine below_set ?_ GEA.out) | exact HB.out)⟩
   ·replace c49 := Bool.eq_false_iff.mpr c49
    subst c49
    have H1 : (billetref16_Right.l0 kj1 0 a0_0 a0_1 a0_2 a0_3 a0_4 a0_5 l0_6) = some r := by rw [if_neg (show ¬ (false = true) by decide)] at H; exact H
    clear H
    have H := H1
    clear H1
    have H' := Aside0.mk H
    clear H
    go_wp2
    repeat (go_quiet (fail); try go_wp2)
    go_loopg [3] kj1 (fun kq v3 w' => ∃ (x3_2 : Int), v3 = .int .i64 x3_2 ∧ Aside0 (billetref16_Right.l0 kq x3_2 a0_0 a0_1 a0_2 a0_3 a0_4 a0_5 l0_6 = some r) ∧ Aside0 (kq ≤ kj1) ∧ Aside0 (w'.heap[gbA]? = some (.cells #[.int .i64 a0_0, .int .i64 a0_1, .int .i64 a0_2, .int .i64 a0_3, .int .i64 a0_4, .int .i64 a0_5, (.slice A0_6 l0_6.length c0_6)] 31 (0, 0))) ∧ Aside0 (Below w.heap.size w w'))
    case atStart => exact ⟨(0), (by first | rfl | (simp; done) | (simp [*]; done)), H', ⟨Nat.le_refl _⟩, ⟨by (with_reducible repeat (first | refine blk_drewN ?_ _ | refine blk_drew ?_ | refine blk_alloc ?_ _)); exact BKA.out⟩, ⟨by repeat (first | (with_reducible first | exact HB.out | apply below_alloc | apply pw_below_drewN | apply below_drew1 | refine below_set ?_ GEA.out) | exact HB.out)⟩⟩
    case round =>
     clear H'
     try clear c1
     try clear c2
     try clear p2
     try clear c3
     try clear c4
     try clear c4b0
     try clear c4b1
     try clear c5
     try clear c5b0
     try clear c7
     try clear c7b0
     try clear c9
     try clear c9b0
     try clear c11
     try clear c11b0
     try clear c13
     try clear c13b0
     try clear c15
     try clear c15b0
     try clear c17
     try clear c17b0
     try clear c19
     try clear c19b0
     try clear c21
     try clear c21b0
     try clear c23
     try clear c23b0
     try clear c26
     try clear c26b0
     try clear c26b1
     try clear c27
     try clear c27b0
     try clear c29
     try clear c29b0
     try clear c31
     try clear c31b0
     try clear c33
     try clear c33b0
     try clear c35
     try clear c35b0
     try clear c37
     try clear c37b0
     try clear c39
     try clear c39b0
     try clear c41
     try clear c41b0
     try clear c43
     try clear c43b0
     try clear c45
     try clear c45b0
     try clear c49
     try clear hcz10_0
     try clear hcz10_1
     try clear hcz10_2
     try clear hcz10_3
     try clear hcz10_4
     try clear hcz10_5
     try clear hcz10_6
     try clear hcz12_0
     try clear hcz12_1
     try clear hcz12_2
     try clear hcz12_3
     try clear hcz12_4
     try clear hcz12_5
     try clear hcz12_6
     try clear hcz14_0
     try clear hcz14_1
     try clear hcz14_2
     try clear hcz14_3
     try clear hcz14_4
     try clear hcz14_5
     try clear hcz14_6
     try clear hcz16_0
     try clear hcz16_1
     try clear hcz16_2
     try clear hcz16_3
     try clear hcz16_4
     try clear hcz16_5
     try clear hcz16_6
     try clear hcz18_0
     try clear hcz18_1
     try clear hcz18_2
     try clear hcz18_3
     try clear hcz18_4
     try clear hcz18_5
     try clear hcz18_6
     try clear hcz20_0
     try clear hcz20_1
     try clear hcz20_2
     try clear hcz20_3
     try clear hcz20_4
     try clear hcz20_5
     try clear hcz20_6
     try clear hcz22_0
     try clear hcz22_1
     try clear hcz22_2
     try clear hcz22_3
     try clear hcz22_4
     try clear hcz22_5
     try clear hcz22_6
     try clear hcz24_0
     try clear hcz24_1
     try clear hcz24_2
     try clear hcz24_3
     try clear hcz24_4
     try clear hcz24_5
     try clear hcz24_6
     try clear hcz25_0
     try clear hcz25_1
     try clear hcz25_2
     try clear hcz25_3
     try clear hcz25_4
     try clear hcz25_5
     try clear hcz25_6
     try clear hcz28_0
     try clear hcz28_1
     try clear hcz28_2
     try clear hcz28_3
     try clear hcz28_4
     try clear hcz28_5
     try clear hcz28_6
     try clear hcz30_0
     try clear hcz30_1
     try clear hcz30_2
     try clear hcz30_3
     try clear hcz30_4
     try clear hcz30_5
     try clear hcz30_6
     try clear hcz32_0
     try clear hcz32_1
     try clear hcz32_2
     try clear hcz32_3
     try clear hcz32_4
     try clear hcz32_5
     try clear hcz32_6
     try clear hcz34_0
     try clear hcz34_1
     try clear hcz34_2
     try clear hcz34_3
     try clear hcz34_4
     try clear hcz34_5
     try clear hcz34_6
     try clear hcz36_0
     try clear hcz36_1
     try clear hcz36_2
     try clear hcz36_3
     try clear hcz36_4
     try clear hcz36_5
     try clear hcz36_6
     try clear hcz38_0
     try clear hcz38_1
     try clear hcz38_2
     try clear hcz38_3
     try clear hcz38_4
     try clear hcz38_5
     try clear hcz38_6
     try clear hcz40_0
     try clear hcz40_1
     try clear hcz40_2
     try clear hcz40_3
     try clear hcz40_4
     try clear hcz40_5
     try clear hcz40_6
     try clear hcz42_0
     try clear hcz42_1
     try clear hcz42_2
     try clear hcz42_3
     try clear hcz42_4
     try clear hcz42_5
     try clear hcz42_6
     try clear hcz44_0
     try clear hcz44_1
     try clear hcz44_2
     try clear hcz44_3
     try clear hcz44_4
     try clear hcz44_5
     try clear hcz44_6
     try clear hcz46_0
     try clear hcz46_1
     try clear hcz46_2
     try clear hcz46_3
     try clear hcz46_4
     try clear hcz46_5
     try clear hcz46_6
     try clear hcz47_0
     try clear hcz47_1
     try clear hcz47_2
     try clear hcz47_3
     try clear hcz47_4
     try clear hcz47_5
     try clear hcz47_6
     try clear hcz48_0
     try clear hcz48_1
     try clear hcz48_2
     try clear hcz48_3
     try clear hcz48_4
     try clear hcz48_5
     try clear hcz48_6
     try clear hcz8_0
     try clear hcz8_1
     try clear hcz8_2
     try clear hcz8_3
     try clear hcz8_4
     try clear hcz8_5
     try clear hcz8_6
     try clear hfz10_0
     try clear hfz10_1
     try clear hfz10_2
     try clear hfz10_3
     try clear hfz10_4
     try clear hfz10_5
     try clear hfz10_6
     try clear hfz12_0
     try clear hfz12_1
     try clear hfz12_2
     try clear hfz12_3
     try clear hfz12_4
     try clear hfz12_5
     try clear hfz12_6
     try clear hfz14_0
     try clear hfz14_1
     try clear hfz14_2
     try clear hfz14_3
     try clear hfz14_4
     try clear hfz14_5
     try clear hfz14_6
     try clear hfz16_0
     try clear hfz16_1
     try clear hfz16_2
     try clear hfz16_3
     try clear hfz16_4
     try clear hfz16_5
     try clear hfz16_6
     try clear hfz18_0
     try clear hfz18_1
     try clear hfz18_2
     try clear hfz18_3
     try clear hfz18_4
     try clear hfz18_5
     try clear hfz18_6
     try clear hfz20_0
     try clear hfz20_1
     try clear hfz20_2
     try clear hfz20_3
     try clear hfz20_4
     try clear hfz20_5
     try clear hfz20_6
     try clear hfz22_0
     try clear hfz22_1
     try clear hfz22_2
     try clear hfz22_3
     try clear hfz22_4
     try clear hfz22_5
     try clear hfz22_6
     try clear hfz24_0
     try clear hfz24_1
     try clear hfz24_2
     try clear hfz24_3
     try clear hfz24_4
     try clear hfz24_5
     try clear hfz24_6
     try clear hfz25_0
     try clear hfz25_1
     try clear hfz25_2
     try clear hfz25_3
     try clear hfz25_4
     try clear hfz25_5
     try clear hfz25_6
     try clear hfz28_0
     try clear hfz28_1
     try clear hfz28_2
     try clear hfz28_3
     try clear hfz28_4
     try clear hfz28_5
     try clear hfz28_6
     try clear hfz30_0
     try clear hfz30_1
     try clear hfz30_2
     try clear hfz30_3
     try clear hfz30_4
     try clear hfz30_5
     try clear hfz30_6
     try clear hfz32_0
     try clear hfz32_1
     try clear hfz32_2
     try clear hfz32_3
     try clear hfz32_4
     try clear hfz32_5
     try clear hfz32_6
     try clear hfz34_0
     try clear hfz34_1
     try clear hfz34_2
     try clear hfz34_3
     try clear hfz34_4
     try clear hfz34_5
     try clear hfz34_6
     try clear hfz36_0
     try clear hfz36_1
     try clear hfz36_2
     try clear hfz36_3
     try clear hfz36_4
     try clear hfz36_5
     try clear hfz36_6
     try clear hfz38_0
     try clear hfz38_1
     try clear hfz38_2
     try clear hfz38_3
     try clear hfz38_4
     try clear hfz38_5
     try clear hfz38_6
     try clear hfz40_0
     try clear hfz40_1
     try clear hfz40_2
     try clear hfz40_3
     try clear hfz40_4
     try clear hfz40_5
     try clear hfz40_6
     try clear hfz42_0
     try clear hfz42_1
     try clear hfz42_2
     try clear hfz42_3
     try clear hfz42_4
     try clear hfz42_5
     try clear hfz42_6
     try clear hfz44_0
     try clear hfz44_1
     try clear hfz44_2
     try clear hfz44_3
     try clear hfz44_4
     try clear hfz44_5
     try clear hfz44_6
     try clear hfz46_0
     try clear hfz46_1
     try clear hfz46_2
     try clear hfz46_3
     try clear hfz46_4
     try clear hfz46_5
     try clear hfz46_6
     try clear hfz47_0
     try clear hfz47_1
     try clear hfz47_2
     try clear hfz47_3
     try clear hfz47_4
     try clear hfz47_5
     try clear hfz47_6
     try clear hfz48_0
     try clear hfz48_1
     try clear hfz48_2
     try clear hfz48_3
     try clear hfz48_4
     try clear hfz48_5
     try clear hfz48_6
     try clear hfz6_1
     try clear hfz6_2
     try clear hfz6_3
     try clear hfz6_4
     try clear hfz6_5
     try clear hfz6_6
     try clear hfz8_0
     try clear hfz8_1
     try clear hfz8_2
     try clear hfz8_3
     try clear hfz8_4
     try clear hfz8_5
     try clear hfz8_6
     try clear p2
     obtain ⟨x3_2, rfl, HA, HK2, BKA, HB⟩ := hrel
     cases gk with
     | zero => exact absurd HA.out (by simp [billetref16_Right.l0])
     | succ k2 =>
      have H := HA.out
      clear HA
      simp only [billetref16_Right.l0] at H
      by_cases c50 : x3_2 < (l0_6.length : Int)
      ·rw [if_pos c50] at H
       have c50b0 : decide (x3_2 < (l0_6.length : Int)) = true := decide_eq_true c50
       clear c50
       by_cases c51 : 0 ≤ x3_2
       ·rw [if_pos c51] at H
        have c51b0 : decide (0 ≤ x3_2) = true := decide_eq_true c51
        clear c51
        replace H := Option.bind_eq_some_iff.mp H
        obtain ⟨tO, AR, H⟩ := H
        replace H : ((billetref04_IsName.f k2 ((rd_T35 l0_6 x3_2).f1)).bind fun tN => (if tO = true then (if tN = true then (if ((rd_T35 l0_6 x3_2).f2) < 1 then (billetref16_Right.j2 k2 x3_2 true a0_0 a0_1 a0_2 a0_3 a0_4 a0_5 l0_6 ((rd_T35 l0_6 x3_2).f0) ((rd_T35 l0_6 x3_2).f1) ((rd_T35 l0_6 x3_2).f2)) else (billetref16_Right.j2 k2 x3_2 (decide (((rd_T35 l0_6 x3_2).f2) > 1000)) a0_0 a0_1 a0_2 a0_3 a0_4 a0_5 l0_6 ((rd_T35 l0_6 x3_2).f0) ((rd_T35 l0_6 x3_2).f1) ((rd_T35 l0_6 x3_2).f2))) else (billetref16_Right.j2 k2 x3_2 true a0_0 a0_1 a0_2 a0_3 a0_4 a0_5 l0_6 ((rd_T35 l0_6 x3_2).f0) ((rd_T35 l0_6 x3_2).f1) ((rd_T35 l0_6 x3_2).f2))) else (billetref16_Right.j2 k2 x3_2 true a0_0 a0_1 a0_2 a0_3 a0_4 a0_5 l0_6 ((rd_T35 l0_6 x3_2).f0) ((rd_T35 l0_6 x3_2).f1) ((rd_T35 l0_6 x3_2).f2)))) = some r := H
        have A52 := Aside0.mk AR
        clear AR
        replace H := Option.bind_eq_some_iff.mp H
        obtain ⟨tN, AS, H⟩ := H
        replace H : (if tO = true then (if tN = true then (if ((rd_T35 l0_6 x3_2).f2) < 1 then (billetref16_Right.j2 k2 x3_2 true a0_0 a0_1 a0_2 a0_3 a0_4 a0_5 l0_6 ((rd_T35 l0_6 x3_2).f0) ((rd_T35 l0_6 x3_2).f1) ((rd_T35 l0_6 x3_2).f2)) else (billetref16_Right.j2 k2 x3_2 (decide (((rd_T35 l0_6 x3_2).f2) > 1000)) a0_0 a0_1 a0_2 a0_3 a0_4 a0_5 l0_6 ((rd_T35 l0_6 x3_2).f0) ((rd_T35 l0_6 x3_2).f1) ((rd_T35 l0_6 x3_2).f2))) else (billetref16_Right.j2 k2 x3_2 true a0_0 a0_1 a0_2 a0_3 a0_4 a0_5 l0_6 ((rd_T35 l0_6 x3_2).f0) ((rd_T35 l0_6 x3_2).f1) ((rd_T35 l0_6 x3_2).f2))) else (billetref16_Right.j2 k2 x3_2 true a0_0 a0_1 a0_2 a0_3 a0_4 a0_5 l0_6 ((rd_T35 l0_6 x3_2).f0) ((rd_T35 l0_6 x3_2).f1) ((rd_T35 l0_6 x3_2).f2))) = some r := H
        have A53 := Aside0.mk AS
        clear AS
        have HC54 := Aside0.mk H
        clear H
        have hcz55_0 : wr.cell? ⟨gbA, 0, none⟩ = some (.int .i64 a0_0) := (blk_cell BKA.out 0).trans rfl
        have hcz55_1 : wr.cell? ⟨gbA, 1, none⟩ = some (.int .i64 a0_1) := (blk_cell BKA.out 1).trans rfl
        have hcz55_2 : wr.cell? ⟨gbA, 2, none⟩ = some (.int .i64 a0_2) := (blk_cell BKA.out 2).trans rfl
        have hcz55_3 : wr.cell? ⟨gbA, 3, none⟩ = some (.int .i64 a0_3) := (blk_cell BKA.out 3).trans rfl
        have hcz55_4 : wr.cell? ⟨gbA, 4, none⟩ = some (.int .i64 a0_4) := (blk_cell BKA.out 4).trans rfl
        have hcz55_5 : wr.cell? ⟨gbA, 5, none⟩ = some (.int .i64 a0_5) := (blk_cell BKA.out 5).trans rfl
        have hcz55_6 : wr.cell? ⟨gbA, 6, none⟩ = some (.slice A0_6 l0_6.length c0_6) := (blk_cell BKA.out 6).trans rfl
        have hfz55_0 := blk_frozen BKA.out 0
        have hfz55_1 := blk_frozen BKA.out 1
        have hfz55_2 := blk_frozen BKA.out 2
        have hfz55_3 := blk_frozen BKA.out 3
        have hfz55_4 := blk_frozen BKA.out 4
        have hfz55_5 := blk_frozen BKA.out 5
        have hfz55_6 := blk_frozen BKA.out 6
        have pF : 0 ≤ (x3_2 : Int) := of_decide_eq_true (by first | (with_reducible assumption) | assumption)
        have qF : x3_2 < (l0_6.length : Int) := of_decide_eq_true (by first | (with_reducible assumption) | assumption)
        obtain ⟨adF, eF, hxF_0, hxF_1, hxF_2⟩ := at_T35 HR0_6.out x3_2 pF qF
        cases eF
        replace hxF_0 := (HB.out.cell (World.block_lt_of_cell? w _ hxF_0)).trans hxF_0
        replace hxF_1 := (HB.out.cell (World.block_lt_of_cell? w _ hxF_1)).trans hxF_1
        replace hxF_2 := (HB.out.cell (World.block_lt_of_cell? w _ hxF_2)).trans hxF_2
        replace pF := eq_true pF
        (try replace pFz := eq_true pFz)
        replace qF := eq_true qF
        (try replace qFz := eq_true qFz)
        go_upto_region 9 with (first | ((with_reducible refine gate_dst (N := 4) rfl ?_); (try (refine gate_guard (by rfl) ?_; dsimp only)); refine box_event ?hg (N := 4) ?hd (cs := #[.string (⟨#[]⟩ : ByteArray), .string (⟨#[]⟩ : ByteArray), .int .i64 0]) (t := 35) ?hr ?_; (case hd => rfl); (case hg => rfl); (case hr => first | (go_simp; done) | (go_simp; rfl)); intro gbB hg w56 hbox hb; have n0_ := Aside0.mk (blk_below (g := gbA) (o := .cells #[.int .i64 a0_0, .int .i64 a0_1, .int .i64 a0_2, .int .i64 a0_3, .int .i64 a0_4, .int .i64 a0_5, .slice (some adF) l0_6.length c0_6] 31 (0, 0)) (by (with_reducible repeat (first | refine blk_drewN ?_ _ | refine blk_drew ?_ | refine blk_alloc ?_ _)); exact BKA.out) hb); have n1_ := Aside0.mk (below_step (by repeat (first | (with_reducible first | exact HB.out | apply below_alloc | apply pw_below_drewN | apply below_drew1 | refine below_set ?_ GEA.out) | exact HB.out)) hb); have n2_ := Aside0.mk (hbox); have n3_ := Aside0.mk ((by rw [hg]; exact (below_size (by repeat (first | (with_reducible first | exact HB.out | apply below_alloc | apply pw_below_drewN | apply below_drew1 | refine below_set ?_ GEA.out) | exact HB.out))) : w.heap.size ≤ gbB)); have n4_ := Aside0.mk ((by rw [hg]; exact (below_size (by repeat (first | (with_reducible first | exact HB.out | apply below_alloc | apply pw_below_drewN | apply below_drew1 | refine below_set ?_ GEA.out) | exact HB.out))) : w.heap.size ≤ gbB)); have n5_ := Aside0.mk ((by rw [hg]; exact Nat.ne_of_lt (blk_lt (g := gbA) (o := .cells #[.int .i64 a0_0, .int .i64 a0_1, .int .i64 a0_2, .int .i64 a0_3, .int .i64 a0_4, .int .i64 a0_5, .slice (some adF) l0_6.length c0_6] 31 (0, 0)) (by (with_reducible repeat (first | refine blk_drewN ?_ _ | refine blk_drew ?_ | refine blk_alloc ?_ _)); exact BKA.out)) : gbA ≠ gbB)); have n6_ := Aside0.mk ((by rw [hg]; exact Nat.ne_of_gt (blk_lt (g := gbA) (o := .cells #[.int .i64 a0_0, .int .i64 a0_1, .int .i64 a0_2, .int .i64 a0_3, .int .i64 a0_4, .int .i64 a0_5, .slice (some adF) l0_6.length c0_6] 31 (0, 0)) (by (with_reducible repeat (first | refine blk_drewN ?_ _ | refine blk_drew ?_ | refine blk_alloc ?_ _)); exact BKA.out)) : gbB ≠ gbA)); clear BKA; clear HB; have BKA := n0_; have HB := n1_; have BKB := n2_; have GWB := n3_; have GEB := n4_; have NBA_B := n5_; have NBB_A := n6_; clear n0_ n1_ n2_ n3_ n4_ n5_ n6_; clear hb hbox hg; have hnb57 := NBB_A.out; have hnc57 := NBA_B.out; have hcz58_0 : w56.cell? ⟨gbB, 0, none⟩ = some (.string (⟨#[]⟩ : ByteArray)) := (blk_cell BKB.out 0).trans rfl; have hcz58_1 : w56.cell? ⟨gbB, 1, none⟩ = some (.string (⟨#[]⟩ : ByteArray)) := (blk_cell BKB.out 1).trans rfl; have hcz58_2 : w56.cell? ⟨gbB, 2, none⟩ = some (.int .i64 0) := (blk_cell BKB.out 2).trans rfl; have hfz58_0 := blk_frozen BKB.out 0; have hfz58_1 := blk_frozen BKB.out 1; have hfz58_2 := blk_frozen BKB.out 2) | (go_at_call 32; (with_reducible refine (billetref04_IsName.calls k2 ((rd_T35 l0_6 x3_2).f0) tO _ A52.out).mono ?_); rintro e w' ⟨rfl, ⟨nd, rfl⟩⟩; (try first | exact ⟨rfl, _, World.drewN_drewN _ _ _⟩ | exact ⟨rfl, _, Eq.trans (World.drewN_drewN _ _ _) (congrArg (World.drewN _) (Nat.add_assoc _ _ _))⟩)) | (go_at_call 32; (with_reducible refine (billetref04_IsName.calls k2 ((rd_T35 l0_6 x3_2).f1) tN _ A53.out).mono ?_); rintro e w' ⟨rfl, ⟨nd, rfl⟩⟩; (try first | exact ⟨rfl, _, World.drewN_drewN _ _ _⟩ | exact ⟨rfl, _, Eq.trans (World.drewN_drewN _ _ _) (congrArg (World.drewN _) (Nat.add_assoc _ _ _))⟩)))
        repeat (go_quiet (first | ((with_reducible refine gate_dst (N := 4) rfl ?_); (try (refine gate_guard (by rfl) ?_; dsimp only)); refine box_event ?hg (N := 4) ?hd (cs := #[.string (⟨#[]⟩ : ByteArray), .string (⟨#[]⟩ : ByteArray), .int .i64 0]) (t := 35) ?hr ?_; (case hd => rfl); (case hg => rfl); (case hr => first | (go_simp; done) | (go_simp; rfl)); intro gbB hg w56 hbox hb; have n0_ := Aside0.mk (blk_below (g := gbA) (o := .cells #[.int .i64 a0_0, .int .i64 a0_1, .int .i64 a0_2, .int .i64 a0_3, .int .i64 a0_4, .int .i64 a0_5, .slice (some adF) l0_6.length c0_6] 31 (0, 0)) (by (with_reducible repeat (first | refine blk_drewN ?_ _ | refine blk_drew ?_ | refine blk_alloc ?_ _)); exact BKA.out) hb); have n1_ := Aside0.mk (below_step (by repeat (first | (with_reducible first | exact HB.out | apply below_alloc | apply pw_below_drewN | apply below_drew1 | refine below_set ?_ GEA.out) | exact HB.out)) hb); have n2_ := Aside0.mk (hbox); have n3_ := Aside0.mk ((by rw [hg]; exact (below_size (by repeat (first | (with_reducible first | exact HB.out | apply below_alloc | apply pw_below_drewN | apply below_drew1 | refine below_set ?_ GEA.out) | exact HB.out))) : w.heap.size ≤ gbB)); have n4_ := Aside0.mk ((by rw [hg]; exact (below_size (by repeat (first | (with_reducible first | exact HB.out | apply below_alloc | apply pw_below_drewN | apply below_drew1 | refine below_set ?_ GEA.out) | exact HB.out))) : w.heap.size ≤ gbB)); have n5_ := Aside0.mk ((by rw [hg]; exact Nat.ne_of_lt (blk_lt (g := gbA) (o := .cells #[.int .i64 a0_0, .int .i64 a0_1, .int .i64 a0_2, .int .i64 a0_3, .int .i64 a0_4, .int .i64 a0_5, .slice (some adF) l0_6.length c0_6] 31 (0, 0)) (by (with_reducible repeat (first | refine blk_drewN ?_ _ | refine blk_drew ?_ | refine blk_alloc ?_ _)); exact BKA.out)) : gbA ≠ gbB)); have n6_ := Aside0.mk ((by rw [hg]; exact Nat.ne_of_gt (blk_lt (g := gbA) (o := .cells #[.int .i64 a0_0, .int .i64 a0_1, .int .i64 a0_2, .int .i64 a0_3, .int .i64 a0_4, .int .i64 a0_5, .slice (some adF) l0_6.length c0_6] 31 (0, 0)) (by (with_reducible repeat (first | refine blk_drewN ?_ _ | refine blk_drew ?_ | refine blk_alloc ?_ _)); exact BKA.out)) : gbB ≠ gbA)); clear BKA; clear HB; have BKA := n0_; have HB := n1_; have BKB := n2_; have GWB := n3_; have GEB := n4_; have NBA_B := n5_; have NBB_A := n6_; clear n0_ n1_ n2_ n3_ n4_ n5_ n6_; clear hb hbox hg; have hnb57 := NBB_A.out; have hnc57 := NBA_B.out; have hcz58_0 : w56.cell? ⟨gbB, 0, none⟩ = some (.string (⟨#[]⟩ : ByteArray)) := (blk_cell BKB.out 0).trans rfl; have hcz58_1 : w56.cell? ⟨gbB, 1, none⟩ = some (.string (⟨#[]⟩ : ByteArray)) := (blk_cell BKB.out 1).trans rfl; have hcz58_2 : w56.cell? ⟨gbB, 2, none⟩ = some (.int .i64 0) := (blk_cell BKB.out 2).trans rfl; have hfz58_0 := blk_frozen BKB.out 0; have hfz58_1 := blk_frozen BKB.out 1; have hfz58_2 := blk_frozen BKB.out 2) | (go_at_call 32; (with_reducible refine (billetref04_IsName.calls k2 ((rd_T35 l0_6 x3_2).f0) tO _ A52.out).mono ?_); rintro e w' ⟨rfl, ⟨nd, rfl⟩⟩; (try first | exact ⟨rfl, _, World.drewN_drewN _ _ _⟩ | exact ⟨rfl, _, Eq.trans (World.drewN_drewN _ _ _) (congrArg (World.drewN _) (Nat.add_assoc _ _ _))⟩)) | (go_at_call 32; (with_reducible refine (billetref04_IsName.calls k2 ((rd_T35 l0_6 x3_2).f1) tN _ A53.out).mono ?_); rintro e w' ⟨rfl, ⟨nd, rfl⟩⟩; (try first | exact ⟨rfl, _, World.drewN_drewN _ _ _⟩ | exact ⟨rfl, _, Eq.trans (World.drewN_drewN _ _ _) (congrArg (World.drewN _) (Nat.add_assoc _ _ _))⟩))); go_upto_region 9 with (first | ((with_reducible refine gate_dst (N := 4) rfl ?_); (try (refine gate_guard (by rfl) ?_; dsimp only)); refine box_event ?hg (N := 4) ?hd (cs := #[.string (⟨#[]⟩ : ByteArray), .string (⟨#[]⟩ : ByteArray), .int .i64 0]) (t := 35) ?hr ?_; (case hd => rfl); (case hg => rfl); (case hr => first | (go_simp; done) | (go_simp; rfl)); intro gbB hg w56 hbox hb; have n0_ := Aside0.mk (blk_below (g := gbA) (o := .cells #[.int .i64 a0_0, .int .i64 a0_1, .int .i64 a0_2, .int .i64 a0_3, .int .i64 a0_4, .int .i64 a0_5, .slice (some adF) l0_6.length c0_6] 31 (0, 0)) (by (with_reducible repeat (first | refine blk_drewN ?_ _ | refine blk_drew ?_ | refine blk_alloc ?_ _)); exact BKA.out) hb); have n1_ := Aside0.mk (below_step (by repeat (first | (with_reducible first | exact HB.out | apply below_alloc | apply pw_below_drewN | apply below_drew1 | refine below_set ?_ GEA.out) | exact HB.out)) hb); have n2_ := Aside0.mk (hbox); have n3_ := Aside0.mk ((by rw [hg]; exact (below_size (by repeat (first | (with_reducible first | exact HB.out | apply below_alloc | apply pw_below_drewN | apply below_drew1 | refine below_set ?_ GEA.out) | exact HB.out))) : w.heap.size ≤ gbB)); have n4_ := Aside0.mk ((by rw [hg]; exact (below_size (by repeat (first | (with_reducible first | exact HB.out | apply below_alloc | apply pw_below_drewN | apply below_drew1 | refine below_set ?_ GEA.out) | exact HB.out))) : w.heap.size ≤ gbB)); have n5_ := Aside0.mk ((by rw [hg]; exact Nat.ne_of_lt (blk_lt (g := gbA) (o := .cells #[.int .i64 a0_0, .int .i64 a0_1, .int .i64 a0_2, .int .i64 a0_3, .int .i64 a0_4, .int .i64 a0_5, .slice (some adF) l0_6.length c0_6] 31 (0, 0)) (by (with_reducible repeat (first | refine blk_drewN ?_ _ | refine blk_drew ?_ | refine blk_alloc ?_ _)); exact BKA.out)) : gbA ≠ gbB)); have n6_ := Aside0.mk ((by rw [hg]; exact Nat.ne_of_gt (blk_lt (g := gbA) (o := .cells #[.int .i64 a0_0, .int .i64 a0_1, .int .i64 a0_2, .int .i64 a0_3, .int .i64 a0_4, .int .i64 a0_5, .slice (some adF) l0_6.length c0_6] 31 (0, 0)) (by (with_reducible repeat (first | refine blk_drewN ?_ _ | refine blk_drew ?_ | refine blk_alloc ?_ _)); exact BKA.out)) : gbB ≠ gbA)); clear BKA; clear HB; have BKA := n0_; have HB := n1_; have BKB := n2_; have GWB := n3_; have GEB := n4_; have NBA_B := n5_; have NBB_A := n6_; clear n0_ n1_ n2_ n3_ n4_ n5_ n6_; clear hb hbox hg; have hnb57 := NBB_A.out; have hnc57 := NBA_B.out; have hcz58_0 : w56.cell? ⟨gbB, 0, none⟩ = some (.string (⟨#[]⟩ : ByteArray)) := (blk_cell BKB.out 0).trans rfl; have hcz58_1 : w56.cell? ⟨gbB, 1, none⟩ = some (.string (⟨#[]⟩ : ByteArray)) := (blk_cell BKB.out 1).trans rfl; have hcz58_2 : w56.cell? ⟨gbB, 2, none⟩ = some (.int .i64 0) := (blk_cell BKB.out 2).trans rfl; have hfz58_0 := blk_frozen BKB.out 0; have hfz58_1 := blk_frozen BKB.out 1; have hfz58_2 := blk_frozen BKB.out 2) | (go_at_call 32; (with_reducible refine (billetref04_IsName.calls k2 ((rd_T35 l0_6 x3_2).f0) tO _ A52.out).mono ?_); rintro e w' ⟨rfl, ⟨nd, rfl⟩⟩; (try first | exact ⟨rfl, _, World.drewN_drewN _ _ _⟩ | exact ⟨rfl, _, Eq.trans (World.drewN_drewN _ _ _) (congrArg (World.drewN _) (Nat.add_assoc _ _ _))⟩)) | (go_at_call 32; (with_reducible refine (billetref04_IsName.calls k2 ((rd_T35 l0_6 x3_2).f1) tN _ A53.out).mono ?_); rintro e w' ⟨rfl, ⟨nd, rfl⟩⟩; (try first | exact ⟨rfl, _, World.drewN_drewN _ _ _⟩ | exact ⟨rfl, _, Eq.trans (World.drewN_drewN _ _ _) (congrArg (World.drewN _) (Nat.add_assoc _ _ _))⟩))))
        (try simp only [Act.put, List.setIfInBounds_toArray, List.set_cons_zero, List.set_cons_succ])
        go_cut [104] (fun vP wc => ∃ (kq : Nat) (xP_53 : Bool), vP = .bool xP_53 ∧ Aside0 (billetref16_Right.j2 kq x3_2 xP_53 a0_0 a0_1 a0_2 a0_3 a0_4 a0_5 l0_6 ((rd_T35 l0_6 x3_2).f0) ((rd_T35 l0_6 x3_2).f1) ((rd_T35 l0_6 x3_2).f2) = some r) ∧ Aside0 (kq ≤ k2) ∧ Aside0 (wc.heap[gbA]? = some (.cells #[.int .i64 a0_0, .int .i64 a0_1, .int .i64 a0_2, .int .i64 a0_3, .int .i64 a0_4, .int .i64 a0_5, (.slice (some adF) l0_6.length c0_6)] 31 (0, 0))) ∧ Aside0 (wc.heap[gbB]? = some (.cells #[.string ((rd_T35 l0_6 x3_2).f0), .string ((rd_T35 l0_6 x3_2).f1), .int .i64 ((rd_T35 l0_6 x3_2).f2)] 35 (0, 0))) ∧ Aside0 (Below w.heap.size w wc))
        case first =>
         have H := HC54.out
         clear HC54
         by_cases c59 : tO = true
         ·subst c59
          have H1 : (if tN = true then (if ((rd_T35 l0_6 x3_2).f2) < 1 then (billetref16_Right.j2 k2 x3_2 true a0_0 a0_1 a0_2 a0_3 a0_4 a0_5 l0_6 ((rd_T35 l0_6 x3_2).f0) ((rd_T35 l0_6 x3_2).f1) ((rd_T35 l0_6 x3_2).f2)) else (billetref16_Right.j2 k2 x3_2 (decide (((rd_T35 l0_6 x3_2).f2) > 1000)) a0_0 a0_1 a0_2 a0_3 a0_4 a0_5 l0_6 ((rd_T35 l0_6 x3_2).f0) ((rd_T35 l0_6 x3_2).f1) ((rd_T35 l0_6 x3_2).f2))) else (billetref16_Right.j2 k2 x3_2 true a0_0 a0_1 a0_2 a0_3 a0_4 a0_5 l0_6 ((rd_T35 l0_6 x3_2).f0) ((rd_T35 l0_6 x3_2).f1) ((rd_T35 l0_6 x3_2).f2))) = some r := by rw [if_pos rfl] at H; exact H
          clear H
          have H := H1
          clear H1
          by_cases c60 : tN = true
          ·subst c60
           have H1 : (if ((rd_T35 l0_6 x3_2).f2) < 1 then (billetref16_Right.j2 k2 x3_2 true a0_0 a0_1 a0_2 a0_3 a0_4 a0_5 l0_6 ((rd_T35 l0_6 x3_2).f0) ((rd_T35 l0_6 x3_2).f1) ((rd_T35 l0_6 x3_2).f2)) else (billetref16_Right.j2 k2 x3_2 (decide (((rd_T35 l0_6 x3_2).f2) > 1000)) a0_0 a0_1 a0_2 a0_3 a0_4 a0_5 l0_6 ((rd_T35 l0_6 x3_2).f0) ((rd_T35 l0_6 x3_2).f1) ((rd_T35 l0_6 x3_2).f2))) = some r := by rw [if_pos rfl] at H; exact H
           clear H
           have H := H1
           clear H1
           by_cases c61 : ((rd_T35 l0_6 x3_2).f2) < 1
           ·rw [if_pos c61] at H
            have c61b0 : decide (((rd_T35 l0_6 x3_2).f2) < 1) = true := decide_eq_true c61
            clear c61
            (first | rw [c61b0] | (simp only [i64_w, i32_w]; rw [c61b0]) | skip)
            have H' := Aside0.mk H
            clear H
            have hnb62 := NBB_A.out
            have hnc62 := NBA_B.out
            have hcz63_0 : w56.cell? ⟨gbB, 0, none⟩ = some (.string (⟨#[]⟩ : ByteArray)) := (blk_cell BKB.out 0).trans rfl
            have hcz63_1 : w56.cell? ⟨gbB, 1, none⟩ = some (.string (⟨#[]⟩ : ByteArray)) := (blk_cell BKB.out 1).trans rfl
            have hcz63_2 : w56.cell? ⟨gbB, 2, none⟩ = some (.int .i64 0) := (blk_cell BKB.out 2).trans rfl
            have hfz63_0 := blk_frozen BKB.out 0
            have hfz63_1 := blk_frozen BKB.out 1
            have hfz63_2 := blk_frozen BKB.out 2
            go_wp2
            repeat (go_quiet (fail); try go_wp2)
            go_meet
            case rel => exact ⟨_, (true), (by first | rfl | (simp; done) | (simp [*]; done)), H', ⟨by have := HJ1.out; have := HK2.out; first | omega | exact Nat.le_refl _⟩, ⟨by (with_reducible repeat (first | refine blk_drewN ?_ _ | refine blk_drew ?_ | refine blk_alloc ?_ _)); refine blk_far ?_ NBA_B.out _; (with_reducible repeat (first | refine blk_drewN ?_ _ | refine blk_drew ?_ | refine blk_alloc ?_ _)); refine blk_far ?_ NBA_B.out _; (with_reducible repeat (first | refine blk_drewN ?_ _ | refine blk_drew ?_ | refine blk_alloc ?_ _)); refine blk_far ?_ NBA_B.out _; (with_reducible repeat (first | refine blk_drewN ?_ _ | refine blk_drew ?_ | refine blk_alloc ?_ _)); exact BKA.out⟩, ⟨by (with_reducible repeat (first | refine blk_drewN ?_ _ | refine blk_drew ?_ | refine blk_alloc ?_ _)); refine blk_put (cs := #[.string ((rd_T35 l0_6 x3_2).f0), .string ((rd_T35 l0_6 x3_2).f1), .int .i64 0]) ?_ 2 _ rfl; (with_reducible repeat (first | refine blk_drewN ?_ _ | refine blk_drew ?_ | refine blk_alloc ?_ _)); refine blk_put (cs := #[.string ((rd_T35 l0_6 x3_2).f0), .string (⟨#[]⟩ : ByteArray), .int .i64 0]) ?_ 1 _ rfl; (with_reducible repeat (first | refine blk_drewN ?_ _ | refine blk_drew ?_ | refine blk_alloc ?_ _)); refine blk_put (cs := #[.string (⟨#[]⟩ : ByteArray), .string (⟨#[]⟩ : ByteArray), .int .i64 0]) ?_ 0 _ rfl; (with_reducible repeat (first | refine blk_drewN ?_ _ | refine blk_drew ?_ | refine blk_alloc ?_ _)); exact BKB.out⟩, ⟨by repeat (first | (with_reducible first | exact HB.out | apply below_alloc | apply pw_below_drewN | apply below_drew1 | refine below_set ?_ GEA.out | refine below_set ?_ GEB.out) | exact HB.out)⟩⟩
           ·rw [if_neg c61] at H
            have c61b0 : decide (((rd_T35 l0_6 x3_2).f2) < 1) = false := decide_eq_false c61
            clear c61
            (first | rw [c61b0] | (simp only [i64_w, i32_w]; rw [c61b0]) | skip)
            have H' := Aside0.mk H
            clear H
            have hnb64 := NBB_A.out
            have hnc64 := NBA_B.out
            have hcz65_0 : w56.cell? ⟨gbB, 0, none⟩ = some (.string (⟨#[]⟩ : ByteArray)) := (blk_cell BKB.out 0).trans rfl
            have hcz65_1 : w56.cell? ⟨gbB, 1, none⟩ = some (.string (⟨#[]⟩ : ByteArray)) := (blk_cell BKB.out 1).trans rfl
            have hcz65_2 : w56.cell? ⟨gbB, 2, none⟩ = some (.int .i64 0) := (blk_cell BKB.out 2).trans rfl
            have hfz65_0 := blk_frozen BKB.out 0
            have hfz65_1 := blk_frozen BKB.out 1
            have hfz65_2 := blk_frozen BKB.out 2
            go_wp2
            repeat (go_quiet (fail); try go_wp2)
            go_meet
            case rel => exact ⟨_, (decide (((rd_T35 l0_6 x3_2).f2) > 1000)), (by first | rfl | (simp; done) | (simp [*]; done)), H', ⟨by have := HJ1.out; have := HK2.out; first | omega | exact Nat.le_refl _⟩, ⟨by (with_reducible repeat (first | refine blk_drewN ?_ _ | refine blk_drew ?_ | refine blk_alloc ?_ _)); refine blk_far ?_ NBA_B.out _; (with_reducible repeat (first | refine blk_drewN ?_ _ | refine blk_drew ?_ | refine blk_alloc ?_ _)); refine blk_far ?_ NBA_B.out _; (with_reducible repeat (first | refine blk_drewN ?_ _ | refine blk_drew ?_ | refine blk_alloc ?_ _)); refine blk_far ?_ NBA_B.out _; (with_reducible repeat (first | refine blk_drewN ?_ _ | refine blk_drew ?_ | refine blk_alloc ?_ _)); exact BKA.out⟩, ⟨by (with_reducible repeat (first | refine blk_drewN ?_ _ | refine blk_drew ?_ | refine blk_alloc ?_ _)); refine blk_put (cs := #[.string ((rd_T35 l0_6 x3_2).f0), .string ((rd_T35 l0_6 x3_2).f1), .int .i64 0]) ?_ 2 _ rfl; (with_reducible repeat (first | refine blk_drewN ?_ _ | refine blk_drew ?_ | refine blk_alloc ?_ _)); refine blk_put (cs := #[.string ((rd_T35 l0_6 x3_2).f0), .string (⟨#[]⟩ : ByteArray), .int .i64 0]) ?_ 1 _ rfl; (with_reducible repeat (first | refine blk_drewN ?_ _ | refine blk_drew ?_ | refine blk_alloc ?_ _)); refine blk_put (cs := #[.string (⟨#[]⟩ : ByteArray), .string (⟨#[]⟩ : ByteArray), .int .i64 0]) ?_ 0 _ rfl; (with_reducible repeat (first | refine blk_drewN ?_ _ | refine blk_drew ?_ | refine blk_alloc ?_ _)); exact BKB.out⟩, ⟨by repeat (first | (with_reducible first | exact HB.out | apply below_alloc | apply pw_below_drewN | apply below_drew1 | refine below_set ?_ GEA.out | refine below_set ?_ GEB.out) | exact HB.out)⟩⟩
          ·replace c60 := Bool.eq_false_iff.mpr c60
           subst c60
           have H1 : (billetref16_Right.j2 k2 x3_2 true a0_0 a0_1 a0_2 a0_3 a0_4 a0_5 l0_6 ((rd_T35 l0_6 x3_2).f0) ((rd_T35 l0_6 x3_2).f1) ((rd_T35 l0_6 x3_2).f2)) = some r := by rw [if_neg (show ¬ (false = true) by decide)] at H; exact H
           clear H
           have H := H1
           clear H1
           have H' := Aside0.mk H
           clear H
           go_wp2
           repeat (go_quiet (fail); try go_wp2)
           go_meet
           case rel => exact ⟨_, (true), (by first | rfl | (simp; done) | (simp [*]; done)), H', ⟨by have := HJ1.out; have := HK2.out; first | omega | exact Nat.le_refl _⟩, ⟨by (with_reducible repeat (first | refine blk_drewN ?_ _ | refine blk_drew ?_ | refine blk_alloc ?_ _)); refine blk_far ?_ NBA_B.out _; (with_reducible repeat (first | refine blk_drewN ?_ _ | refine blk_drew ?_ | refine blk_alloc ?_ _)); refine blk_far ?_ NBA_B.out _; (with_reducible repeat (first | refine blk_drewN ?_ _ | refine blk_drew ?_ | refine blk_alloc ?_ _)); refine blk_far ?_ NBA_B.out _; (with_reducible repeat (first | refine blk_drewN ?_ _ | refine blk_drew ?_ | refine blk_alloc ?_ _)); exact BKA.out⟩, ⟨by (with_reducible repeat (first | refine blk_drewN ?_ _ | refine blk_drew ?_ | refine blk_alloc ?_ _)); refine blk_put (cs := #[.string ((rd_T35 l0_6 x3_2).f0), .string ((rd_T35 l0_6 x3_2).f1), .int .i64 0]) ?_ 2 _ rfl; (with_reducible repeat (first | refine blk_drewN ?_ _ | refine blk_drew ?_ | refine blk_alloc ?_ _)); refine blk_put (cs := #[.string ((rd_T35 l0_6 x3_2).f0), .string (⟨#[]⟩ : ByteArray), .int .i64 0]) ?_ 1 _ rfl; (with_reducible repeat (first | refine blk_drewN ?_ _ | refine blk_drew ?_ | refine blk_alloc ?_ _)); refine blk_put (cs := #[.string (⟨#[]⟩ : ByteArray), .string (⟨#[]⟩ : ByteArray), .int .i64 0]) ?_ 0 _ rfl; (with_reducible repeat (first | refine blk_drewN ?_ _ | refine blk_drew ?_ | refine blk_alloc ?_ _)); exact BKB.out⟩, ⟨by repeat (first | (with_reducible first | exact HB.out | apply below_alloc | apply pw_below_drewN | apply below_drew1 | refine below_set ?_ GEA.out | refine below_set ?_ GEB.out) | exact HB.out)⟩⟩
         ·replace c59 := Bool.eq_false_iff.mpr c59
          subst c59
          have H1 : (billetref16_Right.j2 k2 x3_2 true a0_0 a0_1 a0_2 a0_3 a0_4 a0_5 l0_6 ((rd_T35 l0_6 x3_2).f0) ((rd_T35 l0_6 x3_2).f1) ((rd_T35 l0_6 x3_2).f2)) = some r := by rw [if_neg (show ¬ (false = true) by decide)] at H; exact H
          clear H
          have H := H1
          clear H1
          have H' := Aside0.mk H
          clear H
          go_wp2
          repeat (go_quiet (fail); try go_wp2)
          go_meet
          case rel => exact ⟨_, (true), (by first | rfl | (simp; done) | (simp [*]; done)), H', ⟨by have := HJ1.out; have := HK2.out; first | omega | exact Nat.le_refl _⟩, ⟨by (with_reducible repeat (first | refine blk_drewN ?_ _ | refine blk_drew ?_ | refine blk_alloc ?_ _)); refine blk_far ?_ NBA_B.out _; (with_reducible repeat (first | refine blk_drewN ?_ _ | refine blk_drew ?_ | refine blk_alloc ?_ _)); refine blk_far ?_ NBA_B.out _; (with_reducible repeat (first | refine blk_drewN ?_ _ | refine blk_drew ?_ | refine blk_alloc ?_ _)); refine blk_far ?_ NBA_B.out _; (with_reducible repeat (first | refine blk_drewN ?_ _ | refine blk_drew ?_ | refine blk_alloc ?_ _)); exact BKA.out⟩, ⟨by (with_reducible repeat (first | refine blk_drewN ?_ _ | refine blk_drew ?_ | refine blk_alloc ?_ _)); refine blk_put (cs := #[.string ((rd_T35 l0_6 x3_2).f0), .string ((rd_T35 l0_6 x3_2).f1), .int .i64 0]) ?_ 2 _ rfl; (with_reducible repeat (first | refine blk_drewN ?_ _ | refine blk_drew ?_ | refine blk_alloc ?_ _)); refine blk_put (cs := #[.string ((rd_T35 l0_6 x3_2).f0), .string (⟨#[]⟩ : ByteArray), .int .i64 0]) ?_ 1 _ rfl; (with_reducible repeat (first | refine blk_drewN ?_ _ | refine blk_drew ?_ | refine blk_alloc ?_ _)); refine blk_put (cs := #[.string (⟨#[]⟩ : ByteArray), .string (⟨#[]⟩ : ByteArray), .int .i64 0]) ?_ 0 _ rfl; (with_reducible repeat (first | refine blk_drewN ?_ _ | refine blk_drew ?_ | refine blk_alloc ?_ _)); exact BKB.out⟩, ⟨by repeat (first | (with_reducible first | exact HB.out | apply below_alloc | apply pw_below_drewN | apply below_drew1 | refine below_set ?_ GEA.out | refine below_set ?_ GEB.out) | exact HB.out)⟩⟩
        case rest =>
         clear HC54
         try clear c1
         try clear p1
         try clear q1
         try clear hx1
         try clear c2
         try clear p2
         try clear c3
         try clear c4
         try clear c4b0
         try clear c4b1
         try clear c5
         try clear c5b0
         try clear c6
         try clear c7
         try clear c7b0
         try clear c9
         try clear c9b0
         try clear c11
         try clear c11b0
         try clear c13
         try clear c13b0
         try clear p13
         try clear q13
         try clear hx13
         try clear c15
         try clear c15b0
         try clear c17
         try clear c17b0
         try clear c19
         try clear c19b0
         try clear c21
         try clear c21b0
         try clear c23
         try clear c23b0
         try clear c26
         try clear c26b0
         try clear c26b1
         try clear c27
         try clear c27b0
         try clear c29
         try clear c29b0
         try clear c31
         try clear c31b0
         try clear c33
         try clear c33b0
         try clear c35
         try clear c35b0
         try clear c37
         try clear c37b0
         try clear c39
         try clear c39b0
         try clear c41
         try clear c41b0
         try clear c43
         try clear c43b0
         try clear c45
         try clear c45b0
         try clear c49
         try clear c50
         try clear c50b0
         try clear c51
         try clear c51b0
         try clear c57
         try clear c59
         try clear c60
         try clear c61
         try clear c61b0
         try clear c62
         try clear c64
         try clear hcz10_0
         try clear hcz10_1
         try clear hcz10_2
         try clear hcz10_3
         try clear hcz10_4
         try clear hcz10_5
         try clear hcz10_6
         try clear hcz12_0
         try clear hcz12_1
         try clear hcz12_2
         try clear hcz12_3
         try clear hcz12_4
         try clear hcz12_5
         try clear hcz12_6
         try clear hcz14_0
         try clear hcz14_1
         try clear hcz14_2
         try clear hcz14_3
         try clear hcz14_4
         try clear hcz14_5
         try clear hcz14_6
         try clear hcz16_0
         try clear hcz16_1
         try clear hcz16_2
         try clear hcz16_3
         try clear hcz16_4
         try clear hcz16_5
         try clear hcz16_6
         try clear hcz18_0
         try clear hcz18_1
         try clear hcz18_2
         try clear hcz18_3
         try clear hcz18_4
         try clear hcz18_5
         try clear hcz18_6
         try clear hcz20_0
         try clear hcz20_1
         try clear hcz20_2
         try clear hcz20_3
         try clear hcz20_4
         try clear hcz20_5
         try clear hcz20_6
         try clear hcz22_0
         try clear hcz22_1
         try clear hcz22_2
         try clear hcz22_3
         try clear hcz22_4
         try clear hcz22_5
         try clear hcz22_6
         try clear hcz24_0
         try clear hcz24_1
         try clear hcz24_2
         try clear hcz24_3
         try clear hcz24_4
         try clear hcz24_5
         try clear hcz24_6
         try clear hcz25_0
         try clear hcz25_1
         try clear hcz25_2
         try clear hcz25_3
         try clear hcz25_4
         try clear hcz25_5
         try clear hcz25_6
         try clear hcz28_0
         try clear hcz28_1
         try clear hcz28_2
         try clear hcz28_3
         try clear hcz28_4
         try clear hcz28_5
         try clear hcz28_6
         try clear hcz30_0
         try clear hcz30_1
         try clear hcz30_2
         try clear hcz30_3
         try clear hcz30_4
         try clear hcz30_5
         try clear hcz30_6
         try clear hcz32_0
         try clear hcz32_1
         try clear hcz32_2
         try clear hcz32_3
         try clear hcz32_4
         try clear hcz32_5
         try clear hcz32_6
         try clear hcz34_0
         try clear hcz34_1
         try clear hcz34_2
         try clear hcz34_3
         try clear hcz34_4
         try clear hcz34_5
         try clear hcz34_6
         try clear hcz36_0
         try clear hcz36_1
         try clear hcz36_2
         try clear hcz36_3
         try clear hcz36_4
         try clear hcz36_5
         try clear hcz36_6
         try clear hcz38_0
         try clear hcz38_1
         try clear hcz38_2
         try clear hcz38_3
         try clear hcz38_4
         try clear hcz38_5
         try clear hcz38_6
         try clear hcz40_0
         try clear hcz40_1
         try clear hcz40_2
         try clear hcz40_3
         try clear hcz40_4
         try clear hcz40_5
         try clear hcz40_6
         try clear hcz42_0
         try clear hcz42_1
         try clear hcz42_2
         try clear hcz42_3
         try clear hcz42_4
         try clear hcz42_5
         try clear hcz42_6
         try clear hcz44_0
         try clear hcz44_1
         try clear hcz44_2
         try clear hcz44_3
         try clear hcz44_4
         try clear hcz44_5
         try clear hcz44_6
         try clear hcz46_0
         try clear hcz46_1
         try clear hcz46_2
         try clear hcz46_3
         try clear hcz46_4
         try clear hcz46_5
         try clear hcz46_6
         try clear hcz47_0
         try clear hcz47_1
         try clear hcz47_2
         try clear hcz47_3
         try clear hcz47_4
         try clear hcz47_5
         try clear hcz47_6
         try clear hcz48_0
         try clear hcz48_1
         try clear hcz48_2
         try clear hcz48_3
         try clear hcz48_4
         try clear hcz48_5
         try clear hcz48_6
         try clear hcz55_0
         try clear hcz55_1
         try clear hcz55_2
         try clear hcz55_3
         try clear hcz55_4
         try clear hcz55_5
         try clear hcz55_6
         try clear hcz58_0
         try clear hcz58_1
         try clear hcz58_2
         try clear hcz63_0
         try clear hcz63_1
         try clear hcz63_2
         try clear hcz65_0
         try clear hcz65_1
         try clear hcz65_2
         try clear hcz8_0
         try clear hcz8_1
         try clear hcz8_2
         try clear hcz8_3
         try clear hcz8_4
         try clear hcz8_5
         try clear hcz8_6
         try clear hfz10_0
         try clear hfz10_1
         try clear hfz10_2
         try clear hfz10_3
         try clear hfz10_4
         try clear hfz10_5
         try clear hfz10_6
         try clear hfz12_0
         try clear hfz12_1
         try clear hfz12_2
         try clear hfz12_3
         try clear hfz12_4
         try clear hfz12_5
         try clear hfz12_6
         try clear hfz14_0
         try clear hfz14_1
         try clear hfz14_2
         try clear hfz14_3
         try clear hfz14_4
         try clear hfz14_5
         try clear hfz14_6
         try clear hfz16_0
         try clear hfz16_1
         try clear hfz16_2
         try clear hfz16_3
         try clear hfz16_4
         try clear hfz16_5
         try clear hfz16_6
         try clear hfz18_0
         try clear hfz18_1
         try clear hfz18_2
         try clear hfz18_3
         try clear hfz18_4
         try clear hfz18_5
         try clear hfz18_6
         try clear hfz20_0
         try clear hfz20_1
         try clear hfz20_2
         try clear hfz20_3
         try clear hfz20_4
         try clear hfz20_5
         try clear hfz20_6
         try clear hfz22_0
         try clear hfz22_1
         try clear hfz22_2
         try clear hfz22_3
         try clear hfz22_4
         try clear hfz22_5
         try clear hfz22_6
         try clear hfz24_0
         try clear hfz24_1
         try clear hfz24_2
         try clear hfz24_3
         try clear hfz24_4
         try clear hfz24_5
         try clear hfz24_6
         try clear hfz25_0
         try clear hfz25_1
         try clear hfz25_2
         try clear hfz25_3
         try clear hfz25_4
         try clear hfz25_5
         try clear hfz25_6
         try clear hfz28_0
         try clear hfz28_1
         try clear hfz28_2
         try clear hfz28_3
         try clear hfz28_4
         try clear hfz28_5
         try clear hfz28_6
         try clear hfz30_0
         try clear hfz30_1
         try clear hfz30_2
         try clear hfz30_3
         try clear hfz30_4
         try clear hfz30_5
         try clear hfz30_6
         try clear hfz32_0
         try clear hfz32_1
         try clear hfz32_2
         try clear hfz32_3
         try clear hfz32_4
         try clear hfz32_5
         try clear hfz32_6
         try clear hfz34_0
         try clear hfz34_1
         try clear hfz34_2
         try clear hfz34_3
         try clear hfz34_4
         try clear hfz34_5
         try clear hfz34_6
         try clear hfz36_0
         try clear hfz36_1
         try clear hfz36_2
         try clear hfz36_3
         try clear hfz36_4
         try clear hfz36_5
         try clear hfz36_6
         try clear hfz38_0
         try clear hfz38_1
         try clear hfz38_2
         try clear hfz38_3
         try clear hfz38_4
         try clear hfz38_5
         try clear hfz38_6
         try clear hfz40_0
         try clear hfz40_1
         try clear hfz40_2
         try clear hfz40_3
         try clear hfz40_4
         try clear hfz40_5
         try clear hfz40_6
         try clear hfz42_0
         try clear hfz42_1
         try clear hfz42_2
         try clear hfz42_3
         try clear hfz42_4
         try clear hfz42_5
         try clear hfz42_6
         try clear hfz44_0
         try clear hfz44_1
         try clear hfz44_2
         try clear hfz44_3
         try clear hfz44_4
         try clear hfz44_5
         try clear hfz44_6
         try clear hfz46_0
         try clear hfz46_1
         try clear hfz46_2
         try clear hfz46_3
         try clear hfz46_4
         try clear hfz46_5
         try clear hfz46_6
         try clear hfz47_0
         try clear hfz47_1
         try clear hfz47_2
         try clear hfz47_3
         try clear hfz47_4
         try clear hfz47_5
         try clear hfz47_6
         try clear hfz48_0
         try clear hfz48_1
         try clear hfz48_2
         try clear hfz48_3
         try clear hfz48_4
         try clear hfz48_5
         try clear hfz48_6
         try clear hfz55_0
         try clear hfz55_1
         try clear hfz55_2
         try clear hfz55_3
         try clear hfz55_4
         try clear hfz55_5
         try clear hfz55_6
         try clear hfz58_0
         try clear hfz58_1
         try clear hfz58_2
         try clear hfz63_0
         try clear hfz63_1
         try clear hfz63_2
         try clear hfz65_0
         try clear hfz65_1
         try clear hfz65_2
         try clear hfz6_1
         try clear hfz6_2
         try clear hfz6_3
         try clear hfz6_4
         try clear hfz6_5
         try clear hfz6_6
         try clear hfz8_0
         try clear hfz8_1
         try clear hfz8_2
         try clear hfz8_3
         try clear hfz8_4
         try clear hfz8_5
         try clear hfz8_6
         try clear hxF_0
         try clear hxF_1
         try clear hxF_2
         try clear pF
         try clear p2
         try clear qF
         obtain ⟨kq, xP_53, rfl, HA, HJ53, BKA, BKB, HB⟩ := hcut
         cases kq with
         | zero => exact absurd HA.out (by simp [billetref16_Right.j2])
         | succ kj53 =>
          have H := HA.out
          clear HA
          simp only [billetref16_Right.j2] at H
          by_cases c66 : xP_53 = true
          ·subst c66
           have H1 : (some false) = some r := by rw [if_pos rfl] at H; exact H
           clear H
           have H := H1
           clear H1
           obtain rfl := Option.some.inj H
           go_wp2
           repeat (go_quiet (fail); try go_wp2)
           go_ret
           exact ⟨by first | rfl | (simp [errW_none, errW_some] <;> rfl) | (simp [*, errW_none, errW_some] <;> rfl), by repeat (first | (with_reducible first | exact HB.out | apply below_alloc | apply pw_below_drewN | apply below_drew1 | refine below_set ?_ GEA.out | refine below_set ?_ GEB.out) | exact HB.out)⟩
          ·replace c66 := Bool.eq_false_iff.mpr c66
           subst c66
           have H1 : (if x3_2 > 0 then (if 0 ≤ (wrap64 (x3_2 - 1)) then (if (wrap64 (x3_2 - 1)) < (l0_6.length : Int) then (if (Op.bytesLess ((rd_T35 l0_6 x3_2).f0).toList (((rd_T35 l0_6 (wrap64 (x3_2 - 1))).f0).toList)) = true then (some false) else (if ((rd_T35 l0_6 (wrap64 (x3_2 - 1))).f0).toList = ((rd_T35 l0_6 x3_2).f0).toList then (if ((Op.bytesLess (((rd_T35 l0_6 (wrap64 (x3_2 - 1))).f1).toList) ((rd_T35 l0_6 x3_2).f1).toList) = true) then (billetref16_Right.l0 kj53 (wrap64 (x3_2 + 1)) a0_0 a0_1 a0_2 a0_3 a0_4 a0_5 l0_6) else (some false)) else (billetref16_Right.l0 kj53 (wrap64 (x3_2 + 1)) a0_0 a0_1 a0_2 a0_3 a0_4 a0_5 l0_6))) else (none)) else (none)) else (billetref16_Right.l0 kj53 (wrap64 (x3_2 + 1)) a0_0 a0_1 a0_2 a0_3 a0_4 a0_5 l0_6)) = some r := by rw [if_neg (show ¬ (false = true) by decide)] at H; exact H
           clear H
           have H := H1
           clear H1
           by_cases c67 : x3_2 > 0
           ·rw [if_pos c67] at H
            have c67b0 : decide (0 < x3_2) = true := decide_eq_true c67
            clear c67
            obtain ⟨ji68, hji68⟩ : ∃ j_ : Int, (wrap64 (x3_2 - 1)) = j_ := ⟨_, rfl⟩
            replace H : (if 0 ≤ (ji68) then (if (ji68) < (l0_6.length : Int) then (if (Op.bytesLess ((rd_T35 l0_6 x3_2).f0).toList (((rd_T35 l0_6 (ji68)).f0).toList)) = true then (some false) else (if ((rd_T35 l0_6 (ji68)).f0).toList = ((rd_T35 l0_6 x3_2).f0).toList then (if ((Op.bytesLess (((rd_T35 l0_6 (ji68)).f1).toList) ((rd_T35 l0_6 x3_2).f1).toList) = true) then (billetref16_Right.l0 kj53 (wrap64 (x3_2 + 1)) a0_0 a0_1 a0_2 a0_3 a0_4 a0_5 l0_6) else (some false)) else (billetref16_Right.l0 kj53 (wrap64 (x3_2 + 1)) a0_0 a0_1 a0_2 a0_3 a0_4 a0_5 l0_6))) else (none)) else (none)) = some r := by first | (rw [hji68] at H; exact H) | (simp only [hji68] at H ⊢; exact H)
            have hji68w : (IntKind.i64.wrap (x3_2 - 1)) = ji68 := (i64_w _).trans hji68
            by_cases c69 : 0 ≤ (ji68)
            ·rw [if_pos c69] at H
             have c69b0 : decide (0 ≤ (ji68)) = true := decide_eq_true c69
             clear c69
             by_cases c70 : (ji68) < (l0_6.length : Int)
             ·rw [if_pos c70] at H
              have c70b0 : decide ((ji68) < (l0_6.length : Int)) = true := decide_eq_true c70
              clear c70
              by_cases c71 : (Op.bytesLess ((rd_T35 l0_6 x3_2).f0).toList (((rd_T35 l0_6 (ji68)).f0).toList)) = true
              ·rw [if_pos c71] at H
               have c71b0 : (Op.bytesLess ((rd_T35 l0_6 x3_2).f0).toList (((rd_T35 l0_6 (ji68)).f0).toList)) = true := c71
               clear c71
               obtain rfl := Option.some.inj H
               have hnb72 := NBA_B.out
               have hnc72 := NBB_A.out
               have hcz73_0 : wc.cell? ⟨gbA, 0, none⟩ = some (.int .i64 a0_0) := (blk_cell BKA.out 0).trans rfl
               have hcz73_1 : wc.cell? ⟨gbA, 1, none⟩ = some (.int .i64 a0_1) := (blk_cell BKA.out 1).trans rfl
               have hcz73_2 : wc.cell? ⟨gbA, 2, none⟩ = some (.int .i64 a0_2) := (blk_cell BKA.out 2).trans rfl
               have hcz73_3 : wc.cell? ⟨gbA, 3, none⟩ = some (.int .i64 a0_3) := (blk_cell BKA.out 3).trans rfl
               have hcz73_4 : wc.cell? ⟨gbA, 4, none⟩ = some (.int .i64 a0_4) := (blk_cell BKA.out 4).trans rfl
               have hcz73_5 : wc.cell? ⟨gbA, 5, none⟩ = some (.int .i64 a0_5) := (blk_cell BKA.out 5).trans rfl
               have hcz73_6 : wc.cell? ⟨gbA, 6, none⟩ = some (.slice (some adF) l0_6.length c0_6) := (blk_cell BKA.out 6).trans rfl
               have hfz73_0 := blk_frozen BKA.out 0
               have hfz73_1 := blk_frozen BKA.out 1
               have hfz73_2 := blk_frozen BKA.out 2
               have hfz73_3 := blk_frozen BKA.out 3
               have hfz73_4 := blk_frozen BKA.out 4
               have hfz73_5 := blk_frozen BKA.out 5
               have hfz73_6 := blk_frozen BKA.out 6
               have pC : 0 ≤ ((ji68) : Int) := of_decide_eq_true (by first | (with_reducible assumption) | assumption)
               have qC : (ji68) < (l0_6.length : Int) := of_decide_eq_true (by first | (with_reducible assumption) | assumption)
               obtain ⟨adC, eC, hxC_0, hxC_1, hxC_2⟩ := at_T35 HR0_6.out (ji68) pC qC
               obtain rfl : adF = adC := (by injection eC)
               replace hxC_0 := (HB.out.cell (World.block_lt_of_cell? w _ hxC_0)).trans hxC_0
               replace hxC_1 := (HB.out.cell (World.block_lt_of_cell? w _ hxC_1)).trans hxC_1
               replace hxC_2 := (HB.out.cell (World.block_lt_of_cell? w _ hxC_2)).trans hxC_2
               replace pC := eq_true pC
               (try replace pCz := eq_true pCz)
               replace qC := eq_true qC
               (try replace qCz := eq_true qCz)
               have hcz74_0 : wc.cell? ⟨gbB, 0, none⟩ = some (.string ((rd_T35 l0_6 x3_2).f0)) := (blk_cell BKB.out 0).trans rfl
               have hcz74_1 : wc.cell? ⟨gbB, 1, none⟩ = some (.string ((rd_T35 l0_6 x3_2).f1)) := (blk_cell BKB.out 1).trans rfl
               have hcz74_2 : wc.cell? ⟨gbB, 2, none⟩ = some (.int .i64 ((rd_T35 l0_6 x3_2).f2)) := (blk_cell BKB.out 2).trans rfl
               have hfz74_0 := blk_frozen BKB.out 0
               have hfz74_1 := blk_frozen BKB.out 1
               have hfz74_2 := blk_frozen BKB.out 2
               go_wp2
               repeat (go_quiet (fail); try go_wp2)
               go_ret
               exact ⟨by first | rfl | (simp [errW_none, errW_some] <;> rfl) | (simp only [← hji68]; first | rfl | (simp [errW_none, errW_some] <;> rfl)) | (simp [*, errW_none, errW_some] <;> rfl), by repeat (first | (with_reducible first | exact HB.out | apply below_alloc | apply pw_below_drewN | apply below_drew1 | refine below_set ?_ GEA.out | refine below_set ?_ GEB.out) | exact HB.out)⟩
              ·rw [if_neg c71] at H
               have c71b0 : (Op.bytesLess ((rd_T35 l0_6 x3_2).f0).toList (((rd_T35 l0_6 (ji68)).f0).toList)) = false := by simpa using c71
               clear c71
               by_cases c75 : ((rd_T35 l0_6 (ji68)).f0).toList = ((rd_T35 l0_6 x3_2).f0).toList
               ·rw [if_pos c75] at H
                have c75b0 : (((rd_T35 l0_6 (ji68)).f0).toList == ((rd_T35 l0_6 x3_2).f0).toList) = true := beq_iff_eq.mpr c75
                have c75b1 : (((rd_T35 l0_6 (ji68)).f0).toList != ((rd_T35 l0_6 x3_2).f0).toList) = false := bne_eq_false_iff_eq.mpr c75
                clear c75
                by_cases c76 : ((Op.bytesLess (((rd_T35 l0_6 (ji68)).f1).toList) ((rd_T35 l0_6 x3_2).f1).toList) = true)
                ·rw [if_pos c76] at H
                 have c76b0 : (Op.bytesLess (((rd_T35 l0_6 (ji68)).f1).toList) ((rd_T35 l0_6 x3_2).f1).toList) = true := c76
                 clear c76
                 have H' := Aside0.mk H
                 clear H
                 have hnb77 := NBA_B.out
                 have hnc77 := NBB_A.out
                 have hcz78_0 : wc.cell? ⟨gbA, 0, none⟩ = some (.int .i64 a0_0) := (blk_cell BKA.out 0).trans rfl
                 have hcz78_1 : wc.cell? ⟨gbA, 1, none⟩ = some (.int .i64 a0_1) := (blk_cell BKA.out 1).trans rfl
                 have hcz78_2 : wc.cell? ⟨gbA, 2, none⟩ = some (.int .i64 a0_2) := (blk_cell BKA.out 2).trans rfl
                 have hcz78_3 : wc.cell? ⟨gbA, 3, none⟩ = some (.int .i64 a0_3) := (blk_cell BKA.out 3).trans rfl
                 have hcz78_4 : wc.cell? ⟨gbA, 4, none⟩ = some (.int .i64 a0_4) := (blk_cell BKA.out 4).trans rfl
                 have hcz78_5 : wc.cell? ⟨gbA, 5, none⟩ = some (.int .i64 a0_5) := (blk_cell BKA.out 5).trans rfl
                 have hcz78_6 : wc.cell? ⟨gbA, 6, none⟩ = some (.slice (some adF) l0_6.length c0_6) := (blk_cell BKA.out 6).trans rfl
                 have hfz78_0 := blk_frozen BKA.out 0
                 have hfz78_1 := blk_frozen BKA.out 1
                 have hfz78_2 := blk_frozen BKA.out 2
                 have hfz78_3 := blk_frozen BKA.out 3
                 have hfz78_4 := blk_frozen BKA.out 4
                 have hfz78_5 := blk_frozen BKA.out 5
                 have hfz78_6 := blk_frozen BKA.out 6
                 have pC : 0 ≤ ((ji68) : Int) := of_decide_eq_true (by first | (with_reducible assumption) | assumption)
                 have qC : (ji68) < (l0_6.length : Int) := of_decide_eq_true (by first | (with_reducible assumption) | assumption)
                 obtain ⟨adC, eC, hxC_0, hxC_1, hxC_2⟩ := at_T35 HR0_6.out (ji68) pC qC
                 obtain rfl : adF = adC := (by injection eC)
                 replace hxC_0 := (HB.out.cell (World.block_lt_of_cell? w _ hxC_0)).trans hxC_0
                 replace hxC_1 := (HB.out.cell (World.block_lt_of_cell? w _ hxC_1)).trans hxC_1
                 replace hxC_2 := (HB.out.cell (World.block_lt_of_cell? w _ hxC_2)).trans hxC_2
                 replace pC := eq_true pC
                 (try replace pCz := eq_true pCz)
                 replace qC := eq_true qC
                 (try replace qCz := eq_true qCz)
                 have hcz79_0 : wc.cell? ⟨gbB, 0, none⟩ = some (.string ((rd_T35 l0_6 x3_2).f0)) := (blk_cell BKB.out 0).trans rfl
                 have hcz79_1 : wc.cell? ⟨gbB, 1, none⟩ = some (.string ((rd_T35 l0_6 x3_2).f1)) := (blk_cell BKB.out 1).trans rfl
                 have hcz79_2 : wc.cell? ⟨gbB, 2, none⟩ = some (.int .i64 ((rd_T35 l0_6 x3_2).f2)) := (blk_cell BKB.out 2).trans rfl
                 have hfz79_0 := blk_frozen BKB.out 0
                 have hfz79_1 := blk_frozen BKB.out 1
                 have hfz79_2 := blk_frozen BKB.out 2
                 have pD : 0 ≤ ((ji68) : Int) := of_decide_eq_true (by first | (with_reducible assumption) | assumption)
                 have qD : (ji68) < (l0_6.length : Int) := of_decide_eq_true (by first | (with_reducible assumption) | assumption)
                 obtain ⟨adD, eD, hxD_0, hxD_1, hxD_2⟩ := at_T35 HR0_6.out (ji68) pD qD
                 obtain rfl : adF = adD := (by injection eD)
                 replace hxD_0 := (HB.out.cell (World.block_lt_of_cell? w _ hxD_0)).trans hxD_0
                 replace hxD_1 := (HB.out.cell (World.block_lt_of_cell? w _ hxD_1)).trans hxD_1
                 replace hxD_2 := (HB.out.cell (World.block_lt_of_cell? w _ hxD_2)).trans hxD_2
                 replace pD := eq_true pD
                 (try replace pDz := eq_true pDz)
                 replace qD := eq_true qD
                 (try replace qDz := eq_true qDz)
                 have pE : 0 ≤ ((ji68) : Int) := of_decide_eq_true (by first | (with_reducible assumption) | assumption)
                 have qE : (ji68) < (l0_6.length : Int) := of_decide_eq_true (by first | (with_reducible assumption) | assumption)
                 obtain ⟨adE, eE, hxE_0, hxE_1, hxE_2⟩ := at_T35 HR0_6.out (ji68) pE qE
                 obtain rfl : adF = adE := (by injection eE)
                 replace hxE_0 := (HB.out.cell (World.block_lt_of_cell? w _ hxE_0)).trans hxE_0
                 replace hxE_1 := (HB.out.cell (World.block_lt_of_cell? w _ hxE_1)).trans hxE_1
                 replace hxE_2 := (HB.out.cell (World.block_lt_of_cell? w _ hxE_2)).trans hxE_2
                 replace pE := eq_true pE
                 (try replace pEz := eq_true pEz)
                 replace qE := eq_true qE
                 (try replace qEz := eq_true qEz)
                 go_wp2
                 repeat (go_quiet (fail); try go_wp2)
                 go_roundg kj53
                 case measure => have := HJ1.out; have := HK2.out; have := HJ53.out; omega
                 case rel => exact ⟨(wrap64 (x3_2 + 1)), (by first | rfl | (simp; done) | (simp [*]; done)), H', ⟨by have := HJ1.out; have := HK2.out; have := HJ53.out; omega⟩, ⟨by (with_reducible repeat (first | refine blk_drewN ?_ _ | refine blk_drew ?_ | refine blk_alloc ?_ _)); exact BKA.out⟩, ⟨by repeat (first | (with_reducible first | exact HB.out | apply below_alloc | apply pw_below_drewN | apply below_drew1 | refine below_set ?_ GEA.out | refine below_set ?_ GEB.out) | exact HB.out)⟩⟩
                ·rw [if_neg c76] at H
                 have c76b0 : (Op.bytesLess (((rd_T35 l0_6 (ji68)).f1).toList) ((rd_T35 l0_6 x3_2).f1).toList) = false := by simpa using c76
                 clear c76
                 obtain rfl := Option.some.inj H
                 have hnb80 := NBA_B.out
                 have hnc80 := NBB_A.out
                 have hcz81_0 : wc.cell? ⟨gbA, 0, none⟩ = some (.int .i64 a0_0) := (blk_cell BKA.out 0).trans rfl
                 have hcz81_1 : wc.cell? ⟨gbA, 1, none⟩ = some (.int .i64 a0_1) := (blk_cell BKA.out 1).trans rfl
                 have hcz81_2 : wc.cell? ⟨gbA, 2, none⟩ = some (.int .i64 a0_2) := (blk_cell BKA.out 2).trans rfl
                 have hcz81_3 : wc.cell? ⟨gbA, 3, none⟩ = some (.int .i64 a0_3) := (blk_cell BKA.out 3).trans rfl
                 have hcz81_4 : wc.cell? ⟨gbA, 4, none⟩ = some (.int .i64 a0_4) := (blk_cell BKA.out 4).trans rfl
                 have hcz81_5 : wc.cell? ⟨gbA, 5, none⟩ = some (.int .i64 a0_5) := (blk_cell BKA.out 5).trans rfl
                 have hcz81_6 : wc.cell? ⟨gbA, 6, none⟩ = some (.slice (some adF) l0_6.length c0_6) := (blk_cell BKA.out 6).trans rfl
                 have hfz81_0 := blk_frozen BKA.out 0
                 have hfz81_1 := blk_frozen BKA.out 1
                 have hfz81_2 := blk_frozen BKA.out 2
                 have hfz81_3 := blk_frozen BKA.out 3
                 have hfz81_4 := blk_frozen BKA.out 4
                 have hfz81_5 := blk_frozen BKA.out 5
                 have hfz81_6 := blk_frozen BKA.out 6
                 have pC : 0 ≤ ((ji68) : Int) := of_decide_eq_true (by first | (with_reducible assumption) | assumption)
                 have qC : (ji68) < (l0_6.length : Int) := of_decide_eq_true (by first | (with_reducible assumption) | assumption)
                 obtain ⟨adC, eC, hxC_0, hxC_1, hxC_2⟩ := at_T35 HR0_6.out (ji68) pC qC
                 obtain rfl : adF = adC := (by injection eC)
                 replace hxC_0 := (HB.out.cell (World.block_lt_of_cell? w _ hxC_0)).trans hxC_0
                 replace hxC_1 := (HB.out.cell (World.block_lt_of_cell? w _ hxC_1)).trans hxC_1
                 replace hxC_2 := (HB.out.cell (World.block_lt_of_cell? w _ hxC_2)).trans hxC_2
                 replace pC := eq_true pC
                 (try replace pCz := eq_true pCz)
                 replace qC := eq_true qC
                 (try replace qCz := eq_true qCz)
                 have hcz82_0 : wc.cell? ⟨gbB, 0, none⟩ = some (.string ((rd_T35 l0_6 x3_2).f0)) := (blk_cell BKB.out 0).trans rfl
                 have hcz82_1 : wc.cell? ⟨gbB, 1, none⟩ = some (.string ((rd_T35 l0_6 x3_2).f1)) := (blk_cell BKB.out 1).trans rfl
                 have hcz82_2 : wc.cell? ⟨gbB, 2, none⟩ = some (.int .i64 ((rd_T35 l0_6 x3_2).f2)) := (blk_cell BKB.out 2).trans rfl
                 have hfz82_0 := blk_frozen BKB.out 0
                 have hfz82_1 := blk_frozen BKB.out 1
                 have hfz82_2 := blk_frozen BKB.out 2
                 have pD : 0 ≤ ((ji68) : Int) := of_decide_eq_true (by first | (with_reducible assumption) | assumption)
                 have qD : (ji68) < (l0_6.length : Int) := of_decide_eq_true (by first | (with_reducible assumption) | assumption)
                 obtain ⟨adD, eD, hxD_0, hxD_1, hxD_2⟩ := at_T35 HR0_6.out (ji68) pD qD
                 obtain rfl : adF = adD := (by injection eD)
                 replace hxD_0 := (HB.out.cell (World.block_lt_of_cell? w _ hxD_0)).trans hxD_0
                 replace hxD_1 := (HB.out.cell (World.block_lt_of_cell? w _ hxD_1)).trans hxD_1
                 replace hxD_2 := (HB.out.cell (World.block_lt_of_cell? w _ hxD_2)).trans hxD_2
                 replace pD := eq_true pD
                 (try replace pDz := eq_true pDz)
                 replace qD := eq_true qD
                 (try replace qDz := eq_true qDz)
                 have pE : 0 ≤ ((ji68) : Int) := of_decide_eq_true (by first | (with_reducible assumption) | assumption)
                 have qE : (ji68) < (l0_6.length : Int) := of_decide_eq_true (by first | (with_reducible assumption) | assumption)
                 obtain ⟨adE, eE, hxE_0, hxE_1, hxE_2⟩ := at_T35 HR0_6.out (ji68) pE qE
                 obtain rfl : adF = adE := (by injection eE)
                 replace hxE_0 := (HB.out.cell (World.block_lt_of_cell? w _ hxE_0)).trans hxE_0
                 replace hxE_1 := (HB.out.cell (World.block_lt_of_cell? w _ hxE_1)).trans hxE_1
                 replace hxE_2 := (HB.out.cell (World.block_lt_of_cell? w _ hxE_2)).trans hxE_2
                 replace pE := eq_true pE
                 (try replace pEz := eq_true pEz)
                 replace qE := eq_true qE
                 (try replace qEz := eq_true qEz)
                 go_wp2
                 repeat (go_quiet (fail); try go_wp2)
                 go_ret
                 exact ⟨by first | rfl | (simp [errW_none, errW_some] <;> rfl) | (simp only [← hji68]; first | rfl | (simp [errW_none, errW_some] <;> rfl)) | (simp [*, errW_none, errW_some] <;> rfl), by repeat (first | (with_reducible first | exact HB.out | apply below_alloc | apply pw_below_drewN | apply below_drew1 | refine below_set ?_ GEA.out | refine below_set ?_ GEB.out) | exact HB.out)⟩
               ·rw [if_neg c75] at H
                have c75b0 : (((rd_T35 l0_6 (ji68)).f0).toList == ((rd_T35 l0_6 x3_2).f0).toList) = false := beq_eq_false_iff_ne.mpr c75
                have c75b1 : (((rd_T35 l0_6 (ji68)).f0).toList != ((rd_T35 l0_6 x3_2).f0).toList) = true := bne_iff_ne.mpr c75
                have H' := Aside0.mk H
                clear H
                have hnb83 := NBA_B.out
                have hnc83 := NBB_A.out
                have hcz84_0 : wc.cell? ⟨gbA, 0, none⟩ = some (.int .i64 a0_0) := (blk_cell BKA.out 0).trans rfl
                have hcz84_1 : wc.cell? ⟨gbA, 1, none⟩ = some (.int .i64 a0_1) := (blk_cell BKA.out 1).trans rfl
                have hcz84_2 : wc.cell? ⟨gbA, 2, none⟩ = some (.int .i64 a0_2) := (blk_cell BKA.out 2).trans rfl
                have hcz84_3 : wc.cell? ⟨gbA, 3, none⟩ = some (.int .i64 a0_3) := (blk_cell BKA.out 3).trans rfl
                have hcz84_4 : wc.cell? ⟨gbA, 4, none⟩ = some (.int .i64 a0_4) := (blk_cell BKA.out 4).trans rfl
                have hcz84_5 : wc.cell? ⟨gbA, 5, none⟩ = some (.int .i64 a0_5) := (blk_cell BKA.out 5).trans rfl
                have hcz84_6 : wc.cell? ⟨gbA, 6, none⟩ = some (.slice (some adF) l0_6.length c0_6) := (blk_cell BKA.out 6).trans rfl
                have hfz84_0 := blk_frozen BKA.out 0
                have hfz84_1 := blk_frozen BKA.out 1
                have hfz84_2 := blk_frozen BKA.out 2
                have hfz84_3 := blk_frozen BKA.out 3
                have hfz84_4 := blk_frozen BKA.out 4
                have hfz84_5 := blk_frozen BKA.out 5
                have hfz84_6 := blk_frozen BKA.out 6
                have pC : 0 ≤ ((ji68) : Int) := of_decide_eq_true (by first | (with_reducible assumption) | assumption)
                have qC : (ji68) < (l0_6.length : Int) := of_decide_eq_true (by first | (with_reducible assumption) | assumption)
                obtain ⟨adC, eC, hxC_0, hxC_1, hxC_2⟩ := at_T35 HR0_6.out (ji68) pC qC
                obtain rfl : adF = adC := (by injection eC)
                replace hxC_0 := (HB.out.cell (World.block_lt_of_cell? w _ hxC_0)).trans hxC_0
                replace hxC_1 := (HB.out.cell (World.block_lt_of_cell? w _ hxC_1)).trans hxC_1
                replace hxC_2 := (HB.out.cell (World.block_lt_of_cell? w _ hxC_2)).trans hxC_2
                replace pC := eq_true pC
                (try replace pCz := eq_true pCz)
                replace qC := eq_true qC
                (try replace qCz := eq_true qCz)
                have hcz85_0 : wc.cell? ⟨gbB, 0, none⟩ = some (.string ((rd_T35 l0_6 x3_2).f0)) := (blk_cell BKB.out 0).trans rfl
                have hcz85_1 : wc.cell? ⟨gbB, 1, none⟩ = some (.string ((rd_T35 l0_6 x3_2).f1)) := (blk_cell BKB.out 1).trans rfl
                have hcz85_2 : wc.cell? ⟨gbB, 2, none⟩ = some (.int .i64 ((rd_T35 l0_6 x3_2).f2)) := (blk_cell BKB.out 2).trans rfl
                have hfz85_0 := blk_frozen BKB.out 0
                have hfz85_1 := blk_frozen BKB.out 1
                have hfz85_2 := blk_frozen BKB.out 2
                have pD : 0 ≤ ((ji68) : Int) := of_decide_eq_true (by first | (with_reducible assumption) | assumption)
                have qD : (ji68) < (l0_6.length : Int) := of_decide_eq_true (by first | (with_reducible assumption) | assumption)
                obtain ⟨adD, eD, hxD_0, hxD_1, hxD_2⟩ := at_T35 HR0_6.out (ji68) pD qD
                obtain rfl : adF = adD := (by injection eD)
                replace hxD_0 := (HB.out.cell (World.block_lt_of_cell? w _ hxD_0)).trans hxD_0
                replace hxD_1 := (HB.out.cell (World.block_lt_of_cell? w _ hxD_1)).trans hxD_1
                replace hxD_2 := (HB.out.cell (World.block_lt_of_cell? w _ hxD_2)).trans hxD_2
                replace pD := eq_true pD
                (try replace pDz := eq_true pDz)
                replace qD := eq_true qD
                (try replace qDz := eq_true qDz)
                go_wp2
                repeat (go_quiet (fail); try go_wp2)
                go_roundg kj53
                case measure => have := HJ1.out; have := HK2.out; have := HJ53.out; omega
                case rel => exact ⟨(wrap64 (x3_2 + 1)), (by first | rfl | (simp; done) | (simp [*]; done)), H', ⟨by have := HJ1.out; have := HK2.out; have := HJ53.out; omega⟩, ⟨by (with_reducible repeat (first | refine blk_drewN ?_ _ | refine blk_drew ?_ | refine blk_alloc ?_ _)); exact BKA.out⟩, ⟨by repeat (first | (with_reducible first | exact HB.out | apply below_alloc | apply pw_below_drewN | apply below_drew1 | refine below_set ?_ GEA.out | refine below_set ?_ GEB.out) | exact HB.out)⟩⟩
             ·rw [if_neg c70] at H
              exact absurd H (by simp)
            ·rw [if_neg c69] at H
             exact absurd H (by simp)
           ·rw [if_neg c67] at H
            have c67b0 : decide (0 < x3_2) = false := decide_eq_false c67
            clear c67
            have H' := Aside0.mk H
            clear H
            go_wp2
            repeat (go_quiet (fail); try go_wp2)
            go_roundg kj53
            case measure => have := HJ1.out; have := HK2.out; have := HJ53.out; omega
            case rel => exact ⟨(wrap64 (x3_2 + 1)), (by first | rfl | (simp; done) | (simp [*]; done)), H', ⟨by have := HJ1.out; have := HK2.out; have := HJ53.out; omega⟩, ⟨by (with_reducible repeat (first | refine blk_drewN ?_ _ | refine blk_drew ?_ | refine blk_alloc ?_ _)); exact BKA.out⟩, ⟨by repeat (first | (with_reducible first | exact HB.out | apply below_alloc | apply pw_below_drewN | apply below_drew1 | refine below_set ?_ GEA.out | refine below_set ?_ GEB.out) | exact HB.out)⟩⟩
       ·rw [if_neg c51] at H
        exact absurd H (by simp)
      ·rw [if_neg c50] at H
       have c50b0 : decide (x3_2 < (l0_6.length : Int)) = false := decide_eq_false c50
       clear c50
       obtain rfl := Option.some.inj H
       have hcz86_0 : wr.cell? ⟨gbA, 0, none⟩ = some (.int .i64 a0_0) := (blk_cell BKA.out 0).trans rfl
       have hcz86_1 : wr.cell? ⟨gbA, 1, none⟩ = some (.int .i64 a0_1) := (blk_cell BKA.out 1).trans rfl
       have hcz86_2 : wr.cell? ⟨gbA, 2, none⟩ = some (.int .i64 a0_2) := (blk_cell BKA.out 2).trans rfl
       have hcz86_3 : wr.cell? ⟨gbA, 3, none⟩ = some (.int .i64 a0_3) := (blk_cell BKA.out 3).trans rfl
       have hcz86_4 : wr.cell? ⟨gbA, 4, none⟩ = some (.int .i64 a0_4) := (blk_cell BKA.out 4).trans rfl
       have hcz86_5 : wr.cell? ⟨gbA, 5, none⟩ = some (.int .i64 a0_5) := (blk_cell BKA.out 5).trans rfl
       have hcz86_6 : wr.cell? ⟨gbA, 6, none⟩ = some (.slice A0_6 l0_6.length c0_6) := (blk_cell BKA.out 6).trans rfl
       have hfz86_0 := blk_frozen BKA.out 0
       have hfz86_1 := blk_frozen BKA.out 1
       have hfz86_2 := blk_frozen BKA.out 2
       have hfz86_3 := blk_frozen BKA.out 3
       have hfz86_4 := blk_frozen BKA.out 4
       have hfz86_5 := blk_frozen BKA.out 5
       have hfz86_6 := blk_frozen BKA.out 6
       go_wp2
       repeat (go_quiet (fail); try go_wp2)
       go_ret
       exact ⟨by first | rfl | (simp [errW_none, errW_some] <;> rfl) | (simp [*, errW_none, errW_some] <;> rfl), by repeat (first | (with_reducible first | exact HB.out | apply below_alloc | apply pw_below_drewN | apply below_drew1 | refine below_set ?_ GEA.out) | exact HB.out)⟩

end Go.Proofs.YtpgifeoigconbaaDoor.Q
