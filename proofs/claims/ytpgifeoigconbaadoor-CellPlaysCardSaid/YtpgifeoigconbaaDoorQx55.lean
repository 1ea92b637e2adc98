-- Written by a program of this session (mp.py).
import Derived.Test.YtpgifeoigconbaaDoorSp
import Derived.Test.YtpgifeoigconbaaDoorSl
import Derived.Test.YtpgifeoigconbaaDoorQx0
import Derived.Test.YtpgifeoigconbaaDoorQx52
import Derived.Test.YtpgifeoigconbaaDoorQx54
namespace Go.Proofs.YtpgifeoigconbaaDoor.Q
open Go.RowKit Go.Proofs.YtpgifeoigconbaaDoorW.PrintWords Go.Proofs.YtpgifeoigconbaaDoorW.PrintLast Go.Proofs.YtpgifeoigconbaaDoor.Mo
attribute [local go_sem high] Go.Proofs.YtpgifeoigconbaaDoor.Sl.gtr_less Go.Proofs.YtpgifeoigconbaaDoor.Sl.leq_less
attribute [local go_sem] max2_int min2_int max_two min_two max_three min_three max_four min_four   -- for this text's walks alone
open Go.Proofs.YtpgifeoigconbaaDoor.Gn
set_option linter.unusedVariables false
set_option linter.unusedSimpArgs false

/-! ### billetlaw16_Fit: function 28 -/
mutual
def billetlaw16_Fit.l0 : Nat → List (S35) → Int → Int → Int → Int → Int → Int → Int → List (S35) → Option (Int × Int × Int × Int × Int × Int × (List (S35)))
 | 0, _, _, _, _, _, _, _, _, _ => none
 | k + 1, x6, x7, xS, xT, xU, xV, xW, xX, xF => if x7 < (x6.length : Int) then (if 0 ≤ x7 then (billetlaw16_Fit.l1 k x6 x7 ([] : List (S35)) false 0 xS xT xU xV xW xX xF ((rd_T35 x6 x7).f0) ((rd_T35 x6 x7).f1) (wrap64 (((rd_T35 x6 x7).f2) + 1))) else (none)) else (some (xS, xT, xU, xV, xW, xX, xF))
def billetlaw16_Fit.l1 : Nat → List (S35) → Int → List (S35) → Bool → Int → Int → Int → Int → Int → Int → Int → List (S35) → ByteArray → ByteArray → Int → Option (Int × Int × Int × Int × Int × Int × (List (S35)))
 | 0, _, _, _, _, _, _, _, _, _, _, _, _, _, _, _ => none
 | k + 1, x6, x7, x9, x10, x11, xS, xT, xU, xV, xW, xX, xF, xQ, xY, xZ => if x11 < (xF.length : Int) then (if 0 ≤ x11 then (if x10 = true then (billetlaw16_Fit.j2 k x6 x7 x9 x10 x11 false xS xT xU xV xW xX xF xQ xY xZ ((rd_T35 xF x11).f0) ((rd_T35 xF x11).f1) ((rd_T35 xF x11).f2)) else (if (Op.bytesLess xQ.toList (((rd_T35 xF x11).f0).toList)) = true then (billetlaw16_Fit.j2 k x6 x7 x9 x10 x11 true xS xT xU xV xW xX xF xQ xY xZ ((rd_T35 xF x11).f0) ((rd_T35 xF x11).f1) ((rd_T35 xF x11).f2)) else (if ((rd_T35 xF x11).f0).toList = xQ.toList then (billetlaw16_Fit.j2 k x6 x7 x9 x10 x11 (!(Op.bytesLess (((rd_T35 xF x11).f1).toList) xY.toList)) xS xT xU xV xW xX xF xQ xY xZ ((rd_T35 xF x11).f0) ((rd_T35 xF x11).f1) ((rd_T35 xF x11).f2)) else (billetlaw16_Fit.j2 k x6 x7 x9 x10 x11 false xS xT xU xV xW xX xF xQ xY xZ ((rd_T35 xF x11).f0) ((rd_T35 xF x11).f1) ((rd_T35 xF x11).f2))))) else (none)) else (if x10 = true then (billetlaw16_Fit.l0 k x6 (wrap64 (x7 + 1)) xS xT xU xV xW xX x9) else (if x9.length < 3518437208883 then (billetlaw16_Fit.l0 k x6 (wrap64 (x7 + 1)) xS xT xU xV xW xX (x9 ++ [(⟨xQ, xY, xZ⟩ : S35)])) else (none)))
def billetlaw16_Fit.j2 : Nat → List (S35) → Int → List (S35) → Bool → Int → Bool → Int → Int → Int → Int → Int → Int → List (S35) → ByteArray → ByteArray → Int → ByteArray → ByteArray → Int → Option (Int × Int × Int × Int × Int × Int × (List (S35)))
 | 0, _, _, _, _, _, _, _, _, _, _, _, _, _, _, _, _, _, _, _ => none
 | k + 1, x6, x7, x9, x10, x11, x84, xS, xT, xU, xV, xW, xX, xF, xQ, xY, xZ, xAM, xAN, xBF => if x84 = true then (if x9.length < 3518437208883 then ((some (x9 ++ [(⟨xQ, xY, xZ⟩ : S35)] : List (S35))).bind fun yP => (if xAM.toList = xQ.toList then (if xAN.toList = xY.toList then (billetlaw16_Fit.l1 k x6 x7 yP true (wrap64 (x11 + 1)) xS xT xU xV xW xX xF xQ xY xZ) else (if yP.length < 3518437208883 then (billetlaw16_Fit.l1 k x6 x7 (yP ++ [(⟨xAM, xAN, xBF⟩ : S35)]) true (wrap64 (x11 + 1)) xS xT xU xV xW xX xF xQ xY xZ) else (none))) else (if yP.length < 3518437208883 then (billetlaw16_Fit.l1 k x6 x7 (yP ++ [(⟨xAM, xAN, xBF⟩ : S35)]) true (wrap64 (x11 + 1)) xS xT xU xV xW xX xF xQ xY xZ) else (none)))) else (none)) else (if xAM.toList = xQ.toList then (if xAN.toList = xY.toList then (billetlaw16_Fit.l1 k x6 x7 x9 x10 (wrap64 (x11 + 1)) xS xT xU xV xW xX xF xQ xY xZ) else (if x9.length < 3518437208883 then (billetlaw16_Fit.l1 k x6 x7 (x9 ++ [(⟨xAM, xAN, xBF⟩ : S35)]) x10 (wrap64 (x11 + 1)) xS xT xU xV xW xX xF xQ xY xZ) else (none))) else (if x9.length < 3518437208883 then (billetlaw16_Fit.l1 k x6 x7 (x9 ++ [(⟨xAM, xAN, xBF⟩ : S35)]) x10 (wrap64 (x11 + 1)) xS xT xU xV xW xX xF xQ xY xZ) else (none)))
end
def billetlaw16_Fit.f (k : Nat) (a0_0 : Int) (a0_1 : Int) (a0_2 : Int) (a0_3 : Int) (a0_4 : Int) (a0_5 : Int) (l0_6 : List (S35)) (l1 : List Int) : Option (Int × Int × Int × Int × Int × Int × (List (S35))) := (billetlaw16_pick.f a0_0 2).bind fun tH => ((billetlaw16_pick.f a0_1 3).bind fun tI => ((billetlaw16_pick.f a0_2 1099511627777).bind fun tK => ((billetlaw16_pick.f a0_3 1099511627777).bind fun tL => ((billetlaw16_pick.f a0_4 1099511627777).bind fun tM => ((billetlaw16_pick.f a0_5 2199023255552).bind fun tJ => ((billetlaw08_Binds.f k l1).bind fun tE => (billetlaw16_Fit.l0 k tE 0 (wrap64 (1 + tH)) tI tK tL tM (wrap64 (tJ - 1000)) ([] : List (S35)))))))))
theorem billetlaw16_Fit.mono_l : ∀ k, (∀ y0 y1 y2 y3 y4 y5 y6 y7 y8, LeO (billetlaw16_Fit.l0 k y0 y1 y2 y3 y4 y5 y6 y7 y8) (billetlaw16_Fit.l0 (k + 1) y0 y1 y2 y3 y4 y5 y6 y7 y8)) ∧ (∀ y0 y1 y2 y3 y4 y5 y6 y7 y8 y9 y10 y11 y12 y13 y14, LeO (billetlaw16_Fit.l1 k y0 y1 y2 y3 y4 y5 y6 y7 y8 y9 y10 y11 y12 y13 y14) (billetlaw16_Fit.l1 (k + 1) y0 y1 y2 y3 y4 y5 y6 y7 y8 y9 y10 y11 y12 y13 y14)) ∧ (∀ y0 y1 y2 y3 y4 y5 y6 y7 y8 y9 y10 y11 y12 y13 y14 y15 y16 y17 y18, LeO (billetlaw16_Fit.j2 k y0 y1 y2 y3 y4 y5 y6 y7 y8 y9 y10 y11 y12 y13 y14 y15 y16 y17 y18) (billetlaw16_Fit.j2 (k + 1) y0 y1 y2 y3 y4 y5 y6 y7 y8 y9 y10 y11 y12 y13 y14 y15 y16 y17 y18))
 | 0 => ⟨fun _ _ _ _ _ _ _ _ _ r h => by simp [billetlaw16_Fit.l0] at h, fun _ _ _ _ _ _ _ _ _ _ _ _ _ _ _ r h => by simp [billetlaw16_Fit.l1] at h, fun _ _ _ _ _ _ _ _ _ _ _ _ _ _ _ _ _ _ _ r h => by simp [billetlaw16_Fit.j2] at h⟩
 | k + 1 => by
  obtain ⟨ih0, ih1, ih2⟩ := billetlaw16_Fit.mono_l k
  refine ⟨?_, ?_, ?_⟩
  ·intro y0 y1 y2 y3 y4 y5 y6 y7 y8
   unfold billetlaw16_Fit.l0
   repeat' first
   | (with_reducible exact ih0 _ _ _ _ _ _ _ _ _)
   | (with_reducible exact ih1 _ _ _ _ _ _ _ _ _ _ _ _ _ _ _)
   | (with_reducible exact ih2 _ _ _ _ _ _ _ _ _ _ _ _ _ _ _ _ _ _ _)
   | (with_reducible exact billetlaw08_Binds.mono _ _)
   | (with_reducible exact LeO.refl _)
   | (with_reducible exact LeO.none _)
   | (with_reducible refine LeO.ite ?_ ?_)
   | (with_reducible refine LeO.bind ?_ (fun _ => ?_))
   | exact ih0 _ _ _ _ _ _ _ _ _
   | exact ih1 _ _ _ _ _ _ _ _ _ _ _ _ _ _ _
   | exact ih2 _ _ _ _ _ _ _ _ _ _ _ _ _ _ _ _ _ _ _
   | exact billetlaw08_Binds.mono _ _
   | exact LeO.none _
   | refine LeO.ite ?_ ?_
   | refine LeO.bind ?_ (fun _ => ?_)
  ·intro y0 y1 y2 y3 y4 y5 y6 y7 y8 y9 y10 y11 y12 y13 y14
   unfold billetlaw16_Fit.l1
   repeat' first
   | (with_reducible exact ih0 _ _ _ _ _ _ _ _ _)
   | (with_reducible exact ih1 _ _ _ _ _ _ _ _ _ _ _ _ _ _ _)
   | (with_reducible exact ih2 _ _ _ _ _ _ _ _ _ _ _ _ _ _ _ _ _ _ _)
   | (with_reducible exact billetlaw08_Binds.mono _ _)
   | (with_reducible exact LeO.refl _)
   | (with_reducible exact LeO.none _)
   | (with_reducible refine LeO.ite ?_ ?_)
   | (with_reducible refine LeO.bind ?_ (fun _ => ?_))
   | exact ih0 _ _ _ _ _ _ _ _ _
   | exact ih1 _ _ _ _ _ _ _ _ _ _ _ _ _ _ _
   | exact ih2 _ _ _ _ _ _ _ _ _ _ _ _ _ _ _ _ _ _ _
   | exact billetlaw08_Binds.mono _ _
   | exact LeO.none _
   | refine LeO.ite ?_ ?_
   | refine LeO.bind ?_ (fun _ => ?_)
  ·intro y0 y1 y2 y3 y4 y5 y6 y7 y8 y9 y10 y11 y12 y13 y14 y15 y16 y17 y18
   unfold billetlaw16_Fit.j2
   repeat' first
   | (with_reducible exact ih0 _ _ _ _ _ _ _ _ _)
   | (with_reducible exact ih1 _ _ _ _ _ _ _ _ _ _ _ _ _ _ _)
   | (with_reducible exact ih2 _ _ _ _ _ _ _ _ _ _ _ _ _ _ _ _ _ _ _)
   | (with_reducible exact billetlaw08_Binds.mono _ _)
   | (with_reducible exact LeO.refl _)
   | (with_reducible exact LeO.none _)
   | (with_reducible refine LeO.ite ?_ ?_)
   | (with_reducible refine LeO.bind ?_ (fun _ => ?_))
   | exact ih0 _ _ _ _ _ _ _ _ _
   | exact ih1 _ _ _ _ _ _ _ _ _ _ _ _ _ _ _
   | exact ih2 _ _ _ _ _ _ _ _ _ _ _ _ _ _ _ _ _ _ _
   | exact billetlaw08_Binds.mono _ _
   | exact LeO.none _
   | refine LeO.ite ?_ ?_
   | refine LeO.bind ?_ (fun _ => ?_)
theorem billetlaw16_Fit.mono : ∀ a0 a1 a2 a3 a4 a5 a6 a7 k, LeO (billetlaw16_Fit.f k a0 a1 a2 a3 a4 a5 a6 a7) (billetlaw16_Fit.f (k + 1) a0 a1 a2 a3 a4 a5 a6 a7) := by
 intro a0 a1 a2 a3 a4 a5 a6 a7 k
 obtain ⟨ih0, ih1, ih2⟩ := billetlaw16_Fit.mono_l k
 unfold billetlaw16_Fit.f
 repeat' first
   | (with_reducible exact ih0 _ _ _ _ _ _ _ _ _)
   | (with_reducible exact ih1 _ _ _ _ _ _ _ _ _ _ _ _ _ _ _)
   | (with_reducible exact ih2 _ _ _ _ _ _ _ _ _ _ _ _ _ _ _ _ _ _ _)
   | (with_reducible exact billetlaw08_Binds.mono _ _)
   | (with_reducible exact LeO.refl _)
   | (with_reducible exact LeO.none _)
   | (with_reducible refine LeO.ite ?_ ?_)
   | (with_reducible refine LeO.bind ?_ (fun _ => ?_))
   | exact ih0 _ _ _ _ _ _ _ _ _
   | exact ih1 _ _ _ _ _ _ _ _ _ _ _ _ _ _ _
   | exact ih2 _ _ _ _ _ _ _ _ _ _ _ _ _ _ _ _ _ _ _
   | exact billetlaw08_Binds.mono _ _
   | exact LeO.none _
   | refine LeO.ite ?_ ?_
   | refine LeO.bind ?_ (fun _ => ?_)
def billetlaw16_Fit.T1 : Bool × List (List Nat × List Nat) := (true, [([], []), ([0], [0]), ([1], [1]), ([2], [2]), ([], []), ([4], [4]), ([5, 2], [5]), ([], []), ([7], [7]), ([8, 6], [8]), ([], []), ([10], [10]), ([11, 9], [11]), ([], []), ([13], [13]), ([14, 12], [14]), ([], []), ([16], [16]), ([17, 15], [17]), ([18], [18]), ([3, 6, 9, 12, 15, 19], [3, 6, 9, 12, 15, 19]), ([], []), ([21, 20, 18, 0, 1, 2, 3, 4, 5, 6, 7, 8, 9, 10, 11, 12, 13, 14, 15, 16, 17, 18, 19, 20, 21], [20, 21])])
def billetlaw16_Fit.B1 : List Nat := [0, 1, 3, 7, 0, 16, 55, 0, 128, 503, 0, 1024, 4087, 0, 8192, 32759, 0, 65536, 262135, 524279, 1048575, 0, 4194303]
theorem billetlaw16_Fit.tab1 : rtab .any (opsOf Tryd.f28 1) = billetlaw16_Fit.T1 := by kernel_rfl
theorem billetlaw16_Fit.bits1 : waitsOk billetlaw16_Fit.T1.2 billetlaw16_Fit.B1 = true := by kernel_rfl
set_option maxHeartbeats 8000000 in
set_option maxRecDepth 100000 in
theorem billetlaw16_Fit.calls (k : Nat) (a0_0 : Int) (a0_1 : Int) (a0_2 : Int) (a0_3 : Int) (a0_4 : Int) (a0_5 : Int) (A0_6 : Option Addr) (c0_6 : Nat) (l0_6 : List (S35)) (A1 : Option Addr) (c1 : Nat) (l1 : List Int) (r1 : Int) (r2 : Int) (r3 : Int) (r4 : Int) (r5 : Int) (r6 : Int) (r7 : List (S35)) (w : World) (hr0_6 : Kd.C k35 w A0_6 l0_6.length l0_6) (hc0_6 : l0_6.length ≤ c0_6) (hr1 : Kd.C (Kd.int .i64) w A1 l1.length l1) (hc1 : l1.length ≤ c1) (h : billetlaw16_Fit.f k a0_0 a0_1 a0_2 a0_3 a0_4 a0_5 l0_6 l1 = some (r1, r2, r3, r4, r5, r6, r7)) :
  Calls Tryd.prog 28 #[.agg #[.int .i64 a0_0, .int .i64 a0_1, .int .i64 a0_2, .int .i64 a0_3, .int .i64 a0_4, .int .i64 a0_5, .slice A0_6 l0_6.length c0_6], .slice A1 l1.length c1] w fun e w' => ∃ v6_ : Value, e = .returned (.agg #[.int .i64 r1, .int .i64 r2, .int .i64 r3, .int .i64 r4, .int .i64 r5, .int .i64 r6, v6_]) ∧ Kd.R k35 35 w' w.heap.size (fun _ => True) v6_ r7 ∧ Below w.heap.size w w' := by
 have hu31 := Tryd.underlying31
 have hu35 := Tryd.underlying35
 have HR0_6 := Aside0.mk hr0_6
 have HC0_6 := Aside0.mk hc0_6
 clear hr0_6 hc0_6
 have HR1 := Aside0.mk hr1
 have HC1 := Aside0.mk hc1
 clear hr1 hc1
 have HB := Aside0.mk (Below.refl w.heap.size w)
 have H : ((billetlaw16_pick.f a0_0 2).bind fun tH => ((billetlaw16_pick.f a0_1 3).bind fun tI => ((billetlaw16_pick.f a0_2 1099511627777).bind fun tK => ((billetlaw16_pick.f a0_3 1099511627777).bind fun tL => ((billetlaw16_pick.f a0_4 1099511627777).bind fun tM => ((billetlaw16_pick.f a0_5 2199023255552).bind fun tJ => ((billetlaw08_Binds.f k l1).bind fun tE => (billetlaw16_Fit.l0 k tE 0 (wrap64 (1 + tH)) tI tK tL tM (wrap64 (tJ - 1000)) ([] : List (S35)))))))))) = some (r1, r2, r3, r4, r5, r6, r7) := h
 clear h
 replace H := Option.bind_eq_some_iff.mp H
 obtain ⟨tH, A30, H⟩ := H
 replace H : ((billetlaw16_pick.f a0_1 3).bind fun tI => ((billetlaw16_pick.f a0_2 1099511627777).bind fun tK => ((billetlaw16_pick.f a0_3 1099511627777).bind fun tL => ((billetlaw16_pick.f a0_4 1099511627777).bind fun tM => ((billetlaw16_pick.f a0_5 2199023255552).bind fun tJ => ((billetlaw08_Binds.f k l1).bind fun tE => (billetlaw16_Fit.l0 k tE 0 (wrap64 (1 + tH)) tI tK tL tM (wrap64 (tJ - 1000)) ([] : List (S35))))))))) = some (r1, r2, r3, r4, r5, r6, r7) := H
 have A3 := Aside0.mk A30
 clear A30
 replace H := Option.bind_eq_some_iff.mp H
 obtain ⟨tI, A40, H⟩ := H
 replace H : ((billetlaw16_pick.f a0_2 1099511627777).bind fun tK => ((billetlaw16_pick.f a0_3 1099511627777).bind fun tL => ((billetlaw16_pick.f a0_4 1099511627777).bind fun tM => ((billetlaw16_pick.f a0_5 2199023255552).bind fun tJ => ((billetlaw08_Binds.f k l1).bind fun tE => (billetlaw16_Fit.l0 k tE 0 (wrap64 (1 + tH)) tI tK tL tM (wrap64 (tJ - 1000)) ([] : List (S35)))))))) = some (r1, r2, r3, r4, r5, r6, r7) := H
 have A4 := Aside0.mk A40
 clear A40
 replace H := Option.bind_eq_some_iff.mp H
 obtain ⟨tK, A50, H⟩ := H
 replace H : ((billetlaw16_pick.f a0_3 1099511627777).bind fun tL => ((billetlaw16_pick.f a0_4 1099511627777).bind fun tM => ((billetlaw16_pick.f a0_5 2199023255552).bind fun tJ => ((billetlaw08_Binds.f k l1).bind fun tE => (billetlaw16_Fit.l0 k tE 0 (wrap64 (1 + tH)) tI tK tL tM (wrap64 (tJ - 1000)) ([] : List (S35))))))) = some (r1, r2, r3, r4, r5, r6, r7) := H
 have A5 := Aside0.mk A50
 clear A50
 replace H := Option.bind_eq_some_iff.mp H
 obtain ⟨tL, A60, H⟩ := H
 replace H : ((billetlaw16_pick.f a0_4 1099511627777).bind fun tM => ((billetlaw16_pick.f a0_5 2199023255552).bind fun tJ => ((billetlaw08_Binds.f k l1).bind fun tE => (billetlaw16_Fit.l0 k tE 0 (wrap64 (1 + tH)) tI tK tL tM (wrap64 (tJ - 1000)) ([] : List (S35)))))) = some (r1, r2, r3, r4, r5, r6, r7) := H
 have A6 := Aside0.mk A60
 clear A60
 replace H := Option.bind_eq_some_iff.mp H
 obtain ⟨tM, A70, H⟩ := H
 replace H : ((billetlaw16_pick.f a0_5 2199023255552).bind fun tJ => ((billetlaw08_Binds.f k l1).bind fun tE => (billetlaw16_Fit.l0 k tE 0 (wrap64 (1 + tH)) tI tK tL tM (wrap64 (tJ - 1000)) ([] : List (S35))))) = some (r1, r2, r3, r4, r5, r6, r7) := H
 have A7 := Aside0.mk A70
 clear A70
 replace H := Option.bind_eq_some_iff.mp H
 obtain ⟨tJ, A80, H⟩ := H
 replace H : ((billetlaw08_Binds.f k l1).bind fun tE => (billetlaw16_Fit.l0 k tE 0 (wrap64 (1 + tH)) tI tK tL tM (wrap64 (tJ - 1000)) ([] : List (S35)))) = some (r1, r2, r3, r4, r5, r6, r7) := H
 have A8 := Aside0.mk A80
 clear A80
 replace H := Option.bind_eq_some_iff.mp H
 obtain ⟨tE, A90, H⟩ := H
 replace H : (billetlaw16_Fit.l0 k tE 0 (wrap64 (1 + tH)) tI tK tL tM (wrap64 (tJ - 1000)) ([] : List (S35))) = some (r1, r2, r3, r4, r5, r6, r7) := H
 have A9 := Aside0.mk A90
 clear A90
 have H' := Aside0.mk H
 clear H
 go_enter Tryd.func28, Tryd.ntmps28
 try go_wp2_with (first | ((with_reducible refine gate_dst (N := 2) rfl ?_); refine box_event ?hg (N := 2) ?hd (cs := #[.int .i64 a0_0, .int .i64 a0_1, .int .i64 a0_2, .int .i64 a0_3, .int .i64 a0_4, .int .i64 a0_5, .slice A0_6 l0_6.length c0_6]) (t := 31) ?hr ?_; (case hd => rfl); (case hg => rfl); (case hr => first | (go_simp; done) | (go_simp; rfl)); intro gbA hg w10 hbox hb; have n0_ := Aside0.mk (below_step (by repeat (first | (with_reducible first | exact HB.out | apply below_alloc | apply pw_below_drewN | apply below_drew1) | exact HB.out)) hb); have n1_ := Aside0.mk (hbox); have n2_ := Aside0.mk ((by rw [hg]; exact (below_size (by repeat (first | (with_reducible first | exact HB.out | apply below_alloc | apply pw_below_drewN | apply below_drew1) | exact HB.out))) : w.heap.size ≤ gbA)); have n3_ := Aside0.mk ((by rw [hg]; exact (below_size (by repeat (first | (with_reducible first | exact HB.out | apply below_alloc | apply pw_below_drewN | apply below_drew1) | exact HB.out))) : w.heap.size ≤ gbA)); clear HB; have HB := n0_; have BKA := n1_; have GWA := n2_; have GEA := n3_; clear n0_ n1_ n2_ n3_; clear hb hbox hg) | ((with_reducible refine gate_dst (N := 4) rfl ?_); refine box_event ?hg (N := 4) ?hd (cs := #[.int .i64 0, .int .i64 0, .int .i64 0, .int .i64 0, .int .i64 0, .int .i64 0, .slice none 0 0]) (t := 31) ?hr ?_; (case hd => rfl); (case hg => rfl); (case hr => first | (go_simp; done) | (go_simp; rfl)); intro gbC hg w11 hbox hb; have n0_ := Aside0.mk (blk_below (g := gbA) (o := .cells #[.int .i64 a0_0, .int .i64 a0_1, .int .i64 a0_2, .int .i64 a0_3, .int .i64 a0_4, .int .i64 a0_5, .slice A0_6 l0_6.length c0_6] 31 (0, 0)) (by (with_reducible repeat (first | refine blk_drewN ?_ _ | refine blk_drew ?_ | refine blk_alloc ?_ _)); exact BKA.out) hb); have n1_ := Aside0.mk (below_step (by repeat (first | (with_reducible first | exact HB.out | apply below_alloc | apply pw_below_drewN | apply below_drew1 | refine below_set ?_ GEA.out) | exact HB.out)) hb); have n2_ := Aside0.mk (hbox); have n3_ := Aside0.mk ((by rw [hg]; exact (below_size (by repeat (first | (with_reducible first | exact HB.out | apply below_alloc | apply pw_below_drewN | apply below_drew1 | refine below_set ?_ GEA.out) | exact HB.out))) : w.heap.size ≤ gbC)); have n4_ := Aside0.mk ((by rw [hg]; exact (below_size (by repeat (first | (with_reducible first | exact HB.out | apply below_alloc | apply pw_below_drewN | apply below_drew1 | refine below_set ?_ GEA.out) | exact HB.out))) : w.heap.size ≤ gbC)); have n5_ := Aside0.mk ((by rw [hg]; exact Nat.ne_of_lt (blk_lt (g := gbA) (o := .cells #[.int .i64 a0_0, .int .i64 a0_1, .int .i64 a0_2, .int .i64 a0_3, .int .i64 a0_4, .int .i64 a0_5, .slice A0_6 l0_6.length c0_6] 31 (0, 0)) (by (with_reducible repeat (first | refine blk_drewN ?_ _ | refine blk_drew ?_ | refine blk_alloc ?_ _)); exact BKA.out)) : gbA ≠ gbC)); have n6_ := Aside0.mk ((by rw [hg]; exact Nat.ne_of_gt (blk_lt (g := gbA) (o := .cells #[.int .i64 a0_0, .int .i64 a0_1, .int .i64 a0_2, .int .i64 a0_3, .int .i64 a0_4, .int .i64 a0_5, .slice A0_6 l0_6.length c0_6] 31 (0, 0)) (by (with_reducible repeat (first | refine blk_drewN ?_ _ | refine blk_drew ?_ | refine blk_alloc ?_ _)); exact BKA.out)) : gbC ≠ gbA)); clear BKA; clear HB; have BKA := n0_; have HB := n1_; have BKC := n2_; have GWC := n3_; have GEC := n4_; have NBA_C := n5_; have NBC_A := n6_; clear n0_ n1_ n2_ n3_ n4_ n5_ n6_; clear hb hbox hg))
 have n0_ := Aside0.mk (blk_drew BKA.out)
 have n1_ := Aside0.mk (blk_drew BKC.out)
 have n2_ := Aside0.mk (below_drew1 HB.out)
 clear BKA
 clear BKC
 clear HB
 have BKA := n0_
 have BKC := n1_
 have HB := n2_
 clear n0_ n1_ n2_
 refine start_ (n := 23) (S := fun w' => w'.cell? ⟨gbA, 0, none⟩ = some (.int .i64 a0_0) ∧ w'.cell? ⟨gbA, 1, none⟩ = some (.int .i64 a0_1) ∧ w'.cell? ⟨gbA, 2, none⟩ = some (.int .i64 a0_2) ∧ w'.cell? ⟨gbA, 3, none⟩ = some (.int .i64 a0_3) ∧ w'.cell? ⟨gbA, 4, none⟩ = some (.int .i64 a0_4) ∧ w'.cell? ⟨gbA, 5, none⟩ = some (.int .i64 a0_5) ∧ w'.cell? ⟨gbA, 6, none⟩ = some (.slice A0_6 l0_6.length c0_6)) (ds := []) (upT 23 0) (by kernel_rfl) rfl rfl ⟨(blk_cell BKA.out 0).trans rfl, (blk_cell BKA.out 1).trans rfl, (blk_cell BKA.out 2).trans rfl, (blk_cell BKA.out 3).trans rfl, (blk_cell BKA.out 4).trans rfl, (blk_cell BKA.out 5).trans rfl, (blk_cell BKA.out 6).trans rfl⟩ (fun hHeld => ?_); refine with_tabW billetlaw16_Fit.tab1 billetlaw16_Fit.bits1 (fun HT_ HW_ => ?_)
 generalize w11.drew = w12 at BKA BKC HB hHeld ⊢
 refine pu 13 (v := ?_) (a' := ?_) rfl rfl (any_of HT_.out (by kernel_rfl)) (fun _ _ _ h => h) (Or.inl ⟨by rfl, ?_⟩) ?_ ?_; rotate_left; (·intro w'; go_simp; with_reducible rfl); rotate_left; (·simp only [Act.put, List.setIfInBounds_toArray, List.set_cons_zero, List.set_cons_succ, i64_w, i32_w, Nat.reduceAdd]; rfl); conv => arg 8; arg 2; simp only [Nat.reduceAdd]
 refine pure_ (i := 4) (N := some 17) (v := ?_) (a' := ?_) #[true, false, false, false, true, false, false, false, false, false, false, false, false, false, false, false, false, false, false, false, false, false, false] rfl rfl (any_of HT_.out (by kernel_rfl)) (fun _ _ _ h => h) (Or.inl ⟨by rfl, ?_⟩) ?_ ?_
 rotate_left
 ·intro w'
  go_simp
  with_reducible rfl
 rotate_left
 ·simp only [Act.put, List.setIfInBounds_toArray, List.set_cons_zero, List.set_cons_succ, i64_w, i32_w]
  rfl
 refine pure_ (i := 7) (N := some 20) (v := ?_) (a' := ?_) #[true, false, false, false, true, false, false, true, false, false, false, false, false, false, false, false, false, false, false, false, false, false, false] rfl rfl (any_of HT_.out (by kernel_rfl)) (fun _ _ _ h => h) (Or.inl ⟨by rfl, ?_⟩) ?_ ?_
 rotate_left
 ·intro w'
  go_simp
  with_reducible rfl
 rotate_left
 ·simp only [Act.put, List.setIfInBounds_toArray, List.set_cons_zero, List.set_cons_succ, i64_w, i32_w]
  rfl
 refine pure_ (i := 10) (N := some 23) (v := ?_) (a' := ?_) #[true, false, false, false, true, false, false, true, false, false, true, false, false, false, false, false, false, false, false, false, false, false, false] rfl rfl (any_of HT_.out (by kernel_rfl)) (fun _ _ _ h => h) (Or.inl ⟨by rfl, ?_⟩) ?_ ?_
 rotate_left
 ·intro w'
  go_simp
  with_reducible rfl
 rotate_left
 ·simp only [Act.put, List.setIfInBounds_toArray, List.set_cons_zero, List.set_cons_succ, i64_w, i32_w]
  rfl
 refine pure_ (i := 13) (N := some 26) (v := ?_) (a' := ?_) #[true, false, false, false, true, false, false, true, false, false, true, false, false, true, false, false, false, false, false, false, false, false, false] rfl rfl (any_of HT_.out (by kernel_rfl)) (fun _ _ _ h => h) (Or.inl ⟨by rfl, ?_⟩) ?_ ?_
 rotate_left
 ·intro w'
  go_simp
  with_reducible rfl
 rotate_left
 ·simp only [Act.put, List.setIfInBounds_toArray, List.set_cons_zero, List.set_cons_succ, i64_w, i32_w]
  rfl
 refine pure_ (i := 16) (N := some 29) (v := ?_) (a' := ?_) #[true, false, false, false, true, false, false, true, false, false, true, false, false, true, false, false, true, false, false, false, false, false, false] rfl rfl (any_of HT_.out (by kernel_rfl)) (fun _ _ _ h => h) (Or.inl ⟨by rfl, ?_⟩) ?_ ?_
 rotate_left
 ·intro w'
  go_simp
  with_reducible rfl
 rotate_left
 ·simp only [Act.put, List.setIfInBounds_toArray, List.set_cons_zero, List.set_cons_succ, i64_w, i32_w]
  rfl
 refine take_ (i := 1) (N := some 14) (v := ?_) (a' := ?_) #[true, true, false, false, true, false, false, true, false, false, true, false, false, true, false, false, true, false, false, false, false, false, false] rfl rfl (take_ofW HT_.out HW_.out (by kernel_rfl)) (fun _ _ _ h => h) (Or.inl ⟨by rfl, ?_⟩) hHeld ?_ ?_
 rotate_left
 ·rintro w' ⟨s0, s1, s2, s3, s4, s5, s6⟩
  go_simp
  with_reducible rfl
 rotate_left
 ·simp only [Act.put, List.setIfInBounds_toArray, List.set_cons_zero, List.set_cons_succ, i64_w, i32_w]
  rfl
 refine take_ (i := 5) (N := some 18) (v := ?_) (a' := ?_) #[true, true, false, false, true, true, false, true, false, false, true, false, false, true, false, false, true, false, false, false, false, false, false] rfl rfl (take_ofW HT_.out HW_.out (by kernel_rfl)) (fun _ _ _ h => h) (Or.inl ⟨by rfl, ?_⟩) hHeld ?_ ?_
 rotate_left
 ·rintro w' ⟨s0, s1, s2, s3, s4, s5, s6⟩
  go_simp
  with_reducible rfl
 rotate_left
 ·simp only [Act.put, List.setIfInBounds_toArray, List.set_cons_zero, List.set_cons_succ, i64_w, i32_w]
  rfl
 refine take_ (i := 8) (N := some 21) (v := ?_) (a' := ?_) #[true, true, false, false, true, true, false, true, true, false, true, false, false, true, false, false, true, false, false, false, false, false, false] rfl rfl (take_ofW HT_.out HW_.out (by kernel_rfl)) (fun _ _ _ h => h) (Or.inl ⟨by rfl, ?_⟩) hHeld ?_ ?_
 rotate_left
 ·rintro w' ⟨s0, s1, s2, s3, s4, s5, s6⟩
  go_simp
  with_reducible rfl
 rotate_left
 ·simp only [Act.put, List.setIfInBounds_toArray, List.set_cons_zero, List.set_cons_succ, i64_w, i32_w]
  rfl
 refine take_ (i := 11) (N := some 24) (v := ?_) (a' := ?_) #[true, true, false, false, true, true, false, true, true, false, true, true, false, true, false, false, true, false, false, false, false, false, false] rfl rfl (take_ofW HT_.out HW_.out (by kernel_rfl)) (fun _ _ _ h => h) (Or.inl ⟨by rfl, ?_⟩) hHeld ?_ ?_
 rotate_left
 ·rintro w' ⟨s0, s1, s2, s3, s4, s5, s6⟩
  go_simp
  with_reducible rfl
 rotate_left
 ·simp only [Act.put, List.setIfInBounds_toArray, List.set_cons_zero, List.set_cons_succ, i64_w, i32_w]
  rfl
 refine take_ (i := 14) (N := some 27) (v := ?_) (a' := ?_) #[true, true, false, false, true, true, false, true, true, false, true, true, false, true, true, false, true, false, false, false, false, false, false] rfl rfl (take_ofW HT_.out HW_.out (by kernel_rfl)) (fun _ _ _ h => h) (Or.inl ⟨by rfl, ?_⟩) hHeld ?_ ?_
 rotate_left
 ·rintro w' ⟨s0, s1, s2, s3, s4, s5, s6⟩
  go_simp
  with_reducible rfl
 rotate_left
 ·simp only [Act.put, List.setIfInBounds_toArray, List.set_cons_zero, List.set_cons_succ, i64_w, i32_w]
  rfl
 refine take_ (i := 17) (N := some 30) (v := ?_) (a' := ?_) #[true, true, false, false, true, true, false, true, true, false, true, true, false, true, true, false, true, true, false, false, false, false, false] rfl rfl (take_ofW HT_.out HW_.out (by kernel_rfl)) (fun _ _ _ h => h) (Or.inl ⟨by rfl, ?_⟩) hHeld ?_ ?_
 rotate_left
 ·rintro w' ⟨s0, s1, s2, s3, s4, s5, s6⟩
  go_simp
  with_reducible rfl
 rotate_left
 ·simp only [Act.put, List.setIfInBounds_toArray, List.set_cons_zero, List.set_cons_succ, i64_w, i32_w]
  rfl
 refine join_ (σ := Nat) 1 #[true, true, true, true, true, true, true, true, true, true, true, true, true, true, true, true, true, true, true, true, true, true, false] (fun s_ => [(15, .int .i64 tH), (19, .int .i64 tI), (22, .int .i64 tK), (25, .int .i64 tL), (28, .int .i64 tM), (31, .int .i64 tJ), (5, .pointer (some ⟨s_, 0, none⟩)), (16, .int .i64 (wrap64 (1 + tH))), (32, .int .i64 (wrap64 (tJ - 1000))), (33, .agg #[.int .i64 (wrap64 (1 + tH)), .int .i64 tI, .int .i64 tK, .int .i64 tL, .int .i64 tM, .int .i64 (wrap64 (tJ - 1000)), .slice none 0 0])]) (fun s_ w' => (w'.cell? ⟨gbA, 0, none⟩ = some (.int .i64 a0_0) ∧ w'.cell? ⟨gbA, 1, none⟩ = some (.int .i64 a0_1) ∧ w'.cell? ⟨gbA, 2, none⟩ = some (.int .i64 a0_2) ∧ w'.cell? ⟨gbA, 3, none⟩ = some (.int .i64 a0_3) ∧ w'.cell? ⟨gbA, 4, none⟩ = some (.int .i64 a0_4) ∧ w'.cell? ⟨gbA, 5, none⟩ = some (.int .i64 a0_5) ∧ w'.cell? ⟨gbA, 6, none⟩ = some (.slice A0_6 l0_6.length c0_6)) ∧ (w'.heap[gbA]? = some (.cells #[.int .i64 a0_0, .int .i64 a0_1, .int .i64 a0_2, .int .i64 a0_3, .int .i64 a0_4, .int .i64 a0_5, .slice A0_6 l0_6.length c0_6] 31 (0, 0))) ∧ (w'.heap[gbC]? = some (.cells #[.int .i64 0, .int .i64 0, .int .i64 0, .int .i64 0, .int .i64 0, .int .i64 0, .slice none 0 0] 31 (0, 0))) ∧ (w'.heap[s_]? = some (.cells #[.int .i64 0, .int .i64 0, .int .i64 0, .int .i64 0, .int .i64 0, .int .i64 0, .slice none 0 0] 31 (0, 0))) ∧ (w.heap.size ≤ s_) ∧ (w.heap.size ≤ s_) ∧ (gbA ≠ s_) ∧ (s_ ≠ gbA) ∧ (gbC ≠ s_) ∧ (s_ ≠ gbC) ∧ (Below w.heap.size w w')) ?_ ?_
 rotate_left
 ·intro hJ2_6_9_12_15_18_21
  refine join_ (σ := Unit) 2 #[true, true, true, true, true, true, true, true, true, true, true, true, true, true, true, true, true, true, true, true, true, false, false] (fun s_ => [(15, .int .i64 tH), (19, .int .i64 tI), (22, .int .i64 tK), (25, .int .i64 tL), (28, .int .i64 tM), (31, .int .i64 tJ), (16, .int .i64 (wrap64 (1 + tH))), (32, .int .i64 (wrap64 (tJ - 1000))), (33, .agg #[.int .i64 (wrap64 (1 + tH)), .int .i64 tI, .int .i64 tK, .int .i64 tL, .int .i64 tM, .int .i64 (wrap64 (tJ - 1000)), .slice none 0 0])]) (fun s_ w' => (w'.cell? ⟨gbA, 0, none⟩ = some (.int .i64 a0_0) ∧ w'.cell? ⟨gbA, 1, none⟩ = some (.int .i64 a0_1) ∧ w'.cell? ⟨gbA, 2, none⟩ = some (.int .i64 a0_2) ∧ w'.cell? ⟨gbA, 3, none⟩ = some (.int .i64 a0_3) ∧ w'.cell? ⟨gbA, 4, none⟩ = some (.int .i64 a0_4) ∧ w'.cell? ⟨gbA, 5, none⟩ = some (.int .i64 a0_5) ∧ w'.cell? ⟨gbA, 6, none⟩ = some (.slice A0_6 l0_6.length c0_6)) ∧ (w'.heap[gbA]? = some (.cells #[.int .i64 a0_0, .int .i64 a0_1, .int .i64 a0_2, .int .i64 a0_3, .int .i64 a0_4, .int .i64 a0_5, .slice A0_6 l0_6.length c0_6] 31 (0, 0))) ∧ (w'.heap[gbC]? = some (.cells #[.int .i64 0, .int .i64 0, .int .i64 0, .int .i64 0, .int .i64 0, .int .i64 0, .slice none 0 0] 31 (0, 0))) ∧ (Below w.heap.size w w')) ?_ ?_
  rotate_left
  ·intro hJ2_6_9_12_15_18
   refine join_ (σ := Nat) 4 #[true, true, true, true, true, true, true, true, true, true, true, true, true, true, true, true, true, true, false, false, false, true, false] (fun s_ => [(15, .int .i64 tH), (19, .int .i64 tI), (22, .int .i64 tK), (25, .int .i64 tL), (28, .int .i64 tM), (5, .pointer (some ⟨s_, 0, none⟩)), (16, .int .i64 (wrap64 (1 + tH)))]) (fun s_ w' => (w'.cell? ⟨gbA, 0, none⟩ = some (.int .i64 a0_0) ∧ w'.cell? ⟨gbA, 1, none⟩ = some (.int .i64 a0_1) ∧ w'.cell? ⟨gbA, 2, none⟩ = some (.int .i64 a0_2) ∧ w'.cell? ⟨gbA, 3, none⟩ = some (.int .i64 a0_3) ∧ w'.cell? ⟨gbA, 4, none⟩ = some (.int .i64 a0_4) ∧ w'.cell? ⟨gbA, 5, none⟩ = some (.int .i64 a0_5) ∧ w'.cell? ⟨gbA, 6, none⟩ = some (.slice A0_6 l0_6.length c0_6)) ∧ (w'.heap[gbA]? = some (.cells #[.int .i64 a0_0, .int .i64 a0_1, .int .i64 a0_2, .int .i64 a0_3, .int .i64 a0_4, .int .i64 a0_5, .slice A0_6 l0_6.length c0_6] 31 (0, 0))) ∧ (w'.heap[gbC]? = some (.cells #[.int .i64 0, .int .i64 0, .int .i64 0, .int .i64 0, .int .i64 0, .int .i64 0, .slice none 0 0] 31 (0, 0))) ∧ (w'.heap[s_]? = some (.cells #[.int .i64 0, .int .i64 0, .int .i64 0, .int .i64 0, .int .i64 0, .int .i64 0, .slice none 0 0] 31 (0, 0))) ∧ (w.heap.size ≤ s_) ∧ (w.heap.size ≤ s_) ∧ (gbA ≠ s_) ∧ (s_ ≠ gbA) ∧ (gbC ≠ s_) ∧ (s_ ≠ gbC) ∧ (Below w.heap.size w w')) ?_ ?_
   rotate_left
   ·intro hJ2_6_9_12_15_21
    refine join_ (σ := Unit) 5 #[true, true, true, true, true, true, true, true, true, true, true, true, true, true, true, true, true, true, false, false, false, false, false] (fun s_ => [(15, .int .i64 tH), (19, .int .i64 tI), (22, .int .i64 tK), (25, .int .i64 tL), (28, .int .i64 tM), (16, .int .i64 (wrap64 (1 + tH)))]) (fun s_ w' => (w'.cell? ⟨gbA, 0, none⟩ = some (.int .i64 a0_0) ∧ w'.cell? ⟨gbA, 1, none⟩ = some (.int .i64 a0_1) ∧ w'.cell? ⟨gbA, 2, none⟩ = some (.int .i64 a0_2) ∧ w'.cell? ⟨gbA, 3, none⟩ = some (.int .i64 a0_3) ∧ w'.cell? ⟨gbA, 4, none⟩ = some (.int .i64 a0_4) ∧ w'.cell? ⟨gbA, 5, none⟩ = some (.int .i64 a0_5) ∧ w'.cell? ⟨gbA, 6, none⟩ = some (.slice A0_6 l0_6.length c0_6)) ∧ (w'.heap[gbA]? = some (.cells #[.int .i64 a0_0, .int .i64 a0_1, .int .i64 a0_2, .int .i64 a0_3, .int .i64 a0_4, .int .i64 a0_5, .slice A0_6 l0_6.length c0_6] 31 (0, 0))) ∧ (w'.heap[gbC]? = some (.cells #[.int .i64 0, .int .i64 0, .int .i64 0, .int .i64 0, .int .i64 0, .int .i64 0, .slice none 0 0] 31 (0, 0))) ∧ (Below w.heap.size w w')) ?_ ?_
    rotate_left
    ·intro hJ2_6_9_12_15
     refine join_ (σ := Nat) 5 #[true, true, true, true, true, true, true, true, true, true, true, true, true, true, true, false, true, true, false, false, false, true, false] (fun s_ => [(15, .int .i64 tH), (19, .int .i64 tI), (22, .int .i64 tK), (25, .int .i64 tL), (5, .pointer (some ⟨s_, 0, none⟩)), (16, .int .i64 (wrap64 (1 + tH)))]) (fun s_ w' => (w'.cell? ⟨gbA, 0, none⟩ = some (.int .i64 a0_0) ∧ w'.cell? ⟨gbA, 1, none⟩ = some (.int .i64 a0_1) ∧ w'.cell? ⟨gbA, 2, none⟩ = some (.int .i64 a0_2) ∧ w'.cell? ⟨gbA, 3, none⟩ = some (.int .i64 a0_3) ∧ w'.cell? ⟨gbA, 4, none⟩ = some (.int .i64 a0_4) ∧ w'.cell? ⟨gbA, 5, none⟩ = some (.int .i64 a0_5) ∧ w'.cell? ⟨gbA, 6, none⟩ = some (.slice A0_6 l0_6.length c0_6)) ∧ (w'.heap[gbA]? = some (.cells #[.int .i64 a0_0, .int .i64 a0_1, .int .i64 a0_2, .int .i64 a0_3, .int .i64 a0_4, .int .i64 a0_5, .slice A0_6 l0_6.length c0_6] 31 (0, 0))) ∧ (w'.heap[gbC]? = some (.cells #[.int .i64 0, .int .i64 0, .int .i64 0, .int .i64 0, .int .i64 0, .int .i64 0, .slice none 0 0] 31 (0, 0))) ∧ (w'.heap[s_]? = some (.cells #[.int .i64 0, .int .i64 0, .int .i64 0, .int .i64 0, .int .i64 0, .int .i64 0, .slice none 0 0] 31 (0, 0))) ∧ (w.heap.size ≤ s_) ∧ (w.heap.size ≤ s_) ∧ (gbA ≠ s_) ∧ (s_ ≠ gbA) ∧ (gbC ≠ s_) ∧ (s_ ≠ gbC) ∧ (Below w.heap.size w w')) ?_ ?_
     rotate_left
     ·intro hJ2_6_9_12_21
      refine join_ (σ := Unit) 6 #[true, true, true, true, true, true, true, true, true, true, true, true, true, true, true, false, true, true, false, false, false, false, false] (fun s_ => [(15, .int .i64 tH), (19, .int .i64 tI), (22, .int .i64 tK), (25, .int .i64 tL), (16, .int .i64 (wrap64 (1 + tH)))]) (fun s_ w' => (w'.cell? ⟨gbA, 0, none⟩ = some (.int .i64 a0_0) ∧ w'.cell? ⟨gbA, 1, none⟩ = some (.int .i64 a0_1) ∧ w'.cell? ⟨gbA, 2, none⟩ = some (.int .i64 a0_2) ∧ w'.cell? ⟨gbA, 3, none⟩ = some (.int .i64 a0_3) ∧ w'.cell? ⟨gbA, 4, none⟩ = some (.int .i64 a0_4) ∧ w'.cell? ⟨gbA, 5, none⟩ = some (.int .i64 a0_5) ∧ w'.cell? ⟨gbA, 6, none⟩ = some (.slice A0_6 l0_6.length c0_6)) ∧ (w'.heap[gbA]? = some (.cells #[.int .i64 a0_0, .int .i64 a0_1, .int .i64 a0_2, .int .i64 a0_3, .int .i64 a0_4, .int .i64 a0_5, .slice A0_6 l0_6.length c0_6] 31 (0, 0))) ∧ (w'.heap[gbC]? = some (.cells #[.int .i64 0, .int .i64 0, .int .i64 0, .int .i64 0, .int .i64 0, .int .i64 0, .slice none 0 0] 31 (0, 0))) ∧ (Below w.heap.size w w')) ?_ ?_
      rotate_left
      ·intro hJ2_6_9_12
       refine join_ (σ := Nat) 6 #[true, true, true, true, true, true, true, true, true, true, true, true, false, true, true, false, true, true, false, false, false, true, false] (fun s_ => [(15, .int .i64 tH), (19, .int .i64 tI), (22, .int .i64 tK), (5, .pointer (some ⟨s_, 0, none⟩)), (16, .int .i64 (wrap64 (1 + tH)))]) (fun s_ w' => (w'.cell? ⟨gbA, 0, none⟩ = some (.int .i64 a0_0) ∧ w'.cell? ⟨gbA, 1, none⟩ = some (.int .i64 a0_1) ∧ w'.cell? ⟨gbA, 2, none⟩ = some (.int .i64 a0_2) ∧ w'.cell? ⟨gbA, 3, none⟩ = some (.int .i64 a0_3) ∧ w'.cell? ⟨gbA, 4, none⟩ = some (.int .i64 a0_4) ∧ w'.cell? ⟨gbA, 5, none⟩ = some (.int .i64 a0_5) ∧ w'.cell? ⟨gbA, 6, none⟩ = some (.slice A0_6 l0_6.length c0_6)) ∧ (w'.heap[gbA]? = some (.cells #[.int .i64 a0_0, .int .i64 a0_1, .int .i64 a0_2, .int .i64 a0_3, .int .i64 a0_4, .int .i64 a0_5, .slice A0_6 l0_6.length c0_6] 31 (0, 0))) ∧ (w'.heap[gbC]? = some (.cells #[.int .i64 0, .int .i64 0, .int .i64 0, .int .i64 0, .int .i64 0, .int .i64 0, .slice none 0 0] 31 (0, 0))) ∧ (w'.heap[s_]? = some (.cells #[.int .i64 0, .int .i64 0, .int .i64 0, .int .i64 0, .int .i64 0, .int .i64 0, .slice none 0 0] 31 (0, 0))) ∧ (w.heap.size ≤ s_) ∧ (w.heap.size ≤ s_) ∧ (gbA ≠ s_) ∧ (s_ ≠ gbA) ∧ (gbC ≠ s_) ∧ (s_ ≠ gbC) ∧ (Below w.heap.size w w')) ?_ ?_
       rotate_left
       ·intro hJ2_6_9_21
        refine join_ (σ := Unit) 7 #[true, true, true, true, true, true, true, true, true, true, true, true, false, true, true, false, true, true, false, false, false, false, false] (fun s_ => [(15, .int .i64 tH), (19, .int .i64 tI), (22, .int .i64 tK), (16, .int .i64 (wrap64 (1 + tH)))]) (fun s_ w' => (w'.cell? ⟨gbA, 0, none⟩ = some (.int .i64 a0_0) ∧ w'.cell? ⟨gbA, 1, none⟩ = some (.int .i64 a0_1) ∧ w'.cell? ⟨gbA, 2, none⟩ = some (.int .i64 a0_2) ∧ w'.cell? ⟨gbA, 3, none⟩ = some (.int .i64 a0_3) ∧ w'.cell? ⟨gbA, 4, none⟩ = some (.int .i64 a0_4) ∧ w'.cell? ⟨gbA, 5, none⟩ = some (.int .i64 a0_5) ∧ w'.cell? ⟨gbA, 6, none⟩ = some (.slice A0_6 l0_6.length c0_6)) ∧ (w'.heap[gbA]? = some (.cells #[.int .i64 a0_0, .int .i64 a0_1, .int .i64 a0_2, .int .i64 a0_3, .int .i64 a0_4, .int .i64 a0_5, .slice A0_6 l0_6.length c0_6] 31 (0, 0))) ∧ (w'.heap[gbC]? = some (.cells #[.int .i64 0, .int .i64 0, .int .i64 0, .int .i64 0, .int .i64 0, .int .i64 0, .slice none 0 0] 31 (0, 0))) ∧ (Below w.heap.size w w')) ?_ ?_
        rotate_left
        ·intro hJ2_6_9
         refine join_ (σ := Nat) 7 #[true, true, true, true, true, true, true, true, true, false, true, true, false, true, true, false, true, true, false, false, false, true, false] (fun s_ => [(15, .int .i64 tH), (19, .int .i64 tI), (5, .pointer (some ⟨s_, 0, none⟩)), (16, .int .i64 (wrap64 (1 + tH)))]) (fun s_ w' => (w'.cell? ⟨gbA, 0, none⟩ = some (.int .i64 a0_0) ∧ w'.cell? ⟨gbA, 1, none⟩ = some (.int .i64 a0_1) ∧ w'.cell? ⟨gbA, 2, none⟩ = some (.int .i64 a0_2) ∧ w'.cell? ⟨gbA, 3, none⟩ = some (.int .i64 a0_3) ∧ w'.cell? ⟨gbA, 4, none⟩ = some (.int .i64 a0_4) ∧ w'.cell? ⟨gbA, 5, none⟩ = some (.int .i64 a0_5) ∧ w'.cell? ⟨gbA, 6, none⟩ = some (.slice A0_6 l0_6.length c0_6)) ∧ (w'.heap[gbA]? = some (.cells #[.int .i64 a0_0, .int .i64 a0_1, .int .i64 a0_2, .int .i64 a0_3, .int .i64 a0_4, .int .i64 a0_5, .slice A0_6 l0_6.length c0_6] 31 (0, 0))) ∧ (w'.heap[gbC]? = some (.cells #[.int .i64 0, .int .i64 0, .int .i64 0, .int .i64 0, .int .i64 0, .int .i64 0, .slice none 0 0] 31 (0, 0))) ∧ (w'.heap[s_]? = some (.cells #[.int .i64 0, .int .i64 0, .int .i64 0, .int .i64 0, .int .i64 0, .int .i64 0, .slice none 0 0] 31 (0, 0))) ∧ (w.heap.size ≤ s_) ∧ (w.heap.size ≤ s_) ∧ (gbA ≠ s_) ∧ (s_ ≠ gbA) ∧ (gbC ≠ s_) ∧ (s_ ≠ gbC) ∧ (Below w.heap.size w w')) ?_ ?_
         rotate_left
         ·intro hJ2_6_21
          refine join_ (σ := Unit) 8 #[true, true, true, true, true, true, true, true, true, false, true, true, false, true, true, false, true, true, false, false, false, false, false] (fun s_ => [(15, .int .i64 tH), (19, .int .i64 tI), (16, .int .i64 (wrap64 (1 + tH)))]) (fun s_ w' => (w'.cell? ⟨gbA, 0, none⟩ = some (.int .i64 a0_0) ∧ w'.cell? ⟨gbA, 1, none⟩ = some (.int .i64 a0_1) ∧ w'.cell? ⟨gbA, 2, none⟩ = some (.int .i64 a0_2) ∧ w'.cell? ⟨gbA, 3, none⟩ = some (.int .i64 a0_3) ∧ w'.cell? ⟨gbA, 4, none⟩ = some (.int .i64 a0_4) ∧ w'.cell? ⟨gbA, 5, none⟩ = some (.int .i64 a0_5) ∧ w'.cell? ⟨gbA, 6, none⟩ = some (.slice A0_6 l0_6.length c0_6)) ∧ (w'.heap[gbA]? = some (.cells #[.int .i64 a0_0, .int .i64 a0_1, .int .i64 a0_2, .int .i64 a0_3, .int .i64 a0_4, .int .i64 a0_5, .slice A0_6 l0_6.length c0_6] 31 (0, 0))) ∧ (w'.heap[gbC]? = some (.cells #[.int .i64 0, .int .i64 0, .int .i64 0, .int .i64 0, .int .i64 0, .int .i64 0, .slice none 0 0] 31 (0, 0))) ∧ (Below w.heap.size w w')) ?_ ?_
          rotate_left
          ·intro hJ2_6
           refine join_ (σ := Nat) 8 #[true, true, true, true, true, true, false, true, true, false, true, true, false, true, true, false, true, true, false, false, false, true, false] (fun s_ => [(15, .int .i64 tH), (5, .pointer (some ⟨s_, 0, none⟩)), (16, .int .i64 (wrap64 (1 + tH)))]) (fun s_ w' => (w'.cell? ⟨gbA, 0, none⟩ = some (.int .i64 a0_0) ∧ w'.cell? ⟨gbA, 1, none⟩ = some (.int .i64 a0_1) ∧ w'.cell? ⟨gbA, 2, none⟩ = some (.int .i64 a0_2) ∧ w'.cell? ⟨gbA, 3, none⟩ = some (.int .i64 a0_3) ∧ w'.cell? ⟨gbA, 4, none⟩ = some (.int .i64 a0_4) ∧ w'.cell? ⟨gbA, 5, none⟩ = some (.int .i64 a0_5) ∧ w'.cell? ⟨gbA, 6, none⟩ = some (.slice A0_6 l0_6.length c0_6)) ∧ (w'.heap[gbA]? = some (.cells #[.int .i64 a0_0, .int .i64 a0_1, .int .i64 a0_2, .int .i64 a0_3, .int .i64 a0_4, .int .i64 a0_5, .slice A0_6 l0_6.length c0_6] 31 (0, 0))) ∧ (w'.heap[gbC]? = some (.cells #[.int .i64 0, .int .i64 0, .int .i64 0, .int .i64 0, .int .i64 0, .int .i64 0, .slice none 0 0] 31 (0, 0))) ∧ (w'.heap[s_]? = some (.cells #[.int .i64 0, .int .i64 0, .int .i64 0, .int .i64 0, .int .i64 0, .int .i64 0, .slice none 0 0] 31 (0, 0))) ∧ (w.heap.size ≤ s_) ∧ (w.heap.size ≤ s_) ∧ (gbA ≠ s_) ∧ (s_ ≠ gbA) ∧ (gbC ≠ s_) ∧ (s_ ≠ gbC) ∧ (Below w.heap.size w w')) ?_ ?_
           rotate_left
           ·intro hJ2_21
            refine join_ (σ := Unit) 9 #[true, true, true, true, true, true, false, true, true, false, true, true, false, true, true, false, true, true, false, false, false, false, false] (fun s_ => [(15, .int .i64 tH), (16, .int .i64 (wrap64 (1 + tH)))]) (fun s_ w' => (w'.cell? ⟨gbA, 0, none⟩ = some (.int .i64 a0_0) ∧ w'.cell? ⟨gbA, 1, none⟩ = some (.int .i64 a0_1) ∧ w'.cell? ⟨gbA, 2, none⟩ = some (.int .i64 a0_2) ∧ w'.cell? ⟨gbA, 3, none⟩ = some (.int .i64 a0_3) ∧ w'.cell? ⟨gbA, 4, none⟩ = some (.int .i64 a0_4) ∧ w'.cell? ⟨gbA, 5, none⟩ = some (.int .i64 a0_5) ∧ w'.cell? ⟨gbA, 6, none⟩ = some (.slice A0_6 l0_6.length c0_6)) ∧ (w'.heap[gbA]? = some (.cells #[.int .i64 a0_0, .int .i64 a0_1, .int .i64 a0_2, .int .i64 a0_3, .int .i64 a0_4, .int .i64 a0_5, .slice A0_6 l0_6.length c0_6] 31 (0, 0))) ∧ (w'.heap[gbC]? = some (.cells #[.int .i64 0, .int .i64 0, .int .i64 0, .int .i64 0, .int .i64 0, .int .i64 0, .slice none 0 0] 31 (0, 0))) ∧ (Below w.heap.size w w')) ?_ ?_
            rotate_left
            ·intro hJ2
             refine join_ (σ := Nat) 10 #[true, true, false, false, true, true, false, true, true, false, true, true, false, true, true, false, true, true, false, false, false, true, false] (fun s_ => [(5, .pointer (some ⟨s_, 0, none⟩))]) (fun s_ w' => (w'.cell? ⟨gbA, 0, none⟩ = some (.int .i64 a0_0) ∧ w'.cell? ⟨gbA, 1, none⟩ = some (.int .i64 a0_1) ∧ w'.cell? ⟨gbA, 2, none⟩ = some (.int .i64 a0_2) ∧ w'.cell? ⟨gbA, 3, none⟩ = some (.int .i64 a0_3) ∧ w'.cell? ⟨gbA, 4, none⟩ = some (.int .i64 a0_4) ∧ w'.cell? ⟨gbA, 5, none⟩ = some (.int .i64 a0_5) ∧ w'.cell? ⟨gbA, 6, none⟩ = some (.slice A0_6 l0_6.length c0_6)) ∧ (w'.heap[gbA]? = some (.cells #[.int .i64 a0_0, .int .i64 a0_1, .int .i64 a0_2, .int .i64 a0_3, .int .i64 a0_4, .int .i64 a0_5, .slice A0_6 l0_6.length c0_6] 31 (0, 0))) ∧ (w'.heap[gbC]? = some (.cells #[.int .i64 0, .int .i64 0, .int .i64 0, .int .i64 0, .int .i64 0, .int .i64 0, .slice none 0 0] 31 (0, 0))) ∧ (w'.heap[s_]? = some (.cells #[.int .i64 0, .int .i64 0, .int .i64 0, .int .i64 0, .int .i64 0, .int .i64 0, .slice none 0 0] 31 (0, 0))) ∧ (w.heap.size ≤ s_) ∧ (w.heap.size ≤ s_) ∧ (gbA ≠ s_) ∧ (s_ ≠ gbA) ∧ (gbC ≠ s_) ∧ (s_ ≠ gbC) ∧ (Below w.heap.size w w')) ?_ ?_
             rotate_left
             ·intro hJ21
              refine two_ (i := 2) (j := 21) (Ni := some 15) (Nj := some 5) #[true, true, true, false, true, true, false, true, true, false, true, true, false, true, true, false, true, true, false, false, false, false, false] #[true, true, false, false, true, true, false, true, true, false, true, true, false, true, true, false, true, true, false, false, false, true, false] rfl rfl rfl rfl (two_of HT_.out (by kernel_rfl)) (by decide) (by decide) (fun K hK => ?_) (fun K hK => ?_)
              ·skip
               refine goes_ Tryd.func36 (by kernel_rfl) rfl #[.int .i64 a0_0, .int .i64 2] (by rfl) rfl rfl (by (try simp only [List.map_toArray, List.map_cons, List.map_nil]); first | done | rfl | (simp only [List.length_drop, List.length_take]; rfl)) ?_
               with_reducible refine (billetlaw16_pick.calls a0_0 2 tH _ A3.out).mono ?_
               rintro e w' ⟨rfl, ⟨nd, rfl⟩⟩
               refine ⟨_, rfl, ?_⟩
               refine hK.out _ _ ⟨(blk_cell BKA.out 0).trans rfl, (blk_cell BKA.out 1).trans rfl, (blk_cell BKA.out 2).trans rfl, (blk_cell BKA.out 3).trans rfl, (blk_cell BKA.out 4).trans rfl, (blk_cell BKA.out 5).trans rfl, (blk_cell BKA.out 6).trans rfl⟩ (fun hHeld => ?_)
               clear hK K
               refine norm_ (a' := ?_) ?_ ?_
               rotate_left
               ·show Act.put _ (some 15) _ = _
                simp only [Act.put, List.setIfInBounds_toArray, List.set_cons_zero, List.set_cons_succ, i64_w, i32_w]
                rfl
               refine pure_ (i := 3) (N := some 16) (v := ?_) (a' := ?_) #[true, true, true, true, true, true, false, true, true, false, true, true, false, true, true, false, true, true, false, false, false, false, false] rfl rfl (any_of HT_.out (by kernel_rfl)) (fun _ _ _ h => h) (Or.inl ⟨by rfl, ?_⟩) ?_ ?_
               rotate_left
               ·intro w'
                go_simp
                with_reducible rfl
               rotate_left
               ·simp only [Act.put, List.setIfInBounds_toArray, List.set_cons_zero, List.set_cons_succ, i64_w, i32_w]
                rfl
               exact norm_ (by first | (simp only [putAll, Act.put, List.setIfInBounds_toArray, List.set_cons_zero, List.set_cons_succ]; done) | (simp only [putAll, Act.put, List.setIfInBounds_toArray, List.set_cons_zero, List.set_cons_succ]; rfl)) (hJ2 () _ ⟨hHeld, (by (with_reducible repeat (first | refine blk_drewN ?_ _ | refine blk_drew ?_ | refine blk_alloc ?_ _)); exact BKA.out), (by (with_reducible repeat (first | refine blk_drewN ?_ _ | refine blk_drew ?_ | refine blk_alloc ?_ _)); exact BKC.out), (by repeat (first | (with_reducible first | exact HB.out | apply below_alloc | apply pw_below_drewN | apply below_drew1 | refine below_set ?_ GEA.out | refine below_set ?_ GEC.out) | exact HB.out))⟩)
              ·skip
               refine box_step ?hg (N := 5) ?hd (cs := #[.int .i64 0, .int .i64 0, .int .i64 0, .int .i64 0, .int .i64 0, .int .i64 0, .slice none 0 0]) (t := 31) ?hr ?_; (case hd => rfl); (case hg => rfl); (case hr => first | (go_simp; done) | (go_simp; rfl))
               intro gbB hg w13 hbox hb
               have n0_ := Aside0.mk (blk_below (g := gbA) (o := .cells #[.int .i64 a0_0, .int .i64 a0_1, .int .i64 a0_2, .int .i64 a0_3, .int .i64 a0_4, .int .i64 a0_5, .slice A0_6 l0_6.length c0_6] 31 (0, 0)) (by (with_reducible repeat (first | refine blk_drewN ?_ _ | refine blk_drew ?_ | refine blk_alloc ?_ _)); exact BKA.out) hb)
               have n1_ := Aside0.mk (blk_below (g := gbC) (o := .cells #[.int .i64 0, .int .i64 0, .int .i64 0, .int .i64 0, .int .i64 0, .int .i64 0, .slice none 0 0] 31 (0, 0)) (by (with_reducible repeat (first | refine blk_drewN ?_ _ | refine blk_drew ?_ | refine blk_alloc ?_ _)); exact BKC.out) hb)
               have n2_ := Aside0.mk (below_step (by repeat (first | (with_reducible first | exact HB.out | apply below_alloc | apply pw_below_drewN | apply below_drew1 | refine below_set ?_ GEA.out | refine below_set ?_ GEC.out) | exact HB.out)) hb)
               have n3_ := Aside0.mk (hbox)
               have n4_ := Aside0.mk ((by rw [hg]; exact (below_size (by repeat (first | (with_reducible first | exact HB.out | apply below_alloc | apply pw_below_drewN | apply below_drew1 | refine below_set ?_ GEA.out | refine below_set ?_ GEC.out) | exact HB.out))) : w.heap.size ≤ gbB))
               have n5_ := Aside0.mk ((by rw [hg]; exact (below_size (by repeat (first | (with_reducible first | exact HB.out | apply below_alloc | apply pw_below_drewN | apply below_drew1 | refine below_set ?_ GEA.out | refine below_set ?_ GEC.out) | exact HB.out))) : w.heap.size ≤ gbB))
               have n6_ := Aside0.mk ((by rw [hg]; exact Nat.ne_of_lt (blk_lt (g := gbA) (o := .cells #[.int .i64 a0_0, .int .i64 a0_1, .int .i64 a0_2, .int .i64 a0_3, .int .i64 a0_4, .int .i64 a0_5, .slice A0_6 l0_6.length c0_6] 31 (0, 0)) (by (with_reducible repeat (first | refine blk_drewN ?_ _ | refine blk_drew ?_ | refine blk_alloc ?_ _)); exact BKA.out)) : gbA ≠ gbB))
               have n7_ := Aside0.mk ((by rw [hg]; exact Nat.ne_of_gt (blk_lt (g := gbA) (o := .cells #[.int .i64 a0_0, .int .i64 a0_1, .int .i64 a0_2, .int .i64 a0_3, .int .i64 a0_4, .int .i64 a0_5, .slice A0_6 l0_6.length c0_6] 31 (0, 0)) (by (with_reducible repeat (first | refine blk_drewN ?_ _ | refine blk_drew ?_ | refine blk_alloc ?_ _)); exact BKA.out)) : gbB ≠ gbA))
               have n8_ := Aside0.mk ((by rw [hg]; exact Nat.ne_of_lt (blk_lt (g := gbC) (o := .cells #[.int .i64 0, .int .i64 0, .int .i64 0, .int .i64 0, .int .i64 0, .int .i64 0, .slice none 0 0] 31 (0, 0)) (by (with_reducible repeat (first | refine blk_drewN ?_ _ | refine blk_drew ?_ | refine blk_alloc ?_ _)); exact BKC.out)) : gbC ≠ gbB))
               have n9_ := Aside0.mk ((by rw [hg]; exact Nat.ne_of_gt (blk_lt (g := gbC) (o := .cells #[.int .i64 0, .int .i64 0, .int .i64 0, .int .i64 0, .int .i64 0, .int .i64 0, .slice none 0 0] 31 (0, 0)) (by (with_reducible repeat (first | refine blk_drewN ?_ _ | refine blk_drew ?_ | refine blk_alloc ?_ _)); exact BKC.out)) : gbB ≠ gbC))
               clear BKA
               clear BKC
               clear HB
               have BKA := n0_
               have BKC := n1_
               have HB := n2_
               have BKB := n3_
               have GWB := n4_
               have GEB := n5_
               have NBA_B := n6_
               have NBB_A := n7_
               have NBC_B := n8_
               have NBB_C := n9_
               clear n0_ n1_ n2_ n3_ n4_ n5_ n6_ n7_ n8_ n9_
               clear hb hbox hg
               refine hK.out _ _ ⟨(blk_cell BKA.out 0).trans rfl, (blk_cell BKA.out 1).trans rfl, (blk_cell BKA.out 2).trans rfl, (blk_cell BKA.out 3).trans rfl, (blk_cell BKA.out 4).trans rfl, (blk_cell BKA.out 5).trans rfl, (blk_cell BKA.out 6).trans rfl⟩ (fun hHeld => ?_)
               clear hK K
               refine norm_ (a' := ?_) ?_ ?_
               rotate_left
               ·show Act.put _ (some 5) _ = _
                simp only [Act.put, List.setIfInBounds_toArray, List.set_cons_zero, List.set_cons_succ, i64_w, i32_w]
                rfl
               exact norm_ (by first | (simp only [putAll, Act.put, List.setIfInBounds_toArray, List.set_cons_zero, List.set_cons_succ]; done) | (simp only [putAll, Act.put, List.setIfInBounds_toArray, List.set_cons_zero, List.set_cons_succ]; rfl)) (hJ21 (gbB) _ ⟨hHeld, (by (with_reducible repeat (first | refine blk_drewN ?_ _ | refine blk_drew ?_ | refine blk_alloc ?_ _)); exact BKA.out), (by (with_reducible repeat (first | refine blk_drewN ?_ _ | refine blk_drew ?_ | refine blk_alloc ?_ _)); exact BKC.out), (by (with_reducible repeat (first | refine blk_drewN ?_ _ | refine blk_drew ?_ | refine blk_alloc ?_ _)); exact BKB.out), GWB.out, GEB.out, NBA_B.out, NBB_A.out, NBC_B.out, NBB_C.out, (by repeat (first | (with_reducible first | exact HB.out | apply below_alloc | apply pw_below_drewN | apply below_drew1 | refine below_set ?_ GEA.out | refine below_set ?_ GEC.out | refine below_set ?_ GEB.out) | exact HB.out))⟩)
             ·skip
              rintro gbB w14 ⟨hS_, h0_, h1_, h2_, h3_, h4_, h5_, h6_, h7_, h8_, h9_⟩
              have n0_ : Aside0 (w14.heap[gbA]? = some (.cells #[.int .i64 a0_0, .int .i64 a0_1, .int .i64 a0_2, .int .i64 a0_3, .int .i64 a0_4, .int .i64 a0_5, .slice A0_6 l0_6.length c0_6] 31 (0, 0))) := ⟨h0_⟩
              have n1_ : Aside0 (w14.heap[gbC]? = some (.cells #[.int .i64 0, .int .i64 0, .int .i64 0, .int .i64 0, .int .i64 0, .int .i64 0, .slice none 0 0] 31 (0, 0))) := ⟨h1_⟩
              have n2_ : Aside0 (w14.heap[gbB]? = some (.cells #[.int .i64 0, .int .i64 0, .int .i64 0, .int .i64 0, .int .i64 0, .int .i64 0, .slice none 0 0] 31 (0, 0))) := ⟨h2_⟩
              have n3_ : Aside0 (w.heap.size ≤ gbB) := ⟨h3_⟩
              have n4_ : Aside0 (w.heap.size ≤ gbB) := ⟨h4_⟩
              have n5_ : Aside0 (gbA ≠ gbB) := ⟨h5_⟩
              have n6_ : Aside0 (gbB ≠ gbA) := ⟨h6_⟩
              have n7_ : Aside0 (gbC ≠ gbB) := ⟨h7_⟩
              have n8_ : Aside0 (gbB ≠ gbC) := ⟨h8_⟩
              have n9_ : Aside0 (Below w.heap.size w w14) := ⟨h9_⟩
              clear BKA
              clear BKC
              clear HB
              clear h0_ h1_ h2_ h3_ h4_ h5_ h6_ h7_ h8_ h9_
              have BKA := n0_
              have BKC := n1_
              have BKB := n2_
              have GWB := n3_
              have GEB := n4_
              have NBA_B := n5_
              have NBB_A := n6_
              have NBC_B := n7_
              have NBB_C := n8_
              have HB := n9_
              clear n0_ n1_ n2_ n3_ n4_ n5_ n6_ n7_ n8_ n9_
              have hHeld : w14.cell? ⟨gbA, 0, none⟩ = some (.int .i64 a0_0) ∧ w14.cell? ⟨gbA, 1, none⟩ = some (.int .i64 a0_1) ∧ w14.cell? ⟨gbA, 2, none⟩ = some (.int .i64 a0_2) ∧ w14.cell? ⟨gbA, 3, none⟩ = some (.int .i64 a0_3) ∧ w14.cell? ⟨gbA, 4, none⟩ = some (.int .i64 a0_4) ∧ w14.cell? ⟨gbA, 5, none⟩ = some (.int .i64 a0_5) ∧ w14.cell? ⟨gbA, 6, none⟩ = some (.slice A0_6 l0_6.length c0_6) := hS_
              refine norm_ (a' := ?_) ?_ ?_
              rotate_left
              ·simp only [putAll, Act.put, List.setIfInBounds_toArray, List.set_cons_zero, List.set_cons_succ]
               rfl
              refine one_ (i := 2) (N := some 15) #[true, true, true, false, true, true, false, true, true, false, true, true, false, true, true, false, true, true, false, false, false, true, false] rfl rfl (one_of HT_.out (by kernel_rfl)) (by decide) (fun K hK => ?_)
              refine goes_ Tryd.func36 (by kernel_rfl) rfl #[.int .i64 a0_0, .int .i64 2] (by rfl) rfl rfl (by (try simp only [List.map_toArray, List.map_cons, List.map_nil]); first | done | rfl | (simp only [List.length_drop, List.length_take]; rfl)) ?_
              with_reducible refine (billetlaw16_pick.calls a0_0 2 tH _ A3.out).mono ?_
              rintro e w' ⟨rfl, ⟨nd, rfl⟩⟩
              refine ⟨_, rfl, ?_⟩
              refine hK.out _ _ ⟨(blk_cell BKA.out 0).trans rfl, (blk_cell BKA.out 1).trans rfl, (blk_cell BKA.out 2).trans rfl, (blk_cell BKA.out 3).trans rfl, (blk_cell BKA.out 4).trans rfl, (blk_cell BKA.out 5).trans rfl, (blk_cell BKA.out 6).trans rfl⟩ (fun hHeld => ?_)
              clear hK K
              refine norm_ (a' := ?_) ?_ ?_
              rotate_left
              ·show Act.put _ (some 15) _ = _
               simp only [Act.put, List.setIfInBounds_toArray, List.set_cons_zero, List.set_cons_succ, i64_w, i32_w]
               rfl
              refine pure_ (i := 3) (N := some 16) (v := ?_) (a' := ?_) #[true, true, true, true, true, true, false, true, true, false, true, true, false, true, true, false, true, true, false, false, false, true, false] rfl rfl (any_of HT_.out (by kernel_rfl)) (fun _ _ _ h => h) (Or.inl ⟨by rfl, ?_⟩) ?_ ?_
              rotate_left
              ·intro w'
               go_simp
               with_reducible rfl
              rotate_left
              ·simp only [Act.put, List.setIfInBounds_toArray, List.set_cons_zero, List.set_cons_succ, i64_w, i32_w]
               rfl
              exact norm_ (by first | (simp only [putAll, Act.put, List.setIfInBounds_toArray, List.set_cons_zero, List.set_cons_succ]; done) | (simp only [putAll, Act.put, List.setIfInBounds_toArray, List.set_cons_zero, List.set_cons_succ]; rfl)) (hJ2_21 (gbB) _ ⟨hHeld, (by (with_reducible repeat (first | refine blk_drewN ?_ _ | refine blk_drew ?_ | refine blk_alloc ?_ _)); exact BKA.out), (by (with_reducible repeat (first | refine blk_drewN ?_ _ | refine blk_drew ?_ | refine blk_alloc ?_ _)); exact BKC.out), (by (with_reducible repeat (first | refine blk_drewN ?_ _ | refine blk_drew ?_ | refine blk_alloc ?_ _)); exact BKB.out), GWB.out, GEB.out, NBA_B.out, NBB_A.out, NBC_B.out, NBB_C.out, (by repeat (first | (with_reducible first | exact HB.out | apply below_alloc | apply pw_below_drewN | apply below_drew1 | refine below_set ?_ GEA.out | refine below_set ?_ GEC.out | refine below_set ?_ GEB.out) | exact HB.out))⟩)
            ·skip
             rintro _ w13 ⟨hS_, h0_, h1_, h2_⟩
             have n0_ : Aside0 (w13.heap[gbA]? = some (.cells #[.int .i64 a0_0, .int .i64 a0_1, .int .i64 a0_2, .int .i64 a0_3, .int .i64 a0_4, .int .i64 a0_5, .slice A0_6 l0_6.length c0_6] 31 (0, 0))) := ⟨h0_⟩
             have n1_ : Aside0 (w13.heap[gbC]? = some (.cells #[.int .i64 0, .int .i64 0, .int .i64 0, .int .i64 0, .int .i64 0, .int .i64 0, .slice none 0 0] 31 (0, 0))) := ⟨h1_⟩
             have n2_ : Aside0 (Below w.heap.size w w13) := ⟨h2_⟩
             clear BKA
             clear BKC
             clear HB
             clear h0_ h1_ h2_
             have BKA := n0_
             have BKC := n1_
             have HB := n2_
             clear n0_ n1_ n2_
             have hHeld : w13.cell? ⟨gbA, 0, none⟩ = some (.int .i64 a0_0) ∧ w13.cell? ⟨gbA, 1, none⟩ = some (.int .i64 a0_1) ∧ w13.cell? ⟨gbA, 2, none⟩ = some (.int .i64 a0_2) ∧ w13.cell? ⟨gbA, 3, none⟩ = some (.int .i64 a0_3) ∧ w13.cell? ⟨gbA, 4, none⟩ = some (.int .i64 a0_4) ∧ w13.cell? ⟨gbA, 5, none⟩ = some (.int .i64 a0_5) ∧ w13.cell? ⟨gbA, 6, none⟩ = some (.slice A0_6 l0_6.length c0_6) := hS_
             refine norm_ (a' := ?_) ?_ ?_
             rotate_left
             ·simp only [putAll, Act.put, List.setIfInBounds_toArray, List.set_cons_zero, List.set_cons_succ]
              rfl
             refine two_ (i := 6) (j := 21) (Ni := some 19) (Nj := some 5) #[true, true, true, true, true, true, true, true, true, false, true, true, false, true, true, false, true, true, false, false, false, false, false] #[true, true, true, true, true, true, false, true, true, false, true, true, false, true, true, false, true, true, false, false, false, true, false] rfl rfl rfl rfl (two_of HT_.out (by kernel_rfl)) (by decide) (by decide) (fun K hK => ?_) (fun K hK => ?_)
             ·skip
              refine goes_ Tryd.func36 (by kernel_rfl) rfl #[.int .i64 a0_1, .int .i64 3] (by rfl) rfl rfl (by (try simp only [List.map_toArray, List.map_cons, List.map_nil]); first | done | rfl | (simp only [List.length_drop, List.length_take]; rfl)) ?_
              with_reducible refine (billetlaw16_pick.calls a0_1 3 tI _ A4.out).mono ?_
              rintro e w' ⟨rfl, ⟨nd, rfl⟩⟩
              refine ⟨_, rfl, ?_⟩
              refine hK.out _ _ ⟨(blk_cell BKA.out 0).trans rfl, (blk_cell BKA.out 1).trans rfl, (blk_cell BKA.out 2).trans rfl, (blk_cell BKA.out 3).trans rfl, (blk_cell BKA.out 4).trans rfl, (blk_cell BKA.out 5).trans rfl, (blk_cell BKA.out 6).trans rfl⟩ (fun hHeld => ?_)
              clear hK K
              refine norm_ (a' := ?_) ?_ ?_
              rotate_left
              ·show Act.put _ (some 19) _ = _
               simp only [Act.put, List.setIfInBounds_toArray, List.set_cons_zero, List.set_cons_succ, i64_w, i32_w]
               rfl
              exact norm_ (by first | (simp only [putAll, Act.put, List.setIfInBounds_toArray, List.set_cons_zero, List.set_cons_succ]; done) | (simp only [putAll, Act.put, List.setIfInBounds_toArray, List.set_cons_zero, List.set_cons_succ]; rfl)) (hJ2_6 () _ ⟨hHeld, (by (with_reducible repeat (first | refine blk_drewN ?_ _ | refine blk_drew ?_ | refine blk_alloc ?_ _)); exact BKA.out), (by (with_reducible repeat (first | refine blk_drewN ?_ _ | refine blk_drew ?_ | refine blk_alloc ?_ _)); exact BKC.out), (by repeat (first | (with_reducible first | exact HB.out | apply below_alloc | apply pw_below_drewN | apply below_drew1 | refine below_set ?_ GEA.out | refine below_set ?_ GEC.out) | exact HB.out))⟩)
             ·skip
              refine box_step ?hg (N := 5) ?hd (cs := #[.int .i64 0, .int .i64 0, .int .i64 0, .int .i64 0, .int .i64 0, .int .i64 0, .slice none 0 0]) (t := 31) ?hr ?_; (case hd => rfl); (case hg => rfl); (case hr => first | (go_simp; done) | (go_simp; rfl))
              intro gbB hg w14 hbox hb
              have n0_ := Aside0.mk (blk_below (g := gbA) (o := .cells #[.int .i64 a0_0, .int .i64 a0_1, .int .i64 a0_2, .int .i64 a0_3, .int .i64 a0_4, .int .i64 a0_5, .slice A0_6 l0_6.length c0_6] 31 (0, 0)) (by (with_reducible repeat (first | refine blk_drewN ?_ _ | refine blk_drew ?_ | refine blk_alloc ?_ _)); exact BKA.out) hb)
              have n1_ := Aside0.mk (blk_below (g := gbC) (o := .cells #[.int .i64 0, .int .i64 0, .int .i64 0, .int .i64 0, .int .i64 0, .int .i64 0, .slice none 0 0] 31 (0, 0)) (by (with_reducible repeat (first | refine blk_drewN ?_ _ | refine blk_drew ?_ | refine blk_alloc ?_ _)); exact BKC.out) hb)
              have n2_ := Aside0.mk (below_step (by repeat (first | (with_reducible first | exact HB.out | apply below_alloc | apply pw_below_drewN | apply below_drew1 | refine below_set ?_ GEA.out | refine below_set ?_ GEC.out) | exact HB.out)) hb)
              have n3_ := Aside0.mk (hbox)
              have n4_ := Aside0.mk ((by rw [hg]; exact (below_size (by repeat (first | (with_reducible first | exact HB.out | apply below_alloc | apply pw_below_drewN | apply below_drew1 | refine below_set ?_ GEA.out | refine below_set ?_ GEC.out) | exact HB.out))) : w.heap.size ≤ gbB))
              have n5_ := Aside0.mk ((by rw [hg]; exact (below_size (by repeat (first | (with_reducible first | exact HB.out | apply below_alloc | apply pw_below_drewN | apply below_drew1 | refine below_set ?_ GEA.out | refine below_set ?_ GEC.out) | exact HB.out))) : w.heap.size ≤ gbB))
              have n6_ := Aside0.mk ((by rw [hg]; exact Nat.ne_of_lt (blk_lt (g := gbA) (o := .cells #[.int .i64 a0_0, .int .i64 a0_1, .int .i64 a0_2, .int .i64 a0_3, .int .i64 a0_4, .int .i64 a0_5, .slice A0_6 l0_6.length c0_6] 31 (0, 0)) (by (with_reducible repeat (first | refine blk_drewN ?_ _ | refine blk_drew ?_ | refine blk_alloc ?_ _)); exact BKA.out)) : gbA ≠ gbB))
              have n7_ := Aside0.mk ((by rw [hg]; exact Nat.ne_of_gt (blk_lt (g := gbA) (o := .cells #[.int .i64 a0_0, .int .i64 a0_1, .int .i64 a0_2, .int .i64 a0_3, .int .i64 a0_4, .int .i64 a0_5, .slice A0_6 l0_6.length c0_6] 31 (0, 0)) (by (with_reducible repeat (first | refine blk_drewN ?_ _ | refine blk_drew ?_ | refine blk_alloc ?_ _)); exact BKA.out)) : gbB ≠ gbA))
              have n8_ := Aside0.mk ((by rw [hg]; exact Nat.ne_of_lt (blk_lt (g := gbC) (o := .cells #[.int .i64 0, .int .i64 0, .int .i64 0, .int .i64 0, .int .i64 0, .int .i64 0, .slice none 0 0] 31 (0, 0)) (by (with_reducible repeat (first | refine blk_drewN ?_ _ | refine blk_drew ?_ | refine blk_alloc ?_ _)); exact BKC.out)) : gbC ≠ gbB))
              have n9_ := Aside0.mk ((by rw [hg]; exact Nat.ne_of_gt (blk_lt (g := gbC) (o := .cells #[.int .i64 0, .int .i64 0, .int .i64 0, .int .i64 0, .int .i64 0, .int .i64 0, .slice none 0 0] 31 (0, 0)) (by (with_reducible repeat (first | refine blk_drewN ?_ _ | refine blk_drew ?_ | refine blk_alloc ?_ _)); exact BKC.out)) : gbB ≠ gbC))
              clear BKA
              clear BKC
              clear HB
              have BKA := n0_
              have BKC := n1_
              have HB := n2_
              have BKB := n3_
              have GWB := n4_
              have GEB := n5_
              have NBA_B := n6_
              have NBB_A := n7_
              have NBC_B := n8_
              have NBB_C := n9_
              clear n0_ n1_ n2_ n3_ n4_ n5_ n6_ n7_ n8_ n9_
              clear hb hbox hg
              refine hK.out _ _ ⟨(blk_cell BKA.out 0).trans rfl, (blk_cell BKA.out 1).trans rfl, (blk_cell BKA.out 2).trans rfl, (blk_cell BKA.out 3).trans rfl, (blk_cell BKA.out 4).trans rfl, (blk_cell BKA.out 5).trans rfl, (blk_cell BKA.out 6).trans rfl⟩ (fun hHeld => ?_)
              clear hK K
              refine norm_ (a' := ?_) ?_ ?_
              rotate_left
              ·show Act.put _ (some 5) _ = _
               simp only [Act.put, List.setIfInBounds_toArray, List.set_cons_zero, List.set_cons_succ, i64_w, i32_w]
               rfl
              exact norm_ (by first | (simp only [putAll, Act.put, List.setIfInBounds_toArray, List.set_cons_zero, List.set_cons_succ]; done) | (simp only [putAll, Act.put, List.setIfInBounds_toArray, List.set_cons_zero, List.set_cons_succ]; rfl)) (hJ2_21 (gbB) _ ⟨hHeld, (by (with_reducible repeat (first | refine blk_drewN ?_ _ | refine blk_drew ?_ | refine blk_alloc ?_ _)); exact BKA.out), (by (with_reducible repeat (first | refine blk_drewN ?_ _ | refine blk_drew ?_ | refine blk_alloc ?_ _)); exact BKC.out), (by (with_reducible repeat (first | refine blk_drewN ?_ _ | refine blk_drew ?_ | refine blk_alloc ?_ _)); exact BKB.out), GWB.out, GEB.out, NBA_B.out, NBB_A.out, NBC_B.out, NBB_C.out, (by repeat (first | (with_reducible first | exact HB.out | apply below_alloc | apply pw_below_drewN | apply below_drew1 | refine below_set ?_ GEA.out | refine below_set ?_ GEC.out | refine below_set ?_ GEB.out) | exact HB.out))⟩)
           ·skip
            rintro gbB w14 ⟨hS_, h0_, h1_, h2_, h3_, h4_, h5_, h6_, h7_, h8_, h9_⟩
            have n0_ : Aside0 (w14.heap[gbA]? = some (.cells #[.int .i64 a0_0, .int .i64 a0_1, .int .i64 a0_2, .int .i64 a0_3, .int .i64 a0_4, .int .i64 a0_5, .slice A0_6 l0_6.length c0_6] 31 (0, 0))) := ⟨h0_⟩
            have n1_ : Aside0 (w14.heap[gbC]? = some (.cells #[.int .i64 0, .int .i64 0, .int .i64 0, .int .i64 0, .int .i64 0, .int .i64 0, .slice none 0 0] 31 (0, 0))) := ⟨h1_⟩
            have n2_ : Aside0 (w14.heap[gbB]? = some (.cells #[.int .i64 0, .int .i64 0, .int .i64 0, .int .i64 0, .int .i64 0, .int .i64 0, .slice none 0 0] 31 (0, 0))) := ⟨h2_⟩
            have n3_ : Aside0 (w.heap.size ≤ gbB) := ⟨h3_⟩
            have n4_ : Aside0 (w.heap.size ≤ gbB) := ⟨h4_⟩
            have n5_ : Aside0 (gbA ≠ gbB) := ⟨h5_⟩
            have n6_ : Aside0 (gbB ≠ gbA) := ⟨h6_⟩
            have n7_ : Aside0 (gbC ≠ gbB) := ⟨h7_⟩
            have n8_ : Aside0 (gbB ≠ gbC) := ⟨h8_⟩
            have n9_ : Aside0 (Below w.heap.size w w14) := ⟨h9_⟩
            clear BKA
            clear BKC
            clear HB
            clear h0_ h1_ h2_ h3_ h4_ h5_ h6_ h7_ h8_ h9_
            have BKA := n0_
            have BKC := n1_
            have BKB := n2_
            have GWB := n3_
            have GEB := n4_
            have NBA_B := n5_
            have NBB_A := n6_
            have NBC_B := n7_
            have NBB_C := n8_
            have HB := n9_
            clear n0_ n1_ n2_ n3_ n4_ n5_ n6_ n7_ n8_ n9_
            have hHeld : w14.cell? ⟨gbA, 0, none⟩ = some (.int .i64 a0_0) ∧ w14.cell? ⟨gbA, 1, none⟩ = some (.int .i64 a0_1) ∧ w14.cell? ⟨gbA, 2, none⟩ = some (.int .i64 a0_2) ∧ w14.cell? ⟨gbA, 3, none⟩ = some (.int .i64 a0_3) ∧ w14.cell? ⟨gbA, 4, none⟩ = some (.int .i64 a0_4) ∧ w14.cell? ⟨gbA, 5, none⟩ = some (.int .i64 a0_5) ∧ w14.cell? ⟨gbA, 6, none⟩ = some (.slice A0_6 l0_6.length c0_6) := hS_
            refine norm_ (a' := ?_) ?_ ?_
            rotate_left
            ·simp only [putAll, Act.put, List.setIfInBounds_toArray, List.set_cons_zero, List.set_cons_succ]
             rfl
            refine one_ (i := 6) (N := some 19) #[true, true, true, true, true, true, true, true, true, false, true, true, false, true, true, false, true, true, false, false, false, true, false] rfl rfl (one_of HT_.out (by kernel_rfl)) (by decide) (fun K hK => ?_)
            refine goes_ Tryd.func36 (by kernel_rfl) rfl #[.int .i64 a0_1, .int .i64 3] (by rfl) rfl rfl (by (try simp only [List.map_toArray, List.map_cons, List.map_nil]); first | done | rfl | (simp only [List.length_drop, List.length_take]; rfl)) ?_
            with_reducible refine (billetlaw16_pick.calls a0_1 3 tI _ A4.out).mono ?_
            rintro e w' ⟨rfl, ⟨nd, rfl⟩⟩
            refine ⟨_, rfl, ?_⟩
            refine hK.out _ _ ⟨(blk_cell BKA.out 0).trans rfl, (blk_cell BKA.out 1).trans rfl, (blk_cell BKA.out 2).trans rfl, (blk_cell BKA.out 3).trans rfl, (blk_cell BKA.out 4).trans rfl, (blk_cell BKA.out 5).trans rfl, (blk_cell BKA.out 6).trans rfl⟩ (fun hHeld => ?_)
            clear hK K
            refine norm_ (a' := ?_) ?_ ?_
            rotate_left
            ·show Act.put _ (some 19) _ = _
             simp only [Act.put, List.setIfInBounds_toArray, List.set_cons_zero, List.set_cons_succ, i64_w, i32_w]
             rfl
            exact norm_ (by first | (simp only [putAll, Act.put, List.setIfInBounds_toArray, List.set_cons_zero, List.set_cons_succ]; done) | (simp only [putAll, Act.put, List.setIfInBounds_toArray, List.set_cons_zero, List.set_cons_succ]; rfl)) (hJ2_6_21 (gbB) _ ⟨hHeld, (by (with_reducible repeat (first | refine blk_drewN ?_ _ | refine blk_drew ?_ | refine blk_alloc ?_ _)); exact BKA.out), (by (with_reducible repeat (first | refine blk_drewN ?_ _ | refine blk_drew ?_ | refine blk_alloc ?_ _)); exact BKC.out), (by (with_reducible repeat (first | refine blk_drewN ?_ _ | refine blk_drew ?_ | refine blk_alloc ?_ _)); exact BKB.out), GWB.out, GEB.out, NBA_B.out, NBB_A.out, NBC_B.out, NBB_C.out, (by repeat (first | (with_reducible first | exact HB.out | apply below_alloc | apply pw_below_drewN | apply below_drew1 | refine below_set ?_ GEA.out | refine below_set ?_ GEC.out | refine below_set ?_ GEB.out) | exact HB.out))⟩)
          ·skip
           rintro _ w13 ⟨hS_, h0_, h1_, h2_⟩
           have n0_ : Aside0 (w13.heap[gbA]? = some (.cells #[.int .i64 a0_0, .int .i64 a0_1, .int .i64 a0_2, .int .i64 a0_3, .int .i64 a0_4, .int .i64 a0_5, .slice A0_6 l0_6.length c0_6] 31 (0, 0))) := ⟨h0_⟩
           have n1_ : Aside0 (w13.heap[gbC]? = some (.cells #[.int .i64 0, .int .i64 0, .int .i64 0, .int .i64 0, .int .i64 0, .int .i64 0, .slice none 0 0] 31 (0, 0))) := ⟨h1_⟩
           have n2_ : Aside0 (Below w.heap.size w w13) := ⟨h2_⟩
           clear BKA
           clear BKC
           clear HB
           clear h0_ h1_ h2_
           have BKA := n0_
           have BKC := n1_
           have HB := n2_
           clear n0_ n1_ n2_
           have hHeld : w13.cell? ⟨gbA, 0, none⟩ = some (.int .i64 a0_0) ∧ w13.cell? ⟨gbA, 1, none⟩ = some (.int .i64 a0_1) ∧ w13.cell? ⟨gbA, 2, none⟩ = some (.int .i64 a0_2) ∧ w13.cell? ⟨gbA, 3, none⟩ = some (.int .i64 a0_3) ∧ w13.cell? ⟨gbA, 4, none⟩ = some (.int .i64 a0_4) ∧ w13.cell? ⟨gbA, 5, none⟩ = some (.int .i64 a0_5) ∧ w13.cell? ⟨gbA, 6, none⟩ = some (.slice A0_6 l0_6.length c0_6) := hS_
           refine norm_ (a' := ?_) ?_ ?_
           rotate_left
           ·simp only [putAll, Act.put, List.setIfInBounds_toArray, List.set_cons_zero, List.set_cons_succ]
            rfl
           refine two_ (i := 9) (j := 21) (Ni := some 22) (Nj := some 5) #[true, true, true, true, true, true, true, true, true, true, true, true, false, true, true, false, true, true, false, false, false, false, false] #[true, true, true, true, true, true, true, true, true, false, true, true, false, true, true, false, true, true, false, false, false, true, false] rfl rfl rfl rfl (two_of HT_.out (by kernel_rfl)) (by decide) (by decide) (fun K hK => ?_) (fun K hK => ?_)
           ·skip
            refine goes_ Tryd.func36 (by kernel_rfl) rfl #[.int .i64 a0_2, .int .i64 1099511627777] (by rfl) rfl rfl (by (try simp only [List.map_toArray, List.map_cons, List.map_nil]); first | done | rfl | (simp only [List.length_drop, List.length_take]; rfl)) ?_
            with_reducible refine (billetlaw16_pick.calls a0_2 1099511627777 tK _ A5.out).mono ?_
            rintro e w' ⟨rfl, ⟨nd, rfl⟩⟩
            refine ⟨_, rfl, ?_⟩
            refine hK.out _ _ ⟨(blk_cell BKA.out 0).trans rfl, (blk_cell BKA.out 1).trans rfl, (blk_cell BKA.out 2).trans rfl, (blk_cell BKA.out 3).trans rfl, (blk_cell BKA.out 4).trans rfl, (blk_cell BKA.out 5).trans rfl, (blk_cell BKA.out 6).trans rfl⟩ (fun hHeld => ?_)
            clear hK K
            refine norm_ (a' := ?_) ?_ ?_
            rotate_left
            ·show Act.put _ (some 22) _ = _
             simp only [Act.put, List.setIfInBounds_toArray, List.set_cons_zero, List.set_cons_succ, i64_w, i32_w]
             rfl
            exact norm_ (by first | (simp only [putAll, Act.put, List.setIfInBounds_toArray, List.set_cons_zero, List.set_cons_succ]; done) | (simp only [putAll, Act.put, List.setIfInBounds_toArray, List.set_cons_zero, List.set_cons_succ]; rfl)) (hJ2_6_9 () _ ⟨hHeld, (by (with_reducible repeat (first | refine blk_drewN ?_ _ | refine blk_drew ?_ | refine blk_alloc ?_ _)); exact BKA.out), (by (with_reducible repeat (first | refine blk_drewN ?_ _ | refine blk_drew ?_ | refine blk_alloc ?_ _)); exact BKC.out), (by repeat (first | (with_reducible first | exact HB.out | apply below_alloc | apply pw_below_drewN | apply below_drew1 | refine below_set ?_ GEA.out | refine below_set ?_ GEC.out) | exact HB.out))⟩)
           ·skip
            refine box_step ?hg (N := 5) ?hd (cs := #[.int .i64 0, .int .i64 0, .int .i64 0, .int .i64 0, .int .i64 0, .int .i64 0, .slice none 0 0]) (t := 31) ?hr ?_; (case hd => rfl); (case hg => rfl); (case hr => first | (go_simp; done) | (go_simp; rfl))
            intro gbB hg w14 hbox hb
            have n0_ := Aside0.mk (blk_below (g := gbA) (o := .cells #[.int .i64 a0_0, .int .i64 a0_1, .int .i64 a0_2, .int .i64 a0_3, .int .i64 a0_4, .int .i64 a0_5, .slice A0_6 l0_6.length c0_6] 31 (0, 0)) (by (with_reducible repeat (first | refine blk_drewN ?_ _ | refine blk_drew ?_ | refine blk_alloc ?_ _)); exact BKA.out) hb)
            have n1_ := Aside0.mk (blk_below (g := gbC) (o := .cells #[.int .i64 0, .int .i64 0, .int .i64 0, .int .i64 0, .int .i64 0, .int .i64 0, .slice none 0 0] 31 (0, 0)) (by (with_reducible repeat (first | refine blk_drewN ?_ _ | refine blk_drew ?_ | refine blk_alloc ?_ _)); exact BKC.out) hb)
            have n2_ := Aside0.mk (below_step (by repeat (first | (with_reducible first | exact HB.out | apply below_alloc | apply pw_below_drewN | apply below_drew1 | refine below_set ?_ GEA.out | refine below_set ?_ GEC.out) | exact HB.out)) hb)
            have n3_ := Aside0.mk (hbox)
            have n4_ := Aside0.mk ((by rw [hg]; exact (below_size (by repeat (first | (with_reducible first | exact HB.out | apply below_alloc | apply pw_below_drewN | apply below_drew1 | refine below_set ?_ GEA.out | refine below_set ?_ GEC.out) | exact HB.out))) : w.heap.size ≤ gbB))
            have n5_ := Aside0.mk ((by rw [hg]; exact (below_size (by repeat (first | (with_reducible first | exact HB.out | apply below_alloc | apply pw_below_drewN | apply below_drew1 | refine below_set ?_ GEA.out | refine below_set ?_ GEC.out) | exact HB.out))) : w.heap.size ≤ gbB))
            have n6_ := Aside0.mk ((by rw [hg]; exact Nat.ne_of_lt (blk_lt (g := gbA) (o := .cells #[.int .i64 a0_0, .int .i64 a0_1, .int .i64 a0_2, .int .i64 a0_3, .int .i64 a0_4, .int .i64 a0_5, .slice A0_6 l0_6.length c0_6] 31 (0, 0)) (by (with_reducible repeat (first | refine blk_drewN ?_ _ | refine blk_drew ?_ | refine blk_alloc ?_ _)); exact BKA.out)) : gbA ≠ gbB))
            have n7_ := Aside0.mk ((by rw [hg]; exact Nat.ne_of_gt (blk_lt (g := gbA) (o := .cells #[.int .i64 a0_0, .int .i64 a0_1, .int .i64 a0_2, .int .i64 a0_3, .int .i64 a0_4, .int .i64 a0_5, .slice A0_6 l0_6.length c0_6] 31 (0, 0)) (by (with_reducible repeat (first | refine blk_drewN ?_ _ | refine blk_drew ?_ | refine blk_alloc ?_ _)); exact BKA.out)) : gbB ≠ gbA))
            have n8_ := Aside0.mk ((by rw [hg]; exact Nat.ne_of_lt (blk_lt (g := gbC) (o := .cells #[.int .i64 0, .int .i64 0, .int .i64 0, .int .i64 0, .int .i64 0, .int .i64 0, .slice none 0 0] 31 (0, 0)) (by (with_reducible repeat (first | refine blk_drewN ?_ _ | refine blk_drew ?_ | refine blk_alloc ?_ _)); exact BKC.out)) : gbC ≠ gbB))
            have n9_ := Aside0.mk ((by rw [hg]; exact Nat.ne_of_gt (blk_lt (g := gbC) (o := .cells #[.int .i64 0, .int .i64 0, .int .i64 0, .int .i64 0, .int .i64 0, .int .i64 0, .slice none 0 0] 31 (0, 0)) (by (with_reducible repeat (first | refine blk_drewN ?_ _ | refine blk_drew ?_ | refine blk_alloc ?_ _)); exact BKC.out)) : gbB ≠ gbC))
            clear BKA
            clear BKC
            clear HB
            have BKA := n0_
            have BKC := n1_
            have HB := n2_
            have BKB := n3_
            have GWB := n4_
            have GEB := n5_
            have NBA_B := n6_
            have NBB_A := n7_
            have NBC_B := n8_
            have NBB_C := n9_
            clear n0_ n1_ n2_ n3_ n4_ n5_ n6_ n7_ n8_ n9_
            clear hb hbox hg
            refine hK.out _ _ ⟨(blk_cell BKA.out 0).trans rfl, (blk_cell BKA.out 1).trans rfl, (blk_cell BKA.out 2).trans rfl, (blk_cell BKA.out 3).trans rfl, (blk_cell BKA.out 4).trans rfl, (blk_cell BKA.out 5).trans rfl, (blk_cell BKA.out 6).trans rfl⟩ (fun hHeld => ?_)
            clear hK K
            refine norm_ (a' := ?_) ?_ ?_
            rotate_left
            ·show Act.put _ (some 5) _ = _
             simp only [Act.put, List.setIfInBounds_toArray, List.set_cons_zero, List.set_cons_succ, i64_w, i32_w]
             rfl
            exact norm_ (by first | (simp only [putAll, Act.put, List.setIfInBounds_toArray, List.set_cons_zero, List.set_cons_succ]; done) | (simp only [putAll, Act.put, List.setIfInBounds_toArray, List.set_cons_zero, List.set_cons_succ]; rfl)) (hJ2_6_21 (gbB) _ ⟨hHeld, (by (with_reducible repeat (first | refine blk_drewN ?_ _ | refine blk_drew ?_ | refine blk_alloc ?_ _)); exact BKA.out), (by (with_reducible repeat (first | refine blk_drewN ?_ _ | refine blk_drew ?_ | refine blk_alloc ?_ _)); exact BKC.out), (by (with_reducible repeat (first | refine blk_drewN ?_ _ | refine blk_drew ?_ | refine blk_alloc ?_ _)); exact BKB.out), GWB.out, GEB.out, NBA_B.out, NBB_A.out, NBC_B.out, NBB_C.out, (by repeat (first | (with_reducible first | exact HB.out | apply below_alloc | apply pw_below_drewN | apply below_drew1 | refine below_set ?_ GEA.out | refine below_set ?_ GEC.out | refine below_set ?_ GEB.out) | exact HB.out))⟩)
         ·skip
          rintro gbB w14 ⟨hS_, h0_, h1_, h2_, h3_, h4_, h5_, h6_, h7_, h8_, h9_⟩
          have n0_ : Aside0 (w14.heap[gbA]? = some (.cells #[.int .i64 a0_0, .int .i64 a0_1, .int .i64 a0_2, .int .i64 a0_3, .int .i64 a0_4, .int .i64 a0_5, .slice A0_6 l0_6.length c0_6] 31 (0, 0))) := ⟨h0_⟩
          have n1_ : Aside0 (w14.heap[gbC]? = some (.cells #[.int .i64 0, .int .i64 0, .int .i64 0, .int .i64 0, .int .i64 0, .int .i64 0, .slice none 0 0] 31 (0, 0))) := ⟨h1_⟩
          have n2_ : Aside0 (w14.heap[gbB]? = some (.cells #[.int .i64 0, .int .i64 0, .int .i64 0, .int .i64 0, .int .i64 0, .int .i64 0, .slice none 0 0] 31 (0, 0))) := ⟨h2_⟩
          have n3_ : Aside0 (w.heap.size ≤ gbB) := ⟨h3_⟩
          have n4_ : Aside0 (w.heap.size ≤ gbB) := ⟨h4_⟩
          have n5_ : Aside0 (gbA ≠ gbB) := ⟨h5_⟩
          have n6_ : Aside0 (gbB ≠ gbA) := ⟨h6_⟩
          have n7_ : Aside0 (gbC ≠ gbB) := ⟨h7_⟩
          have n8_ : Aside0 (gbB ≠ gbC) := ⟨h8_⟩
          have n9_ : Aside0 (Below w.heap.size w w14) := ⟨h9_⟩
          clear BKA
          clear BKC
          clear HB
          clear h0_ h1_ h2_ h3_ h4_ h5_ h6_ h7_ h8_ h9_
          have BKA := n0_
          have BKC := n1_
          have BKB := n2_
          have GWB := n3_
          have GEB := n4_
          have NBA_B := n5_
          have NBB_A := n6_
          have NBC_B := n7_
          have NBB_C := n8_
          have HB := n9_
          clear n0_ n1_ n2_ n3_ n4_ n5_ n6_ n7_ n8_ n9_
          have hHeld : w14.cell? ⟨gbA, 0, none⟩ = some (.int .i64 a0_0) ∧ w14.cell? ⟨gbA, 1, none⟩ = some (.int .i64 a0_1) ∧ w14.cell? ⟨gbA, 2, none⟩ = some (.int .i64 a0_2) ∧ w14.cell? ⟨gbA, 3, none⟩ = some (.int .i64 a0_3) ∧ w14.cell? ⟨gbA, 4, none⟩ = some (.int .i64 a0_4) ∧ w14.cell? ⟨gbA, 5, none⟩ = some (.int .i64 a0_5) ∧ w14.cell? ⟨gbA, 6, none⟩ = some (.slice A0_6 l0_6.length c0_6) := hS_
          refine norm_ (a' := ?_) ?_ ?_
          rotate_left
          ·simp only [putAll, Act.put, List.setIfInBounds_toArray, List.set_cons_zero, List.set_cons_succ]
           rfl
          refine one_ (i := 9) (N := some 22) #[true, true, true, true, true, true, true, true, true, true, true, true, false, true, true, false, true, true, false, false, false, true, false] rfl rfl (one_of HT_.out (by kernel_rfl)) (by decide) (fun K hK => ?_)
          refine goes_ Tryd.func36 (by kernel_rfl) rfl #[.int .i64 a0_2, .int .i64 1099511627777] (by rfl) rfl rfl (by (try simp only [List.map_toArray, List.map_cons, List.map_nil]); first | done | rfl | (simp only [List.length_drop, List.length_take]; rfl)) ?_
          with_reducible refine (billetlaw16_pick.calls a0_2 1099511627777 tK _ A5.out).mono ?_
          rintro e w' ⟨rfl, ⟨nd, rfl⟩⟩
          refine ⟨_, rfl, ?_⟩
          refine hK.out _ _ ⟨(blk_cell BKA.out 0).trans rfl, (blk_cell BKA.out 1).trans rfl, (blk_cell BKA.out 2).trans rfl, (blk_cell BKA.out 3).trans rfl, (blk_cell BKA.out 4).trans rfl, (blk_cell BKA.out 5).trans rfl, (blk_cell BKA.out 6).trans rfl⟩ (fun hHeld => ?_)
          clear hK K
          refine norm_ (a' := ?_) ?_ ?_
          rotate_left
          ·show Act.put _ (some 22) _ = _
           simp only [Act.put, List.setIfInBounds_toArray, List.set_cons_zero, List.set_cons_succ, i64_w, i32_w]
           rfl
          exact norm_ (by first | (simp only [putAll, Act.put, List.setIfInBounds_toArray, List.set_cons_zero, List.set_cons_succ]; done) | (simp only [putAll, Act.put, List.setIfInBounds_toArray, List.set_cons_zero, List.set_cons_succ]; rfl)) (hJ2_6_9_21 (gbB) _ ⟨hHeld, (by (with_reducible repeat (first | refine blk_drewN ?_ _ | refine blk_drew ?_ | refine blk_alloc ?_ _)); exact BKA.out), (by (with_reducible repeat (first | refine blk_drewN ?_ _ | refine blk_drew ?_ | refine blk_alloc ?_ _)); exact BKC.out), (by (with_reducible repeat (first | refine blk_drewN ?_ _ | refine blk_drew ?_ | refine blk_alloc ?_ _)); exact BKB.out), GWB.out, GEB.out, NBA_B.out, NBB_A.out, NBC_B.out, NBB_C.out, (by repeat (first | (with_reducible first | exact HB.out | apply below_alloc | apply pw_below_drewN | apply below_drew1 | refine below_set ?_ GEA.out | refine below_set ?_ GEC.out | refine below_set ?_ GEB.out) | exact HB.out))⟩)
        ·skip
         rintro _ w13 ⟨hS_, h0_, h1_, h2_⟩
         have n0_ : Aside0 (w13.heap[gbA]? = some (.cells #[.int .i64 a0_0, .int .i64 a0_1, .int .i64 a0_2, .int .i64 a0_3, .int .i64 a0_4, .int .i64 a0_5, .slice A0_6 l0_6.length c0_6] 31 (0, 0))) := ⟨h0_⟩
         have n1_ : Aside0 (w13.heap[gbC]? = some (.cells #[.int .i64 0, .int .i64 0, .int .i64 0, .int .i64 0, .int .i64 0, .int .i64 0, .slice none 0 0] 31 (0, 0))) := ⟨h1_⟩
         have n2_ : Aside0 (Below w.heap.size w w13) := ⟨h2_⟩
         clear BKA
         clear BKC
         clear HB
         clear h0_ h1_ h2_
         have BKA := n0_
         have BKC := n1_
         have HB := n2_
         clear n0_ n1_ n2_
         have hHeld : w13.cell? ⟨gbA, 0, none⟩ = some (.int .i64 a0_0) ∧ w13.cell? ⟨gbA, 1, none⟩ = some (.int .i64 a0_1) ∧ w13.cell? ⟨gbA, 2, none⟩ = some (.int .i64 a0_2) ∧ w13.cell? ⟨gbA, 3, none⟩ = some (.int .i64 a0_3) ∧ w13.cell? ⟨gbA, 4, none⟩ = some (.int .i64 a0_4) ∧ w13.cell? ⟨gbA, 5, none⟩ = some (.int .i64 a0_5) ∧ w13.cell? ⟨gbA, 6, none⟩ = some (.slice A0_6 l0_6.length c0_6) := hS_
         refine norm_ (a' := ?_) ?_ ?_
         rotate_left
         ·simp only [putAll, Act.put, List.setIfInBounds_toArray, List.set_cons_zero, List.set_cons_succ]
          rfl
         refine two_ (i := 12) (j := 21) (Ni := some 25) (Nj := some 5) #[true, true, true, true, true, true, true, true, true, true, true, true, true, true, true, false, true, true, false, false, false, false, false] #[true, true, true, true, true, true, true, true, true, true, true, true, false, true, true, false, true, true, false, false, false, true, false] rfl rfl rfl rfl (two_of HT_.out (by kernel_rfl)) (by decide) (by decide) (fun K hK => ?_) (fun K hK => ?_)
         ·skip
          refine goes_ Tryd.func36 (by kernel_rfl) rfl #[.int .i64 a0_3, .int .i64 1099511627777] (by rfl) rfl rfl (by (try simp only [List.map_toArray, List.map_cons, List.map_nil]); first | done | rfl | (simp only [List.length_drop, List.length_take]; rfl)) ?_
          with_reducible refine (billetlaw16_pick.calls a0_3 1099511627777 tL _ A6.out).mono ?_
          rintro e w' ⟨rfl, ⟨nd, rfl⟩⟩
          refine ⟨_, rfl, ?_⟩
          refine hK.out _ _ ⟨(blk_cell BKA.out 0).trans rfl, (blk_cell BKA.out 1).trans rfl, (blk_cell BKA.out 2).trans rfl, (blk_cell BKA.out 3).trans rfl, (blk_cell BKA.out 4).trans rfl, (blk_cell BKA.out 5).trans rfl, (blk_cell BKA.out 6).trans rfl⟩ (fun hHeld => ?_)
          clear hK K
          refine norm_ (a' := ?_) ?_ ?_
          rotate_left
          ·show Act.put _ (some 25) _ = _
           simp only [Act.put, List.setIfInBounds_toArray, List.set_cons_zero, List.set_cons_succ, i64_w, i32_w]
           rfl
          exact norm_ (by first | (simp only [putAll, Act.put, List.setIfInBounds_toArray, List.set_cons_zero, List.set_cons_succ]; done) | (simp only [putAll, Act.put, List.setIfInBounds_toArray, List.set_cons_zero, List.set_cons_succ]; rfl)) (hJ2_6_9_12 () _ ⟨hHeld, (by (with_reducible repeat (first | refine blk_drewN ?_ _ | refine blk_drew ?_ | refine blk_alloc ?_ _)); exact BKA.out), (by (with_reducible repeat (first | refine blk_drewN ?_ _ | refine blk_drew ?_ | refine blk_alloc ?_ _)); exact BKC.out), (by repeat (first | (with_reducible first | exact HB.out | apply below_alloc | apply pw_below_drewN | apply below_drew1 | refine below_set ?_ GEA.out | refine below_set ?_ GEC.out) | exact HB.out))⟩)
         ·skip
          refine box_step ?hg (N := 5) ?hd (cs := #[.int .i64 0, .int .i64 0, .int .i64 0, .int .i64 0, .int .i64 0, .int .i64 0, .slice none 0 0]) (t := 31) ?hr ?_; (case hd => rfl); (case hg => rfl); (case hr => first | (go_simp; done) | (go_simp; rfl))
          intro gbB hg w14 hbox hb
          have n0_ := Aside0.mk (blk_below (g := gbA) (o := .cells #[.int .i64 a0_0, .int .i64 a0_1, .int .i64 a0_2, .int .i64 a0_3, .int .i64 a0_4, .int .i64 a0_5, .slice A0_6 l0_6.length c0_6] 31 (0, 0)) (by (with_reducible repeat (first | refine blk_drewN ?_ _ | refine blk_drew ?_ | refine blk_alloc ?_ _)); exact BKA.out) hb)
          have n1_ := Aside0.mk (blk_below (g := gbC) (o := .cells #[.int .i64 0, .int .i64 0, .int .i64 0, .int .i64 0, .int .i64 0, .int .i64 0, .slice none 0 0] 31 (0, 0)) (by (with_reducible repeat (first | refine blk_drewN ?_ _ | refine blk_drew ?_ | refine blk_alloc ?_ _)); exact BKC.out) hb)
          have n2_ := Aside0.mk (below_step (by repeat (first | (with_reducible first | exact HB.out | apply below_alloc | apply pw_below_drewN | apply below_drew1 | refine below_set ?_ GEA.out | refine below_set ?_ GEC.out) | exact HB.out)) hb)
          have n3_ := Aside0.mk (hbox)
          have n4_ := Aside0.mk ((by rw [hg]; exact (below_size (by repeat (first | (with_reducible first | exact HB.out | apply below_alloc | apply pw_below_drewN | apply below_drew1 | refine below_set ?_ GEA.out | refine below_set ?_ GEC.out) | exact HB.out))) : w.heap.size ≤ gbB))
          have n5_ := Aside0.mk ((by rw [hg]; exact (below_size (by repeat (first | (with_reducible first | exact HB.out | apply below_alloc | apply pw_below_drewN | apply below_drew1 | refine below_set ?_ GEA.out | refine below_set ?_ GEC.out) | exact HB.out))) : w.heap.size ≤ gbB))
          have n6_ := Aside0.mk ((by rw [hg]; exact Nat.ne_of_lt (blk_lt (g := gbA) (o := .cells #[.int .i64 a0_0, .int .i64 a0_1, .int .i64 a0_2, .int .i64 a0_3, .int .i64 a0_4, .int .i64 a0_5, .slice A0_6 l0_6.length c0_6] 31 (0, 0)) (by (with_reducible repeat (first | refine blk_drewN ?_ _ | refine blk_drew ?_ | refine blk_alloc ?_ _)); exact BKA.out)) : gbA ≠ gbB))
          have n7_ := Aside0.mk ((by rw [hg]; exact Nat.ne_of_gt (blk_lt (g := gbA) (o := .cells #[.int .i64 a0_0, .int .i64 a0_1, .int .i64 a0_2, .int .i64 a0_3, .int .i64 a0_4, .int .i64 a0_5, .slice A0_6 l0_6.length c0_6] 31 (0, 0)) (by (with_reducible repeat (first | refine blk_drewN ?_ _ | refine blk_drew ?_ | refine blk_alloc ?_ _)); exact BKA.out)) : gbB ≠ gbA))
          have n8_ := Aside0.mk ((by rw [hg]; exact Nat.ne_of_lt (blk_lt (g := gbC) (o := .cells #[.int .i64 0, .int .i64 0, .int .i64 0, .int .i64 0, .int .i64 0, .int .i64 0, .slice none 0 0] 31 (0, 0)) (by (with_reducible repeat (first | refine blk_drewN ?_ _ | refine blk_drew ?_ | refine blk_alloc ?_ _)); exact BKC.out)) : gbC ≠ gbB))
          have n9_ := Aside0.mk ((by rw [hg]; exact Nat.ne_of_gt (blk_lt (g := gbC) (o := .cells #[.int .i64 0, .int .i64 0, .int .i64 0, .int .i64 0, .int .i64 0, .int .i64 0, .slice none 0 0] 31 (0, 0)) (by (with_reducible repeat (first | refine blk_drewN ?_ _ | refine blk_drew ?_ | refine blk_alloc ?_ _)); exact BKC.out)) : gbB ≠ gbC))
          clear BKA
          clear BKC
          clear HB
          have BKA := n0_
          have BKC := n1_
          have HB := n2_
          have BKB := n3_
          have GWB := n4_
          have GEB := n5_
          have NBA_B := n6_
          have NBB_A := n7_
          have NBC_B := n8_
          have NBB_C := n9_
          clear n0_ n1_ n2_ n3_ n4_ n5_ n6_ n7_ n8_ n9_
          clear hb hbox hg
          refine hK.out _ _ ⟨(blk_cell BKA.out 0).trans rfl, (blk_cell BKA.out 1).trans rfl, (blk_cell BKA.out 2).trans rfl, (blk_cell BKA.out 3).trans rfl, (blk_cell BKA.out 4).trans rfl, (blk_cell BKA.out 5).trans rfl, (blk_cell BKA.out 6).trans rfl⟩ (fun hHeld => ?_)
          clear hK K
          refine norm_ (a' := ?_) ?_ ?_
          rotate_left
          ·show Act.put _ (some 5) _ = _
           simp only [Act.put, List.setIfInBounds_toArray, List.set_cons_zero, List.set_cons_succ, i64_w, i32_w]
           rfl
          exact norm_ (by first | (simp only [putAll, Act.put, List.setIfInBounds_toArray, List.set_cons_zero, List.set_cons_succ]; done) | (simp only [putAll, Act.put, List.setIfInBounds_toArray, List.set_cons_zero, List.set_cons_succ]; rfl)) (hJ2_6_9_21 (gbB) _ ⟨hHeld, (by (with_reducible repeat (first | refine blk_drewN ?_ _ | refine blk_drew ?_ | refine blk_alloc ?_ _)); exact BKA.out), (by (with_reducible repeat (first | refine blk_drewN ?_ _ | refine blk_drew ?_ | refine blk_alloc ?_ _)); exact BKC.out), (by (with_reducible repeat (first | refine blk_drewN ?_ _ | refine blk_drew ?_ | refine blk_alloc ?_ _)); exact BKB.out), GWB.out, GEB.out, NBA_B.out, NBB_A.out, NBC_B.out, NBB_C.out, (by repeat (first | (with_reducible first | exact HB.out | apply below_alloc | apply pw_below_drewN | apply below_drew1 | refine below_set ?_ GEA.out | refine below_set ?_ GEC.out | refine below_set ?_ GEB.out) | exact HB.out))⟩)
       ·skip
        rintro gbB w14 ⟨hS_, h0_, h1_, h2_, h3_, h4_, h5_, h6_, h7_, h8_, h9_⟩
        have n0_ : Aside0 (w14.heap[gbA]? = some (.cells #[.int .i64 a0_0, .int .i64 a0_1, .int .i64 a0_2, .int .i64 a0_3, .int .i64 a0_4, .int .i64 a0_5, .slice A0_6 l0_6.length c0_6] 31 (0, 0))) := ⟨h0_⟩
        have n1_ : Aside0 (w14.heap[gbC]? = some (.cells #[.int .i64 0, .int .i64 0, .int .i64 0, .int .i64 0, .int .i64 0, .int .i64 0, .slice none 0 0] 31 (0, 0))) := ⟨h1_⟩
        have n2_ : Aside0 (w14.heap[gbB]? = some (.cells #[.int .i64 0, .int .i64 0, .int .i64 0, .int .i64 0, .int .i64 0, .int .i64 0, .slice none 0 0] 31 (0, 0))) := ⟨h2_⟩
        have n3_ : Aside0 (w.heap.size ≤ gbB) := ⟨h3_⟩
        have n4_ : Aside0 (w.heap.size ≤ gbB) := ⟨h4_⟩
        have n5_ : Aside0 (gbA ≠ gbB) := ⟨h5_⟩
        have n6_ : Aside0 (gbB ≠ gbA) := ⟨h6_⟩
        have n7_ : Aside0 (gbC ≠ gbB) := ⟨h7_⟩
        have n8_ : Aside0 (gbB ≠ gbC) := ⟨h8_⟩
        have n9_ : Aside0 (Below w.heap.size w w14) := ⟨h9_⟩
        clear BKA
        clear BKC
        clear HB
        clear h0_ h1_ h2_ h3_ h4_ h5_ h6_ h7_ h8_ h9_
        have BKA := n0_
        have BKC := n1_
        have BKB := n2_
        have GWB := n3_
        have GEB := n4_
        have NBA_B := n5_
        have NBB_A := n6_
        have NBC_B := n7_
        have NBB_C := n8_
        have HB := n9_
        clear n0_ n1_ n2_ n3_ n4_ n5_ n6_ n7_ n8_ n9_
        have hHeld : w14.cell? ⟨gbA, 0, none⟩ = some (.int .i64 a0_0) ∧ w14.cell? ⟨gbA, 1, none⟩ = some (.int .i64 a0_1) ∧ w14.cell? ⟨gbA, 2, none⟩ = some (.int .i64 a0_2) ∧ w14.cell? ⟨gbA, 3, none⟩ = some (.int .i64 a0_3) ∧ w14.cell? ⟨gbA, 4, none⟩ = some (.int .i64 a0_4) ∧ w14.cell? ⟨gbA, 5, none⟩ = some (.int .i64 a0_5) ∧ w14.cell? ⟨gbA, 6, none⟩ = some (.slice A0_6 l0_6.length c0_6) := hS_
        refine norm_ (a' := ?_) ?_ ?_
        rotate_left
        ·simp only [putAll, Act.put, List.setIfInBounds_toArray, List.set_cons_zero, List.set_cons_succ]
         rfl
        refine one_ (i := 12) (N := some 25) #[true, true, true, true, true, true, true, true, true, true, true, true, true, true, true, false, true, true, false, false, false, true, false] rfl rfl (one_of HT_.out (by kernel_rfl)) (by decide) (fun K hK => ?_)
        refine goes_ Tryd.func36 (by kernel_rfl) rfl #[.int .i64 a0_3, .int .i64 1099511627777] (by rfl) rfl rfl (by (try simp only [List.map_toArray, List.map_cons, List.map_nil]); first | done | rfl | (simp only [List.length_drop, List.length_take]; rfl)) ?_
        with_reducible refine (billetlaw16_pick.calls a0_3 1099511627777 tL _ A6.out).mono ?_
        rintro e w' ⟨rfl, ⟨nd, rfl⟩⟩
        refine ⟨_, rfl, ?_⟩
        refine hK.out _ _ ⟨(blk_cell BKA.out 0).trans rfl, (blk_cell BKA.out 1).trans rfl, (blk_cell BKA.out 2).trans rfl, (blk_cell BKA.out 3).trans rfl, (blk_cell BKA.out 4).trans rfl, (blk_cell BKA.out 5).trans rfl, (blk_cell BKA.out 6).trans rfl⟩ (fun hHeld => ?_)
        clear hK K
        refine norm_ (a' := ?_) ?_ ?_
        rotate_left
        ·show Act.put _ (some 25) _ = _
         simp only [Act.put, List.setIfInBounds_toArray, List.set_cons_zero, List.set_cons_succ, i64_w, i32_w]
         rfl
        exact norm_ (by first | (simp only [putAll, Act.put, List.setIfInBounds_toArray, List.set_cons_zero, List.set_cons_succ]; done) | (simp only [putAll, Act.put, List.setIfInBounds_toArray, List.set_cons_zero, List.set_cons_succ]; rfl)) (hJ2_6_9_12_21 (gbB) _ ⟨hHeld, (by (with_reducible repeat (first | refine blk_drewN ?_ _ | refine blk_drew ?_ | refine blk_alloc ?_ _)); exact BKA.out), (by (with_reducible repeat (first | refine blk_drewN ?_ _ | refine blk_drew ?_ | refine blk_alloc ?_ _)); exact BKC.out), (by (with_reducible repeat (first | refine blk_drewN ?_ _ | refine blk_drew ?_ | refine blk_alloc ?_ _)); exact BKB.out), GWB.out, GEB.out, NBA_B.out, NBB_A.out, NBC_B.out, NBB_C.out, (by repeat (first | (with_reducible first | exact HB.out | apply below_alloc | apply pw_below_drewN | apply below_drew1 | refine below_set ?_ GEA.out | refine below_set ?_ GEC.out | refine below_set ?_ GEB.out) | exact HB.out))⟩)
      ·skip
       rintro _ w13 ⟨hS_, h0_, h1_, h2_⟩
       have n0_ : Aside0 (w13.heap[gbA]? = some (.cells #[.int .i64 a0_0, .int .i64 a0_1, .int .i64 a0_2, .int .i64 a0_3, .int .i64 a0_4, .int .i64 a0_5, .slice A0_6 l0_6.length c0_6] 31 (0, 0))) := ⟨h0_⟩
       have n1_ : Aside0 (w13.heap[gbC]? = some (.cells #[.int .i64 0, .int .i64 0, .int .i64 0, .int .i64 0, .int .i64 0, .int .i64 0, .slice none 0 0] 31 (0, 0))) := ⟨h1_⟩
       have n2_ : Aside0 (Below w.heap.size w w13) := ⟨h2_⟩
       clear BKA
       clear BKC
       clear HB
       clear h0_ h1_ h2_
       have BKA := n0_
       have BKC := n1_
       have HB := n2_
       clear n0_ n1_ n2_
       have hHeld : w13.cell? ⟨gbA, 0, none⟩ = some (.int .i64 a0_0) ∧ w13.cell? ⟨gbA, 1, none⟩ = some (.int .i64 a0_1) ∧ w13.cell? ⟨gbA, 2, none⟩ = some (.int .i64 a0_2) ∧ w13.cell? ⟨gbA, 3, none⟩ = some (.int .i64 a0_3) ∧ w13.cell? ⟨gbA, 4, none⟩ = some (.int .i64 a0_4) ∧ w13.cell? ⟨gbA, 5, none⟩ = some (.int .i64 a0_5) ∧ w13.cell? ⟨gbA, 6, none⟩ = some (.slice A0_6 l0_6.length c0_6) := hS_
       refine norm_ (a' := ?_) ?_ ?_
       rotate_left
       ·simp only [putAll, Act.put, List.setIfInBounds_toArray, List.set_cons_zero, List.set_cons_succ]
        rfl
       refine two_ (i := 15) (j := 21) (Ni := some 28) (Nj := some 5) (upT 23 18) #[true, true, true, true, true, true, true, true, true, true, true, true, true, true, true, false, true, true, false, false, false, true, false] rfl rfl rfl rfl (two_of HT_.out (by kernel_rfl)) (by decide) (by decide) (fun K hK => ?_) (fun K hK => ?_)
       ·skip
        refine goes_ Tryd.func36 (by kernel_rfl) rfl #[.int .i64 a0_4, .int .i64 1099511627777] (by rfl) rfl rfl (by (try simp only [List.map_toArray, List.map_cons, List.map_nil]); first | done | rfl | (simp only [List.length_drop, List.length_take]; rfl)) ?_
        with_reducible refine (billetlaw16_pick.calls a0_4 1099511627777 tM _ A7.out).mono ?_
        rintro e w' ⟨rfl, ⟨nd, rfl⟩⟩
        refine ⟨_, rfl, ?_⟩
        refine hK.out _ _ ⟨(blk_cell BKA.out 0).trans rfl, (blk_cell BKA.out 1).trans rfl, (blk_cell BKA.out 2).trans rfl, (blk_cell BKA.out 3).trans rfl, (blk_cell BKA.out 4).trans rfl, (blk_cell BKA.out 5).trans rfl, (blk_cell BKA.out 6).trans rfl⟩ (fun hHeld => ?_)
        clear hK K
        refine norm_ (a' := ?_) ?_ ?_
        rotate_left
        ·show Act.put _ (some 28) _ = _
         simp only [Act.put, List.setIfInBounds_toArray, List.set_cons_zero, List.set_cons_succ, i64_w, i32_w]
         rfl
        exact norm_ (by first | (simp only [putAll, Act.put, List.setIfInBounds_toArray, List.set_cons_zero, List.set_cons_succ]; done) | (simp only [putAll, Act.put, List.setIfInBounds_toArray, List.set_cons_zero, List.set_cons_succ]; rfl)) (hJ2_6_9_12_15 () _ ⟨hHeld, (by (with_reducible repeat (first | refine blk_drewN ?_ _ | refine blk_drew ?_ | refine blk_alloc ?_ _)); exact BKA.out), (by (with_reducible repeat (first | refine blk_drewN ?_ _ | refine blk_drew ?_ | refine blk_alloc ?_ _)); exact BKC.out), (by repeat (first | (with_reducible first | exact HB.out | apply below_alloc | apply pw_below_drewN | apply below_drew1 | refine below_set ?_ GEA.out | refine below_set ?_ GEC.out) | exact HB.out))⟩)
       ·skip
        refine box_step ?hg (N := 5) ?hd (cs := #[.int .i64 0, .int .i64 0, .int .i64 0, .int .i64 0, .int .i64 0, .int .i64 0, .slice none 0 0]) (t := 31) ?hr ?_; (case hd => rfl); (case hg => rfl); (case hr => first | (go_simp; done) | (go_simp; rfl))
        intro gbB hg w14 hbox hb
        have n0_ := Aside0.mk (blk_below (g := gbA) (o := .cells #[.int .i64 a0_0, .int .i64 a0_1, .int .i64 a0_2, .int .i64 a0_3, .int .i64 a0_4, .int .i64 a0_5, .slice A0_6 l0_6.length c0_6] 31 (0, 0)) (by (with_reducible repeat (first | refine blk_drewN ?_ _ | refine blk_drew ?_ | refine blk_alloc ?_ _)); exact BKA.out) hb)
        have n1_ := Aside0.mk (blk_below (g := gbC) (o := .cells #[.int .i64 0, .int .i64 0, .int .i64 0, .int .i64 0, .int .i64 0, .int .i64 0, .slice none 0 0] 31 (0, 0)) (by (with_reducible repeat (first | refine blk_drewN ?_ _ | refine blk_drew ?_ | refine blk_alloc ?_ _)); exact BKC.out) hb)
        have n2_ := Aside0.mk (below_step (by repeat (first | (with_reducible first | exact HB.out | apply below_alloc | apply pw_below_drewN | apply below_drew1 | refine below_set ?_ GEA.out | refine below_set ?_ GEC.out) | exact HB.out)) hb)
        have n3_ := Aside0.mk (hbox)
        have n4_ := Aside0.mk ((by rw [hg]; exact (below_size (by repeat (first | (with_reducible first | exact HB.out | apply below_alloc | apply pw_below_drewN | apply below_drew1 | refine below_set ?_ GEA.out | refine below_set ?_ GEC.out) | exact HB.out))) : w.heap.size ≤ gbB))
        have n5_ := Aside0.mk ((by rw [hg]; exact (below_size (by repeat (first | (with_reducible first | exact HB.out | apply below_alloc | apply pw_below_drewN | apply below_drew1 | refine below_set ?_ GEA.out | refine below_set ?_ GEC.out) | exact HB.out))) : w.heap.size ≤ gbB))
        have n6_ := Aside0.mk ((by rw [hg]; exact Nat.ne_of_lt (blk_lt (g := gbA) (o := .cells #[.int .i64 a0_0, .int .i64 a0_1, .int .i64 a0_2, .int .i64 a0_3, .int .i64 a0_4, .int .i64 a0_5, .slice A0_6 l0_6.length c0_6] 31 (0, 0)) (by (with_reducible repeat (first | refine blk_drewN ?_ _ | refine blk_drew ?_ | refine blk_alloc ?_ _)); exact BKA.out)) : gbA ≠ gbB))
        have n7_ := Aside0.mk ((by rw [hg]; exact Nat.ne_of_gt (blk_lt (g := gbA) (o := .cells #[.int .i64 a0_0, .int .i64 a0_1, .int .i64 a0_2, .int .i64 a0_3, .int .i64 a0_4, .int .i64 a0_5, .slice A0_6 l0_6.length c0_6] 31 (0, 0)) (by (with_reducible repeat (first | refine blk_drewN ?_ _ | refine blk_drew ?_ | refine blk_alloc ?_ _)); exact BKA.out)) : gbB ≠ gbA))
        have n8_ := Aside0.mk ((by rw [hg]; exact Nat.ne_of_lt (blk_lt (g := gbC) (o := .cells #[.int .i64 0, .int .i64 0, .int .i64 0, .int .i64 0, .int .i64 0, .int .i64 0, .slice none 0 0] 31 (0, 0)) (by (with_reducible repeat (first | refine blk_drewN ?_ _ | refine blk_drew ?_ | refine blk_alloc ?_ _)); exact BKC.out)) : gbC ≠ gbB))
        have n9_ := Aside0.mk ((by rw [hg]; exact Nat.ne_of_gt (blk_lt (g := gbC) (o := .cells #[.int .i64 0, .int .i64 0, .int .i64 0, .int .i64 0, .int .i64 0, .int .i64 0, .slice none 0 0] 31 (0, 0)) (by (with_reducible repeat (first | refine blk_drewN ?_ _ | refine blk_drew ?_ | refine blk_alloc ?_ _)); exact BKC.out)) : gbB ≠ gbC))
        clear BKA
        clear BKC
        clear HB
        have BKA := n0_
        have BKC := n1_
        have HB := n2_
        have BKB := n3_
        have GWB := n4_
        have GEB := n5_
        have NBA_B := n6_
        have NBB_A := n7_
        have NBC_B := n8_
        have NBB_C := n9_
        clear n0_ n1_ n2_ n3_ n4_ n5_ n6_ n7_ n8_ n9_
        clear hb hbox hg
        refine hK.out _ _ ⟨(blk_cell BKA.out 0).trans rfl, (blk_cell BKA.out 1).trans rfl, (blk_cell BKA.out 2).trans rfl, (blk_cell BKA.out 3).trans rfl, (blk_cell BKA.out 4).trans rfl, (blk_cell BKA.out 5).trans rfl, (blk_cell BKA.out 6).trans rfl⟩ (fun hHeld => ?_)
        clear hK K
        refine norm_ (a' := ?_) ?_ ?_
        rotate_left
        ·show Act.put _ (some 5) _ = _
         simp only [Act.put, List.setIfInBounds_toArray, List.set_cons_zero, List.set_cons_succ, i64_w, i32_w]
         rfl
        exact norm_ (by first | (simp only [putAll, Act.put, List.setIfInBounds_toArray, List.set_cons_zero, List.set_cons_succ]; done) | (simp only [putAll, Act.put, List.setIfInBounds_toArray, List.set_cons_zero, List.set_cons_succ]; rfl)) (hJ2_6_9_12_21 (gbB) _ ⟨hHeld, (by (with_reducible repeat (first | refine blk_drewN ?_ _ | refine blk_drew ?_ | refine blk_alloc ?_ _)); exact BKA.out), (by (with_reducible repeat (first | refine blk_drewN ?_ _ | refine blk_drew ?_ | refine blk_alloc ?_ _)); exact BKC.out), (by (with_reducible repeat (first | refine blk_drewN ?_ _ | refine blk_drew ?_ | refine blk_alloc ?_ _)); exact BKB.out), GWB.out, GEB.out, NBA_B.out, NBB_A.out, NBC_B.out, NBB_C.out, (by repeat (first | (with_reducible first | exact HB.out | apply below_alloc | apply pw_below_drewN | apply below_drew1 | refine below_set ?_ GEA.out | refine below_set ?_ GEC.out | refine below_set ?_ GEB.out) | exact HB.out))⟩)
     ·skip
      rintro gbB w14 ⟨hS_, h0_, h1_, h2_, h3_, h4_, h5_, h6_, h7_, h8_, h9_⟩
      have n0_ : Aside0 (w14.heap[gbA]? = some (.cells #[.int .i64 a0_0, .int .i64 a0_1, .int .i64 a0_2, .int .i64 a0_3, .int .i64 a0_4, .int .i64 a0_5, .slice A0_6 l0_6.length c0_6] 31 (0, 0))) := ⟨h0_⟩
      have n1_ : Aside0 (w14.heap[gbC]? = some (.cells #[.int .i64 0, .int .i64 0, .int .i64 0, .int .i64 0, .int .i64 0, .int .i64 0, .slice none 0 0] 31 (0, 0))) := ⟨h1_⟩
      have n2_ : Aside0 (w14.heap[gbB]? = some (.cells #[.int .i64 0, .int .i64 0, .int .i64 0, .int .i64 0, .int .i64 0, .int .i64 0, .slice none 0 0] 31 (0, 0))) := ⟨h2_⟩
      have n3_ : Aside0 (w.heap.size ≤ gbB) := ⟨h3_⟩
      have n4_ : Aside0 (w.heap.size ≤ gbB) := ⟨h4_⟩
      have n5_ : Aside0 (gbA ≠ gbB) := ⟨h5_⟩
      have n6_ : Aside0 (gbB ≠ gbA) := ⟨h6_⟩
      have n7_ : Aside0 (gbC ≠ gbB) := ⟨h7_⟩
      have n8_ : Aside0 (gbB ≠ gbC) := ⟨h8_⟩
      have n9_ : Aside0 (Below w.heap.size w w14) := ⟨h9_⟩
      clear BKA
      clear BKC
      clear HB
      clear h0_ h1_ h2_ h3_ h4_ h5_ h6_ h7_ h8_ h9_
      have BKA := n0_
      have BKC := n1_
      have BKB := n2_
      have GWB := n3_
      have GEB := n4_
      have NBA_B := n5_
      have NBB_A := n6_
      have NBC_B := n7_
      have NBB_C := n8_
      have HB := n9_
      clear n0_ n1_ n2_ n3_ n4_ n5_ n6_ n7_ n8_ n9_
      have hHeld : w14.cell? ⟨gbA, 0, none⟩ = some (.int .i64 a0_0) ∧ w14.cell? ⟨gbA, 1, none⟩ = some (.int .i64 a0_1) ∧ w14.cell? ⟨gbA, 2, none⟩ = some (.int .i64 a0_2) ∧ w14.cell? ⟨gbA, 3, none⟩ = some (.int .i64 a0_3) ∧ w14.cell? ⟨gbA, 4, none⟩ = some (.int .i64 a0_4) ∧ w14.cell? ⟨gbA, 5, none⟩ = some (.int .i64 a0_5) ∧ w14.cell? ⟨gbA, 6, none⟩ = some (.slice A0_6 l0_6.length c0_6) := hS_
      refine norm_ (a' := ?_) ?_ ?_
      rotate_left
      ·simp only [putAll, Act.put, List.setIfInBounds_toArray, List.set_cons_zero, List.set_cons_succ]
       rfl
      refine one_ (i := 15) (N := some 28) #[true, true, true, true, true, true, true, true, true, true, true, true, true, true, true, true, true, true, false, false, false, true, false] rfl rfl (one_of HT_.out (by kernel_rfl)) (by decide) (fun K hK => ?_)
      refine goes_ Tryd.func36 (by kernel_rfl) rfl #[.int .i64 a0_4, .int .i64 1099511627777] (by rfl) rfl rfl (by (try simp only [List.map_toArray, List.map_cons, List.map_nil]); first | done | rfl | (simp only [List.length_drop, List.length_take]; rfl)) ?_
      with_reducible refine (billetlaw16_pick.calls a0_4 1099511627777 tM _ A7.out).mono ?_
      rintro e w' ⟨rfl, ⟨nd, rfl⟩⟩
      refine ⟨_, rfl, ?_⟩
      refine hK.out _ _ ⟨(blk_cell BKA.out 0).trans rfl, (blk_cell BKA.out 1).trans rfl, (blk_cell BKA.out 2).trans rfl, (blk_cell BKA.out 3).trans rfl, (blk_cell BKA.out 4).trans rfl, (blk_cell BKA.out 5).trans rfl, (blk_cell BKA.out 6).trans rfl⟩ (fun hHeld => ?_)
      clear hK K
      refine norm_ (a' := ?_) ?_ ?_
      rotate_left
      ·show Act.put _ (some 28) _ = _
       simp only [Act.put, List.setIfInBounds_toArray, List.set_cons_zero, List.set_cons_succ, i64_w, i32_w]
       rfl
      exact norm_ (by first | (simp only [putAll, Act.put, List.setIfInBounds_toArray, List.set_cons_zero, List.set_cons_succ]; done) | (simp only [putAll, Act.put, List.setIfInBounds_toArray, List.set_cons_zero, List.set_cons_succ]; rfl)) (hJ2_6_9_12_15_21 (gbB) _ ⟨hHeld, (by (with_reducible repeat (first | refine blk_drewN ?_ _ | refine blk_drew ?_ | refine blk_alloc ?_ _)); exact BKA.out), (by (with_reducible repeat (first | refine blk_drewN ?_ _ | refine blk_drew ?_ | refine blk_alloc ?_ _)); exact BKC.out), (by (with_reducible repeat (first | refine blk_drewN ?_ _ | refine blk_drew ?_ | refine blk_alloc ?_ _)); exact BKB.out), GWB.out, GEB.out, NBA_B.out, NBB_A.out, NBC_B.out, NBB_C.out, (by repeat (first | (with_reducible first | exact HB.out | apply below_alloc | apply pw_below_drewN | apply below_drew1 | refine below_set ?_ GEA.out | refine below_set ?_ GEC.out | refine below_set ?_ GEB.out) | exact HB.out))⟩)
    ·skip
     rintro _ w13 ⟨hS_, h0_, h1_, h2_⟩
     have n0_ : Aside0 (w13.heap[gbA]? = some (.cells #[.int .i64 a0_0, .int .i64 a0_1, .int .i64 a0_2, .int .i64 a0_3, .int .i64 a0_4, .int .i64 a0_5, .slice A0_6 l0_6.length c0_6] 31 (0, 0))) := ⟨h0_⟩
     have n1_ : Aside0 (w13.heap[gbC]? = some (.cells #[.int .i64 0, .int .i64 0, .int .i64 0, .int .i64 0, .int .i64 0, .int .i64 0, .slice none 0 0] 31 (0, 0))) := ⟨h1_⟩
     have n2_ : Aside0 (Below w.heap.size w w13) := ⟨h2_⟩
     clear BKA
     clear BKC
     clear HB
     clear h0_ h1_ h2_
     have BKA := n0_
     have BKC := n1_
     have HB := n2_
     clear n0_ n1_ n2_
     have hHeld : w13.cell? ⟨gbA, 0, none⟩ = some (.int .i64 a0_0) ∧ w13.cell? ⟨gbA, 1, none⟩ = some (.int .i64 a0_1) ∧ w13.cell? ⟨gbA, 2, none⟩ = some (.int .i64 a0_2) ∧ w13.cell? ⟨gbA, 3, none⟩ = some (.int .i64 a0_3) ∧ w13.cell? ⟨gbA, 4, none⟩ = some (.int .i64 a0_4) ∧ w13.cell? ⟨gbA, 5, none⟩ = some (.int .i64 a0_5) ∧ w13.cell? ⟨gbA, 6, none⟩ = some (.slice A0_6 l0_6.length c0_6) := hS_
     refine norm_ (a' := ?_) ?_ ?_
     rotate_left
     ·simp only [putAll, Act.put, List.setIfInBounds_toArray, List.set_cons_zero, List.set_cons_succ]
      rfl
     refine two_ (i := 18) (j := 21) (Ni := some 31) (Nj := some 5) (upT 23 19) #[true, true, true, true, true, true, true, true, true, true, true, true, true, true, true, true, true, true, false, false, false, true, false] rfl rfl rfl rfl (two_of HT_.out (by kernel_rfl)) (by decide) (by decide) (fun K hK => ?_) (fun K hK => ?_)
     ·skip
      refine goes_ Tryd.func36 (by kernel_rfl) rfl #[.int .i64 a0_5, .int .i64 2199023255552] (by rfl) rfl rfl (by (try simp only [List.map_toArray, List.map_cons, List.map_nil]); first | done | rfl | (simp only [List.length_drop, List.length_take]; rfl)) ?_
      with_reducible refine (billetlaw16_pick.calls a0_5 2199023255552 tJ _ A8.out).mono ?_
      rintro e w' ⟨rfl, ⟨nd, rfl⟩⟩
      refine ⟨_, rfl, ?_⟩
      refine hK.out _ _ ⟨(blk_cell BKA.out 0).trans rfl, (blk_cell BKA.out 1).trans rfl, (blk_cell BKA.out 2).trans rfl, (blk_cell BKA.out 3).trans rfl, (blk_cell BKA.out 4).trans rfl, (blk_cell BKA.out 5).trans rfl, (blk_cell BKA.out 6).trans rfl⟩ (fun hHeld => ?_)
      clear hK K
      refine norm_ (a' := ?_) ?_ ?_
      rotate_left
      ·show Act.put _ (some 31) _ = _
       simp only [Act.put, List.setIfInBounds_toArray, List.set_cons_zero, List.set_cons_succ, i64_w, i32_w]
       rfl
      iterate 2 (refine pu 13 (v := ?_) (a' := ?_) rfl rfl (any_of HT_.out (by kernel_rfl)) (fun _ _ _ h => h) (Or.inl ⟨by rfl, ?_⟩) ?_ ?_; rotate_left; (·intro w'; go_simp; with_reducible rfl); rotate_left; (·simp only [Act.put, List.setIfInBounds_toArray, List.set_cons_zero, List.set_cons_succ, i64_w, i32_w, Nat.reduceAdd]; rfl); conv => arg 8; arg 2; simp only [Nat.reduceAdd])
      exact norm_ (by first | (simp only [putAll, Act.put, List.setIfInBounds_toArray, List.set_cons_zero, List.set_cons_succ]; done) | (simp only [putAll, Act.put, List.setIfInBounds_toArray, List.set_cons_zero, List.set_cons_succ]; rfl)) (hJ2_6_9_12_15_18 () _ ⟨hHeld, (by (with_reducible repeat (first | refine blk_drewN ?_ _ | refine blk_drew ?_ | refine blk_alloc ?_ _)); exact BKA.out), (by (with_reducible repeat (first | refine blk_drewN ?_ _ | refine blk_drew ?_ | refine blk_alloc ?_ _)); exact BKC.out), (by repeat (first | (with_reducible first | exact HB.out | apply below_alloc | apply pw_below_drewN | apply below_drew1 | refine below_set ?_ GEA.out | refine below_set ?_ GEC.out) | exact HB.out))⟩)
     ·skip
      refine box_step ?hg (N := 5) ?hd (cs := #[.int .i64 0, .int .i64 0, .int .i64 0, .int .i64 0, .int .i64 0, .int .i64 0, .slice none 0 0]) (t := 31) ?hr ?_; (case hd => rfl); (case hg => rfl); (case hr => first | (go_simp; done) | (go_simp; rfl))
      intro gbB hg w14 hbox hb
      have n0_ := Aside0.mk (blk_below (g := gbA) (o := .cells #[.int .i64 a0_0, .int .i64 a0_1, .int .i64 a0_2, .int .i64 a0_3, .int .i64 a0_4, .int .i64 a0_5, .slice A0_6 l0_6.length c0_6] 31 (0, 0)) (by (with_reducible repeat (first | refine blk_drewN ?_ _ | refine blk_drew ?_ | refine blk_alloc ?_ _)); exact BKA.out) hb)
      have n1_ := Aside0.mk (blk_below (g := gbC) (o := .cells #[.int .i64 0, .int .i64 0, .int .i64 0, .int .i64 0, .int .i64 0, .int .i64 0, .slice none 0 0] 31 (0, 0)) (by (with_reducible repeat (first | refine blk_drewN ?_ _ | refine blk_drew ?_ | refine blk_alloc ?_ _)); exact BKC.out) hb)
      have n2_ := Aside0.mk (below_step (by repeat (first | (with_reducible first | exact HB.out | apply below_alloc | apply pw_below_drewN | apply below_drew1 | refine below_set ?_ GEA.out | refine below_set ?_ GEC.out) | exact HB.out)) hb)
      have n3_ := Aside0.mk (hbox)
      have n4_ := Aside0.mk ((by rw [hg]; exact (below_size (by repeat (first | (with_reducible first | exact HB.out | apply below_alloc | apply pw_below_drewN | apply below_drew1 | refine below_set ?_ GEA.out | refine below_set ?_ GEC.out) | exact HB.out))) : w.heap.size ≤ gbB))
      have n5_ := Aside0.mk ((by rw [hg]; exact (below_size (by repeat (first | (with_reducible first | exact HB.out | apply below_alloc | apply pw_below_drewN | apply below_drew1 | refine below_set ?_ GEA.out | refine below_set ?_ GEC.out) | exact HB.out))) : w.heap.size ≤ gbB))
      have n6_ := Aside0.mk ((by rw [hg]; exact Nat.ne_of_lt (blk_lt (g := gbA) (o := .cells #[.int .i64 a0_0, .int .i64 a0_1, .int .i64 a0_2, .int .i64 a0_3, .int .i64 a0_4, .int .i64 a0_5, .slice A0_6 l0_6.length c0_6] 31 (0, 0)) (by (with_reducible repeat (first | refine blk_drewN ?_ _ | refine blk_drew ?_ | refine blk_alloc ?_ _)); exact BKA.out)) : gbA ≠ gbB))
      have n7_ := Aside0.mk ((by rw [hg]; exact Nat.ne_of_gt (blk_lt (g := gbA) (o := .cells #[.int .i64 a0_0, .int .i64 a0_1, .int .i64 a0_2, .int .i64 a0_3, .int .i64 a0_4, .int .i64 a0_5, .slice A0_6 l0_6.length c0_6] 31 (0, 0)) (by (with_reducible repeat (first | refine blk_drewN ?_ _ | refine blk_drew ?_ | refine blk_alloc ?_ _)); exact BKA.out)) : gbB ≠ gbA))
      have n8_ := Aside0.mk ((by rw [hg]; exact Nat.ne_of_lt (blk_lt (g := gbC) (o := .cells #[.int .i64 0, .int .i64 0, .int .i64 0, .int .i64 0, .int .i64 0, .int .i64 0, .slice none 0 0] 31 (0, 0)) (by (with_reducible repeat (first | refine blk_drewN ?_ _ | refine blk_drew ?_ | refine blk_alloc ?_ _)); exact BKC.out)) : gbC ≠ gbB))
      have n9_ := Aside0.mk ((by rw [hg]; exact Nat.ne_of_gt (blk_lt (g := gbC) (o := .cells #[.int .i64 0, .int .i64 0, .int .i64 0, .int .i64 0, .int .i64 0, .int .i64 0, .slice none 0 0] 31 (0, 0)) (by (with_reducible repeat (first | refine blk_drewN ?_ _ | refine blk_drew ?_ | refine blk_alloc ?_ _)); exact BKC.out)) : gbB ≠ gbC))
      clear BKA
      clear BKC
      clear HB
      have BKA := n0_
      have BKC := n1_
      have HB := n2_
      have BKB := n3_
      have GWB := n4_
      have GEB := n5_
      have NBA_B := n6_
      have NBB_A := n7_
      have NBC_B := n8_
      have NBB_C := n9_
      clear n0_ n1_ n2_ n3_ n4_ n5_ n6_ n7_ n8_ n9_
      clear hb hbox hg
      refine hK.out _ _ ⟨(blk_cell BKA.out 0).trans rfl, (blk_cell BKA.out 1).trans rfl, (blk_cell BKA.out 2).trans rfl, (blk_cell BKA.out 3).trans rfl, (blk_cell BKA.out 4).trans rfl, (blk_cell BKA.out 5).trans rfl, (blk_cell BKA.out 6).trans rfl⟩ (fun hHeld => ?_)
      clear hK K
      refine norm_ (a' := ?_) ?_ ?_
      rotate_left
      ·show Act.put _ (some 5) _ = _
       simp only [Act.put, List.setIfInBounds_toArray, List.set_cons_zero, List.set_cons_succ, i64_w, i32_w]
       rfl
      exact norm_ (by first | (simp only [putAll, Act.put, List.setIfInBounds_toArray, List.set_cons_zero, List.set_cons_succ]; done) | (simp only [putAll, Act.put, List.setIfInBounds_toArray, List.set_cons_zero, List.set_cons_succ]; rfl)) (hJ2_6_9_12_15_21 (gbB) _ ⟨hHeld, (by (with_reducible repeat (first | refine blk_drewN ?_ _ | refine blk_drew ?_ | refine blk_alloc ?_ _)); exact BKA.out), (by (with_reducible repeat (first | refine blk_drewN ?_ _ | refine blk_drew ?_ | refine blk_alloc ?_ _)); exact BKC.out), (by (with_reducible repeat (first | refine blk_drewN ?_ _ | refine blk_drew ?_ | refine blk_alloc ?_ _)); exact BKB.out), GWB.out, GEB.out, NBA_B.out, NBB_A.out, NBC_B.out, NBB_C.out, (by repeat (first | (with_reducible first | exact HB.out | apply below_alloc | apply pw_below_drewN | apply below_drew1 | refine below_set ?_ GEA.out | refine below_set ?_ GEC.out | refine below_set ?_ GEB.out) | exact HB.out))⟩)
   ·skip
    rintro gbB w14 ⟨hS_, h0_, h1_, h2_, h3_, h4_, h5_, h6_, h7_, h8_, h9_⟩
    have n0_ : Aside0 (w14.heap[gbA]? = some (.cells #[.int .i64 a0_0, .int .i64 a0_1, .int .i64 a0_2, .int .i64 a0_3, .int .i64 a0_4, .int .i64 a0_5, .slice A0_6 l0_6.length c0_6] 31 (0, 0))) := ⟨h0_⟩
    have n1_ : Aside0 (w14.heap[gbC]? = some (.cells #[.int .i64 0, .int .i64 0, .int .i64 0, .int .i64 0, .int .i64 0, .int .i64 0, .slice none 0 0] 31 (0, 0))) := ⟨h1_⟩
    have n2_ : Aside0 (w14.heap[gbB]? = some (.cells #[.int .i64 0, .int .i64 0, .int .i64 0, .int .i64 0, .int .i64 0, .int .i64 0, .slice none 0 0] 31 (0, 0))) := ⟨h2_⟩
    have n3_ : Aside0 (w.heap.size ≤ gbB) := ⟨h3_⟩
    have n4_ : Aside0 (w.heap.size ≤ gbB) := ⟨h4_⟩
    have n5_ : Aside0 (gbA ≠ gbB) := ⟨h5_⟩
    have n6_ : Aside0 (gbB ≠ gbA) := ⟨h6_⟩
    have n7_ : Aside0 (gbC ≠ gbB) := ⟨h7_⟩
    have n8_ : Aside0 (gbB ≠ gbC) := ⟨h8_⟩
    have n9_ : Aside0 (Below w.heap.size w w14) := ⟨h9_⟩
    clear BKA
    clear BKC
    clear HB
    clear h0_ h1_ h2_ h3_ h4_ h5_ h6_ h7_ h8_ h9_
    have BKA := n0_
    have BKC := n1_
    have BKB := n2_
    have GWB := n3_
    have GEB := n4_
    have NBA_B := n5_
    have NBB_A := n6_
    have NBC_B := n7_
    have NBB_C := n8_
    have HB := n9_
    clear n0_ n1_ n2_ n3_ n4_ n5_ n6_ n7_ n8_ n9_
    have hHeld : w14.cell? ⟨gbA, 0, none⟩ = some (.int .i64 a0_0) ∧ w14.cell? ⟨gbA, 1, none⟩ = some (.int .i64 a0_1) ∧ w14.cell? ⟨gbA, 2, none⟩ = some (.int .i64 a0_2) ∧ w14.cell? ⟨gbA, 3, none⟩ = some (.int .i64 a0_3) ∧ w14.cell? ⟨gbA, 4, none⟩ = some (.int .i64 a0_4) ∧ w14.cell? ⟨gbA, 5, none⟩ = some (.int .i64 a0_5) ∧ w14.cell? ⟨gbA, 6, none⟩ = some (.slice A0_6 l0_6.length c0_6) := hS_
    refine norm_ (a' := ?_) ?_ ?_
    rotate_left
    ·simp only [putAll, Act.put, List.setIfInBounds_toArray, List.set_cons_zero, List.set_cons_succ]
     rfl
    refine one_ (i := 18) (N := some 31) #[true, true, true, true, true, true, true, true, true, true, true, true, true, true, true, true, true, true, true, false, false, true, false] rfl rfl (one_of HT_.out (by kernel_rfl)) (by decide) (fun K hK => ?_)
    refine goes_ Tryd.func36 (by kernel_rfl) rfl #[.int .i64 a0_5, .int .i64 2199023255552] (by rfl) rfl rfl (by (try simp only [List.map_toArray, List.map_cons, List.map_nil]); first | done | rfl | (simp only [List.length_drop, List.length_take]; rfl)) ?_
    with_reducible refine (billetlaw16_pick.calls a0_5 2199023255552 tJ _ A8.out).mono ?_
    rintro e w' ⟨rfl, ⟨nd, rfl⟩⟩
    refine ⟨_, rfl, ?_⟩
    refine hK.out _ _ ⟨(blk_cell BKA.out 0).trans rfl, (blk_cell BKA.out 1).trans rfl, (blk_cell BKA.out 2).trans rfl, (blk_cell BKA.out 3).trans rfl, (blk_cell BKA.out 4).trans rfl, (blk_cell BKA.out 5).trans rfl, (blk_cell BKA.out 6).trans rfl⟩ (fun hHeld => ?_)
    clear hK K
    refine norm_ (a' := ?_) ?_ ?_
    rotate_left
    ·show Act.put _ (some 31) _ = _
     simp only [Act.put, List.setIfInBounds_toArray, List.set_cons_zero, List.set_cons_succ, i64_w, i32_w]
     rfl
    refine pure_ (i := 19) (N := some 32) (v := ?_) (a' := ?_) #[true, true, true, true, true, true, true, true, true, true, true, true, true, true, true, true, true, true, true, true, false, true, false] rfl rfl (any_of HT_.out (by kernel_rfl)) (fun _ _ _ h => h) (Or.inl ⟨by rfl, ?_⟩) ?_ ?_
    rotate_left
    ·intro w'
     go_simp
     with_reducible rfl
    rotate_left
    ·simp only [Act.put, List.setIfInBounds_toArray, List.set_cons_zero, List.set_cons_succ, i64_w, i32_w]
     rfl
    refine pure_ (i := 20) (N := some 33) (v := ?_) (a' := ?_) (upT 23 22) rfl rfl (any_of HT_.out (by kernel_rfl)) (fun _ _ _ h => h) (Or.inl ⟨by rfl, ?_⟩) ?_ ?_
    rotate_left
    ·intro w'
     go_simp
     with_reducible rfl
    rotate_left
    ·simp only [Act.put, List.setIfInBounds_toArray, List.set_cons_zero, List.set_cons_succ, i64_w, i32_w]
     rfl
    exact norm_ (by first | (simp only [putAll, Act.put, List.setIfInBounds_toArray, List.set_cons_zero, List.set_cons_succ]; done) | (simp only [putAll, Act.put, List.setIfInBounds_toArray, List.set_cons_zero, List.set_cons_succ]; rfl)) (hJ2_6_9_12_15_18_21 (gbB) _ ⟨hHeld, (by (with_reducible repeat (first | refine blk_drewN ?_ _ | refine blk_drew ?_ | refine blk_alloc ?_ _)); exact BKA.out), (by (with_reducible repeat (first | refine blk_drewN ?_ _ | refine blk_drew ?_ | refine blk_alloc ?_ _)); exact BKC.out), (by (with_reducible repeat (first | refine blk_drewN ?_ _ | refine blk_drew ?_ | refine blk_alloc ?_ _)); exact BKB.out), GWB.out, GEB.out, NBA_B.out, NBB_A.out, NBC_B.out, NBB_C.out, (by repeat (first | (with_reducible first | exact HB.out | apply below_alloc | apply pw_below_drewN | apply below_drew1 | refine below_set ?_ GEA.out | refine below_set ?_ GEC.out | refine below_set ?_ GEB.out) | exact HB.out))⟩)
  ·skip
   rintro _ w13 ⟨hS_, h0_, h1_, h2_⟩
   have n0_ : Aside0 (w13.heap[gbA]? = some (.cells #[.int .i64 a0_0, .int .i64 a0_1, .int .i64 a0_2, .int .i64 a0_3, .int .i64 a0_4, .int .i64 a0_5, .slice A0_6 l0_6.length c0_6] 31 (0, 0))) := ⟨h0_⟩
   have n1_ : Aside0 (w13.heap[gbC]? = some (.cells #[.int .i64 0, .int .i64 0, .int .i64 0, .int .i64 0, .int .i64 0, .int .i64 0, .slice none 0 0] 31 (0, 0))) := ⟨h1_⟩
   have n2_ : Aside0 (Below w.heap.size w w13) := ⟨h2_⟩
   clear BKA
   clear BKC
   clear HB
   clear h0_ h1_ h2_
   have BKA := n0_
   have BKC := n1_
   have HB := n2_
   clear n0_ n1_ n2_
   have hHeld : w13.cell? ⟨gbA, 0, none⟩ = some (.int .i64 a0_0) ∧ w13.cell? ⟨gbA, 1, none⟩ = some (.int .i64 a0_1) ∧ w13.cell? ⟨gbA, 2, none⟩ = some (.int .i64 a0_2) ∧ w13.cell? ⟨gbA, 3, none⟩ = some (.int .i64 a0_3) ∧ w13.cell? ⟨gbA, 4, none⟩ = some (.int .i64 a0_4) ∧ w13.cell? ⟨gbA, 5, none⟩ = some (.int .i64 a0_5) ∧ w13.cell? ⟨gbA, 6, none⟩ = some (.slice A0_6 l0_6.length c0_6) := hS_
   refine norm_ (a' := ?_) ?_ ?_
   rotate_left
   ·simp only [putAll, Act.put, List.setIfInBounds_toArray, List.set_cons_zero, List.set_cons_succ]
    rfl
   refine one_ (i := 21) (N := some 5) (upT 23 22) rfl rfl (one_of HT_.out (by kernel_rfl)) (by decide) (fun K hK => ?_)
   refine box_step ?hg (N := 5) ?hd (cs := #[.int .i64 0, .int .i64 0, .int .i64 0, .int .i64 0, .int .i64 0, .int .i64 0, .slice none 0 0]) (t := 31) ?hr ?_; (case hd => rfl); (case hg => rfl); (case hr => first | (go_simp; done) | (go_simp; rfl))
   intro gbB hg w14 hbox hb
   have n0_ := Aside0.mk (blk_below (g := gbA) (o := .cells #[.int .i64 a0_0, .int .i64 a0_1, .int .i64 a0_2, .int .i64 a0_3, .int .i64 a0_4, .int .i64 a0_5, .slice A0_6 l0_6.length c0_6] 31 (0, 0)) (by (with_reducible repeat (first | refine blk_drewN ?_ _ | refine blk_drew ?_ | refine blk_alloc ?_ _)); exact BKA.out) hb)
   have n1_ := Aside0.mk (blk_below (g := gbC) (o := .cells #[.int .i64 0, .int .i64 0, .int .i64 0, .int .i64 0, .int .i64 0, .int .i64 0, .slice none 0 0] 31 (0, 0)) (by (with_reducible repeat (first | refine blk_drewN ?_ _ | refine blk_drew ?_ | refine blk_alloc ?_ _)); exact BKC.out) hb)
   have n2_ := Aside0.mk (below_step (by repeat (first | (with_reducible first | exact HB.out | apply below_alloc | apply pw_below_drewN | apply below_drew1 | refine below_set ?_ GEA.out | refine below_set ?_ GEC.out) | exact HB.out)) hb)
   have n3_ := Aside0.mk (hbox)
   have n4_ := Aside0.mk ((by rw [hg]; exact (below_size (by repeat (first | (with_reducible first | exact HB.out | apply below_alloc | apply pw_below_drewN | apply below_drew1 | refine below_set ?_ GEA.out | refine below_set ?_ GEC.out) | exact HB.out))) : w.heap.size ≤ gbB))
   have n5_ := Aside0.mk ((by rw [hg]; exact (below_size (by repeat (first | (with_reducible first | exact HB.out | apply below_alloc | apply pw_below_drewN | apply below_drew1 | refine below_set ?_ GEA.out | refine below_set ?_ GEC.out) | exact HB.out))) : w.heap.size ≤ gbB))
   have n6_ := Aside0.mk ((by rw [hg]; exact Nat.ne_of_lt (blk_lt (g := gbA) (o := .cells #[.int .i64 a0_0, .int .i64 a0_1, .int .i64 a0_2, .int .i64 a0_3, .int .i64 a0_4, .int .i64 a0_5, .slice A0_6 l0_6.length c0_6] 31 (0, 0)) (by (with_reducible repeat (first | refine blk_drewN ?_ _ | refine blk_drew ?_ | refine blk_alloc ?_ _)); exact BKA.out)) : gbA ≠ gbB))
   have n7_ := Aside0.mk ((by rw [hg]; exact Nat.ne_of_gt (blk_lt (g := gbA) (o := .cells #[.int .i64 a0_0, .int .i64 a0_1, .int .i64 a0_2, .int .i64 a0_3, .int .i64 a0_4, .int .i64 a0_5, .slice A0_6 l0_6.length c0_6] 31 (0, 0)) (by (with_reducible repeat (first | refine blk_drewN ?_ _ | refine blk_drew ?_ | refine blk_alloc ?_ _)); exact BKA.out)) : gbB ≠ gbA))
   have n8_ := Aside0.mk ((by rw [hg]; exact Nat.ne_of_lt (blk_lt (g := gbC) (o := .cells #[.int .i64 0, .int .i64 0, .int .i64 0, .int .i64 0, .int .i64 0, .int .i64 0, .slice none 0 0] 31 (0, 0)) (by (with_reducible repeat (first | refine blk_drewN ?_ _ | refine blk_drew ?_ | refine blk_alloc ?_ _)); exact BKC.out)) : gbC ≠ gbB))
   have n9_ := Aside0.mk ((by rw [hg]; exact Nat.ne_of_gt (blk_lt (g := gbC) (o := .cells #[.int .i64 0, .int .i64 0, .int .i64 0, .int .i64 0, .int .i64 0, .int .i64 0, .slice none 0 0] 31 (0, 0)) (by (with_reducible repeat (first | refine blk_drewN ?_ _ | refine blk_drew ?_ | refine blk_alloc ?_ _)); exact BKC.out)) : gbB ≠ gbC))
   clear BKA
   clear BKC
   clear HB
   have BKA := n0_
   have BKC := n1_
   have HB := n2_
   have BKB := n3_
   have GWB := n4_
   have GEB := n5_
   have NBA_B := n6_
   have NBB_A := n7_
   have NBC_B := n8_
   have NBB_C := n9_
   clear n0_ n1_ n2_ n3_ n4_ n5_ n6_ n7_ n8_ n9_
   clear hb hbox hg
   refine hK.out _ _ ⟨(blk_cell BKA.out 0).trans rfl, (blk_cell BKA.out 1).trans rfl, (blk_cell BKA.out 2).trans rfl, (blk_cell BKA.out 3).trans rfl, (blk_cell BKA.out 4).trans rfl, (blk_cell BKA.out 5).trans rfl, (blk_cell BKA.out 6).trans rfl⟩ (fun hHeld => ?_)
   clear hK K
   refine norm_ (a' := ?_) ?_ ?_
   rotate_left
   ·show Act.put _ (some 5) _ = _
    simp only [Act.put, List.setIfInBounds_toArray, List.set_cons_zero, List.set_cons_succ, i64_w, i32_w]
    rfl
   exact norm_ (by first | (simp only [putAll, Act.put, List.setIfInBounds_toArray, List.set_cons_zero, List.set_cons_succ]; done) | (simp only [putAll, Act.put, List.setIfInBounds_toArray, List.set_cons_zero, List.set_cons_succ]; rfl)) (hJ2_6_9_12_15_18_21 (gbB) _ ⟨hHeld, (by (with_reducible repeat (first | refine blk_drewN ?_ _ | refine blk_drew ?_ | refine blk_alloc ?_ _)); exact BKA.out), (by (with_reducible repeat (first | refine blk_drewN ?_ _ | refine blk_drew ?_ | refine blk_alloc ?_ _)); exact BKC.out), (by (with_reducible repeat (first | refine blk_drewN ?_ _ | refine blk_drew ?_ | refine blk_alloc ?_ _)); exact BKB.out), GWB.out, GEB.out, NBA_B.out, NBB_A.out, NBC_B.out, NBB_C.out, (by repeat (first | (with_reducible first | exact HB.out | apply below_alloc | apply pw_below_drewN | apply below_drew1 | refine below_set ?_ GEA.out | refine below_set ?_ GEC.out | refine below_set ?_ GEB.out) | exact HB.out))⟩)
 rintro gbB w14 ⟨hS_, h0_, h1_, h2_, h3_, h4_, h5_, h6_, h7_, h8_, h9_⟩
 have n0_ : Aside0 (w14.heap[gbA]? = some (.cells #[.int .i64 a0_0, .int .i64 a0_1, .int .i64 a0_2, .int .i64 a0_3, .int .i64 a0_4, .int .i64 a0_5, .slice A0_6 l0_6.length c0_6] 31 (0, 0))) := ⟨h0_⟩
 have n1_ : Aside0 (w14.heap[gbC]? = some (.cells #[.int .i64 0, .int .i64 0, .int .i64 0, .int .i64 0, .int .i64 0, .int .i64 0, .slice none 0 0] 31 (0, 0))) := ⟨h1_⟩
 have n2_ : Aside0 (w14.heap[gbB]? = some (.cells #[.int .i64 0, .int .i64 0, .int .i64 0, .int .i64 0, .int .i64 0, .int .i64 0, .slice none 0 0] 31 (0, 0))) := ⟨h2_⟩
 have n3_ : Aside0 (w.heap.size ≤ gbB) := ⟨h3_⟩
 have n4_ : Aside0 (w.heap.size ≤ gbB) := ⟨h4_⟩
 have n5_ : Aside0 (gbA ≠ gbB) := ⟨h5_⟩
 have n6_ : Aside0 (gbB ≠ gbA) := ⟨h6_⟩
 have n7_ : Aside0 (gbC ≠ gbB) := ⟨h7_⟩
 have n8_ : Aside0 (gbB ≠ gbC) := ⟨h8_⟩
 have n9_ : Aside0 (Below w.heap.size w w14) := ⟨h9_⟩
 clear BKA
 clear BKC
 clear HB
 clear h0_ h1_ h2_ h3_ h4_ h5_ h6_ h7_ h8_ h9_
 have BKA := n0_
 have BKC := n1_
 have BKB := n2_
 have GWB := n3_
 have GEB := n4_
 have NBA_B := n5_
 have NBB_A := n6_
 have NBC_B := n7_
 have NBB_C := n8_
 have HB := n9_
 clear n0_ n1_ n2_ n3_ n4_ n5_ n6_ n7_ n8_ n9_
 have hHeld : w14.cell? ⟨gbA, 0, none⟩ = some (.int .i64 a0_0) ∧ w14.cell? ⟨gbA, 1, none⟩ = some (.int .i64 a0_1) ∧ w14.cell? ⟨gbA, 2, none⟩ = some (.int .i64 a0_2) ∧ w14.cell? ⟨gbA, 3, none⟩ = some (.int .i64 a0_3) ∧ w14.cell? ⟨gbA, 4, none⟩ = some (.int .i64 a0_4) ∧ w14.cell? ⟨gbA, 5, none⟩ = some (.int .i64 a0_5) ∧ w14.cell? ⟨gbA, 6, none⟩ = some (.slice A0_6 l0_6.length c0_6) := hS_
 refine norm_ (a' := ?_) ?_ ?_
 rotate_left
 ·simp only [putAll, Act.put, List.setIfInBounds_toArray, List.set_cons_zero, List.set_cons_succ]
  rfl
 refine one_ (i := 22) (N := none) (upT 23 23) rfl rfl (one_of HT_.out (by kernel_rfl)) (by decide) (fun K hK => ?_)
 have hs15 : w14.cell? ⟨gbB, 0, none⟩ = some (.int .i64 0) := (blk_cell BKB.out 0).trans rfl
 have hfs15 := blk_frozen BKB.out 0
 have hns15_0 := NBA_B.out
 have hns15_1 := NBC_B.out
 have hms15_0 := NBB_A.out
 have hms15_1 := NBB_C.out
 have hs16 : w14.cell? ⟨gbB, 1, none⟩ = some (.int .i64 0) := (blk_cell BKB.out 1).trans rfl
 have hfs16 := blk_frozen BKB.out 1
 have hns16_0 := NBA_B.out
 have hns16_1 := NBC_B.out
 have hms16_0 := NBB_A.out
 have hms16_1 := NBB_C.out
 have hs17 : w14.cell? ⟨gbB, 2, none⟩ = some (.int .i64 0) := (blk_cell BKB.out 2).trans rfl
 have hfs17 := blk_frozen BKB.out 2
 have hns17_0 := NBA_B.out
 have hns17_1 := NBC_B.out
 have hms17_0 := NBB_A.out
 have hms17_1 := NBB_C.out
 have hs18 : w14.cell? ⟨gbB, 3, none⟩ = some (.int .i64 0) := (blk_cell BKB.out 3).trans rfl
 have hfs18 := blk_frozen BKB.out 3
 have hns18_0 := NBA_B.out
 have hns18_1 := NBC_B.out
 have hms18_0 := NBB_A.out
 have hms18_1 := NBB_C.out
 have hs19 : w14.cell? ⟨gbB, 4, none⟩ = some (.int .i64 0) := (blk_cell BKB.out 4).trans rfl
 have hfs19 := blk_frozen BKB.out 4
 have hns19_0 := NBA_B.out
 have hns19_1 := NBC_B.out
 have hms19_0 := NBB_A.out
 have hms19_1 := NBB_C.out
 have hs20 : w14.cell? ⟨gbB, 5, none⟩ = some (.int .i64 0) := (blk_cell BKB.out 5).trans rfl
 have hfs20 := blk_frozen BKB.out 5
 have hns20_0 := NBA_B.out
 have hns20_1 := NBC_B.out
 have hms20_0 := NBB_A.out
 have hms20_1 := NBB_C.out
 have hs21 : w14.cell? ⟨gbB, 6, none⟩ = some (.slice none 0 0) := (blk_cell BKB.out 6).trans rfl
 have hfs21 := blk_frozen BKB.out 6
 have hns21_0 := NBA_B.out
 have hns21_1 := NBC_B.out
 have hms21_0 := NBB_A.out
 have hms21_1 := NBB_C.out
 refine skip_ (w1 := ?_) (by rfl) rfl ?_ ?_
 rotate_left
 ·go_simp
  rfl
 refine hK.out _ _ ⟨((cell_far (p := ⟨gbB, _, none⟩) NBA_B.out _).trans (((cell_far (p := ⟨gbB, _, none⟩) NBA_B.out _).trans (((cell_far (p := ⟨gbB, _, none⟩) NBA_B.out _).trans (((cell_far (p := ⟨gbB, _, none⟩) NBA_B.out _).trans (((cell_far (p := ⟨gbB, _, none⟩) NBA_B.out _).trans (((cell_far (p := ⟨gbB, _, none⟩) NBA_B.out _).trans (((cell_far (p := ⟨gbB, _, none⟩) NBA_B.out _).trans (hHeld.1)))))))))))))), ((cell_far (p := ⟨gbB, _, none⟩) NBA_B.out _).trans (((cell_far (p := ⟨gbB, _, none⟩) NBA_B.out _).trans (((cell_far (p := ⟨gbB, _, none⟩) NBA_B.out _).trans (((cell_far (p := ⟨gbB, _, none⟩) NBA_B.out _).trans (((cell_far (p := ⟨gbB, _, none⟩) NBA_B.out _).trans (((cell_far (p := ⟨gbB, _, none⟩) NBA_B.out _).trans (((cell_far (p := ⟨gbB, _, none⟩) NBA_B.out _).trans (hHeld.2.1)))))))))))))), ((cell_far (p := ⟨gbB, _, none⟩) NBA_B.out _).trans (((cell_far (p := ⟨gbB, _, none⟩) NBA_B.out _).trans (((cell_far (p := ⟨gbB, _, none⟩) NBA_B.out _).trans (((cell_far (p := ⟨gbB, _, none⟩) NBA_B.out _).trans (((cell_far (p := ⟨gbB, _, none⟩) NBA_B.out _).trans (((cell_far (p := ⟨gbB, _, none⟩) NBA_B.out _).trans (((cell_far (p := ⟨gbB, _, none⟩) NBA_B.out _).trans (hHeld.2.2.1)))))))))))))), ((cell_far (p := ⟨gbB, _, none⟩) NBA_B.out _).trans (((cell_far (p := ⟨gbB, _, none⟩) NBA_B.out _).trans (((cell_far (p := ⟨gbB, _, none⟩) NBA_B.out _).trans (((cell_far (p := ⟨gbB, _, none⟩) NBA_B.out _).trans (((cell_far (p := ⟨gbB, _, none⟩) NBA_B.out _).trans (((cell_far (p := ⟨gbB, _, none⟩) NBA_B.out _).trans (((cell_far (p := ⟨gbB, _, none⟩) NBA_B.out _).trans (hHeld.2.2.2.1)))))))))))))), ((cell_far (p := ⟨gbB, _, none⟩) NBA_B.out _).trans (((cell_far (p := ⟨gbB, _, none⟩) NBA_B.out _).trans (((cell_far (p := ⟨gbB, _, none⟩) NBA_B.out _).trans (((cell_far (p := ⟨gbB, _, none⟩) NBA_B.out _).trans (((cell_far (p := ⟨gbB, _, none⟩) NBA_B.out _).trans (((cell_far (p := ⟨gbB, _, none⟩) NBA_B.out _).trans (((cell_far (p := ⟨gbB, _, none⟩) NBA_B.out _).trans (hHeld.2.2.2.2.1)))))))))))))), ((cell_far (p := ⟨gbB, _, none⟩) NBA_B.out _).trans (((cell_far (p := ⟨gbB, _, none⟩) NBA_B.out _).trans (((cell_far (p := ⟨gbB, _, none⟩) NBA_B.out _).trans (((cell_far (p := ⟨gbB, _, none⟩) NBA_B.out _).trans (((cell_far (p := ⟨gbB, _, none⟩) NBA_B.out _).trans (((cell_far (p := ⟨gbB, _, none⟩) NBA_B.out _).trans (((cell_far (p := ⟨gbB, _, none⟩) NBA_B.out _).trans (hHeld.2.2.2.2.2.1)))))))))))))), ((cell_far (p := ⟨gbB, _, none⟩) NBA_B.out _).trans (((cell_far (p := ⟨gbB, _, none⟩) NBA_B.out _).trans (((cell_far (p := ⟨gbB, _, none⟩) NBA_B.out _).trans (((cell_far (p := ⟨gbB, _, none⟩) NBA_B.out _).trans (((cell_far (p := ⟨gbB, _, none⟩) NBA_B.out _).trans (((cell_far (p := ⟨gbB, _, none⟩) NBA_B.out _).trans (((cell_far (p := ⟨gbB, _, none⟩) NBA_B.out _).trans (hHeld.2.2.2.2.2.2))))))))))))))⟩ (fun hHeld => ?_)
 clear hK K
 refine done_ (done_of HT_.out (by kernel_rfl)) ?_
 try go_wp2_with (first | ((with_reducible refine gate_callee (f := 37) rfl ?_); refine goesL_ (some 35) rfl rfl Tryd.func37 (by kernel_rfl) rfl #[.slice A1 l1.length c1] rfl (by (try simp only [List.map_toArray, List.map_cons, List.map_nil]); first | done | rfl | (simp only [List.length_drop, List.length_take]; rfl)) ?_; (with_reducible refine (billetlaw08_Binds.calls k _ _ l1 tE _ ?side1 ?side2 A9.out).mono ?_); (case side1 => exact Kd.C_below HR1.out (by repeat (first | (with_reducible first | exact HB.out | apply below_alloc | apply pw_below_drewN | apply below_drew1 | refine below_set ?_ GEA.out | refine below_set ?_ GEC.out | refine below_set ?_ GEB.out) | exact HB.out))); (case side2 => exact HC1.out); rintro e w22 ⟨vAG, rfl, ho0, hb⟩; refine ⟨_, rfl, ?_⟩; have n0_ := Aside0.mk (Kd.R_lower ho0 (below_size (by repeat (first | (with_reducible first | exact HB.out | apply below_alloc | apply pw_below_drewN | apply below_drew1 | refine below_set ?_ GEA.out | refine below_set ?_ GEC.out | refine below_set ?_ GEB.out) | exact HB.out)))); have n1_ := Aside0.mk (blk_below (g := gbA) (o := .cells #[.int .i64 a0_0, .int .i64 a0_1, .int .i64 a0_2, .int .i64 a0_3, .int .i64 a0_4, .int .i64 a0_5, .slice A0_6 l0_6.length c0_6] 31 (0, 0)) (by (with_reducible repeat (first | refine blk_drewN ?_ _ | refine blk_drew ?_ | refine blk_alloc ?_ _)); refine blk_far ?_ NBA_B.out _; (with_reducible repeat (first | refine blk_drewN ?_ _ | refine blk_drew ?_ | refine blk_alloc ?_ _)); refine blk_far ?_ NBA_B.out _; (with_reducible repeat (first | refine blk_drewN ?_ _ | refine blk_drew ?_ | refine blk_alloc ?_ _)); refine blk_far ?_ NBA_B.out _; (with_reducible repeat (first | refine blk_drewN ?_ _ | refine blk_drew ?_ | refine blk_alloc ?_ _)); refine blk_far ?_ NBA_B.out _; (with_reducible repeat (first | refine blk_drewN ?_ _ | refine blk_drew ?_ | refine blk_alloc ?_ _)); refine blk_far ?_ NBA_B.out _; (with_reducible repeat (first | refine blk_drewN ?_ _ | refine blk_drew ?_ | refine blk_alloc ?_ _)); refine blk_far ?_ NBA_B.out _; (with_reducible repeat (first | refine blk_drewN ?_ _ | refine blk_drew ?_ | refine blk_alloc ?_ _)); refine blk_far ?_ NBA_B.out _; (with_reducible repeat (first | refine blk_drewN ?_ _ | refine blk_drew ?_ | refine blk_alloc ?_ _)); exact BKA.out) hb); have n2_ := Aside0.mk (blk_below (g := gbC) (o := .cells #[.int .i64 0, .int .i64 0, .int .i64 0, .int .i64 0, .int .i64 0, .int .i64 0, .slice none 0 0] 31 (0, 0)) (by (with_reducible repeat (first | refine blk_drewN ?_ _ | refine blk_drew ?_ | refine blk_alloc ?_ _)); refine blk_far ?_ NBC_B.out _; (with_reducible repeat (first | refine blk_drewN ?_ _ | refine blk_drew ?_ | refine blk_alloc ?_ _)); refine blk_far ?_ NBC_B.out _; (with_reducible repeat (first | refine blk_drewN ?_ _ | refine blk_drew ?_ | refine blk_alloc ?_ _)); refine blk_far ?_ NBC_B.out _; (with_reducible repeat (first | refine blk_drewN ?_ _ | refine blk_drew ?_ | refine blk_alloc ?_ _)); refine blk_far ?_ NBC_B.out _; (with_reducible repeat (first | refine blk_drewN ?_ _ | refine blk_drew ?_ | refine blk_alloc ?_ _)); refine blk_far ?_ NBC_B.out _; (with_reducible repeat (first | refine blk_drewN ?_ _ | refine blk_drew ?_ | refine blk_alloc ?_ _)); refine blk_far ?_ NBC_B.out _; (with_reducible repeat (first | refine blk_drewN ?_ _ | refine blk_drew ?_ | refine blk_alloc ?_ _)); refine blk_far ?_ NBC_B.out _; (with_reducible repeat (first | refine blk_drewN ?_ _ | refine blk_drew ?_ | refine blk_alloc ?_ _)); exact BKC.out) hb); have n3_ := Aside0.mk (blk_below (g := gbB) (o := .cells #[.int .i64 (wrap64 (1 + tH)), .int .i64 tI, .int .i64 tK, .int .i64 tL, .int .i64 tM, .int .i64 (wrap64 (tJ - 1000)), .slice none 0 0] 31 (0, 0)) (by (with_reducible repeat (first | refine blk_drewN ?_ _ | refine blk_drew ?_ | refine blk_alloc ?_ _)); refine blk_put (cs := #[.int .i64 (wrap64 (1 + tH)), .int .i64 tI, .int .i64 tK, .int .i64 tL, .int .i64 tM, .int .i64 (wrap64 (tJ - 1000)), .slice none 0 0]) ?_ 6 _ rfl; (with_reducible repeat (first | refine blk_drewN ?_ _ | refine blk_drew ?_ | refine blk_alloc ?_ _)); refine blk_put (cs := #[.int .i64 (wrap64 (1 + tH)), .int .i64 tI, .int .i64 tK, .int .i64 tL, .int .i64 tM, .int .i64 0, .slice none 0 0]) ?_ 5 _ rfl; (with_reducible repeat (first | refine blk_drewN ?_ _ | refine blk_drew ?_ | refine blk_alloc ?_ _)); refine blk_put (cs := #[.int .i64 (wrap64 (1 + tH)), .int .i64 tI, .int .i64 tK, .int .i64 tL, .int .i64 0, .int .i64 0, .slice none 0 0]) ?_ 4 _ rfl; (with_reducible repeat (first | refine blk_drewN ?_ _ | refine blk_drew ?_ | refine blk_alloc ?_ _)); refine blk_put (cs := #[.int .i64 (wrap64 (1 + tH)), .int .i64 tI, .int .i64 tK, .int .i64 0, .int .i64 0, .int .i64 0, .slice none 0 0]) ?_ 3 _ rfl; (with_reducible repeat (first | refine blk_drewN ?_ _ | refine blk_drew ?_ | refine blk_alloc ?_ _)); refine blk_put (cs := #[.int .i64 (wrap64 (1 + tH)), .int .i64 tI, .int .i64 0, .int .i64 0, .int .i64 0, .int .i64 0, .slice none 0 0]) ?_ 2 _ rfl; (with_reducible repeat (first | refine blk_drewN ?_ _ | refine blk_drew ?_ | refine blk_alloc ?_ _)); refine blk_put (cs := #[.int .i64 (wrap64 (1 + tH)), .int .i64 0, .int .i64 0, .int .i64 0, .int .i64 0, .int .i64 0, .slice none 0 0]) ?_ 1 _ rfl; (with_reducible repeat (first | refine blk_drewN ?_ _ | refine blk_drew ?_ | refine blk_alloc ?_ _)); refine blk_put (cs := #[.int .i64 0, .int .i64 0, .int .i64 0, .int .i64 0, .int .i64 0, .int .i64 0, .slice none 0 0]) ?_ 0 _ rfl; (with_reducible repeat (first | refine blk_drewN ?_ _ | refine blk_drew ?_ | refine blk_alloc ?_ _)); exact BKB.out) hb); have n4_ := Aside0.mk (below_step (by repeat (first | (with_reducible first | exact HB.out | apply below_alloc | apply pw_below_drewN | apply below_drew1 | refine below_set ?_ GEA.out | refine below_set ?_ GEC.out | refine below_set ?_ GEB.out) | exact HB.out)) hb); clear BKA; clear BKC; clear BKB; clear HB; have HOBJ := n0_; have BKA := n1_; have BKC := n2_; have BKB := n3_; have HB := n4_; clear n0_ n1_ n2_ n3_ n4_; (try clear hb); (try clear hb2); (try clear hk); (try clear hi); (try clear hge); (try clear ho0)))
 go_loopg [7] k (fun kq v7 w' => ∃ (x7_1 : Int) (xF_1 : List (S35)) (uF : Value), v7 = .int .i64 x7_1 ∧ Aside0 (billetlaw16_Fit.l0 kq tE x7_1 (wrap64 (1 + tH)) tI tK tL tM (wrap64 (tJ - 1000)) xF_1 = some (r1, r2, r3, r4, r5, r6, r7)) ∧ Aside0 (kq ≤ k) ∧ Aside0 (Kd.R k35 35 w' w.heap.size (fun k_ => some k_ ≠ (uF : Value).ownBlock) vAG tE) ∧ Aside0 (Kd.R k35 35 w' w.heap.size (fun k_ => some k_ ≠ (vAG : Value).ownBlock) uF xF_1) ∧ Aside0 (w'.heap[gbA]? = some (.cells #[.int .i64 a0_0, .int .i64 a0_1, .int .i64 a0_2, .int .i64 a0_3, .int .i64 a0_4, .int .i64 a0_5, (.slice A0_6 l0_6.length c0_6)] 31 (0, 0))) ∧ Aside0 (w'.heap[gbC]? = some (.cells #[.int .i64 0, .int .i64 0, .int .i64 0, .int .i64 0, .int .i64 0, .int .i64 0, (.slice none 0 0)] 31 (0, 0))) ∧ Aside0 (w'.heap[gbB]? = some (.cells #[.int .i64 (wrap64 (1 + tH)), .int .i64 tI, .int .i64 tK, .int .i64 tL, .int .i64 tM, .int .i64 (wrap64 (tJ - 1000)), uF] 31 (0, 0))) ∧ Aside0 (Below w.heap.size w w'))
 case atStart => exact ⟨(0), (([] : List (S35))), (.slice none 0 0), (by first | rfl | (simp; done) | (simp [*]; done)), H', ⟨Nat.le_refl _⟩, ⟨by (with_reducible repeat (first | apply Kd.R_alloc | apply Kd.R_drewN | apply Kd.R_drew)); exact Kd.R_mono HOBJ.out (fun _ hk => (by simp [Value.ownBlock]))⟩, ⟨by first | exact Kd.R_nil _ _ _ _ _ | exact Kd.N_nil _ _ _ _ _ | exact Kd.V_nil _ _ _ _ _ | exact Kd.Q_nil _ _ _ _ _ | exact Kd.S_nil _ _ _ _ _⟩, ⟨by (with_reducible repeat (first | refine blk_drewN ?_ _ | refine blk_drew ?_ | refine blk_alloc ?_ _)); exact BKA.out⟩, ⟨by (with_reducible repeat (first | refine blk_drewN ?_ _ | refine blk_drew ?_ | refine blk_alloc ?_ _)); exact BKC.out⟩, ⟨by (with_reducible repeat (first | refine blk_drewN ?_ _ | refine blk_drew ?_ | refine blk_alloc ?_ _)); exact BKB.out⟩, ⟨by repeat (first | (with_reducible first | exact HB.out | apply below_alloc | apply pw_below_drewN | apply below_drew1 | refine below_set ?_ GEA.out | refine below_set ?_ GEC.out | refine below_set ?_ GEB.out) | exact HB.out)⟩⟩
 case round =>
  clear H'
  try clear c1
  try clear p2
  try clear c3
  try clear p6
  obtain ⟨x7_1, xF_1, uF, rfl, HA, HK1, HO_6, HO_F, BKA, BKC, BKB, HB⟩ := hrel
  cases gk with
  | zero => exact absurd HA.out (by simp [billetlaw16_Fit.l0])
  | succ k1 =>
   have H := HA.out
   clear HA
   simp only [billetlaw16_Fit.l0] at H
   by_cases c23 : x7_1 < (tE.length : Int)
   ·rw [if_pos c23] at H
    have c23b0 : decide (x7_1 < (tE.length : Int)) = true := decide_eq_true c23
    clear c23
    by_cases c24 : 0 ≤ x7_1
    ·rw [if_pos c24] at H
     have c24b0 : decide (0 ≤ x7_1) = true := decide_eq_true c24
     clear c24
     have H' := Aside0.mk H
     clear H
     obtain ⟨Ao25, co25, eo25⟩ := Kd.R_slice HO_6.out
     subst eo25
     have pO : 0 ≤ (x7_1 : Int) := of_decide_eq_true (by first | (with_reducible assumption) | assumption)
     have qO : x7_1 < (tE.length : Int) := of_decide_eq_true (by first | (with_reducible assumption) | assumption)
     obtain ⟨adO, eO, hxO_0, hxO_1, hxO_2⟩ := at_T35 (Kd.R_reads' HO_6.out).2.2 x7_1 pO qO
     cases eO
     replace pO := eq_true pO
     (try replace pOz := eq_true pOz)
     replace qO := eq_true qO
     (try replace qOz := eq_true qOz)
     go_wp2_with (first | ((with_reducible refine gate_dst (N := 8) rfl ?_); refine box_event ?hg (N := 8) ?hd (cs := #[.string (⟨#[]⟩ : ByteArray), .string (⟨#[]⟩ : ByteArray), .int .i64 0]) (t := 35) ?hr ?_; (case hd => rfl); (case hg => rfl); (case hr => first | (go_simp; done) | (go_simp; rfl)); intro gbD hg w26 hbox hb; have n0_ := Aside0.mk (Kd.R_below (Kd.R_elderB (by (with_reducible repeat (first | apply Kd.R_alloc | apply Kd.R_drewN | apply Kd.R_drew)); exact HO_6.out) gbD (Nat.le_of_eq hg.symm)) hb); have n1_ := Aside0.mk (Kd.R_below (Kd.R_elderB (by (with_reducible repeat (first | apply Kd.R_alloc | apply Kd.R_drewN | apply Kd.R_drew)); exact HO_F.out) gbD (Nat.le_of_eq hg.symm)) hb); have n2_ := Aside0.mk (blk_below (g := gbA) (o := .cells #[.int .i64 a0_0, .int .i64 a0_1, .int .i64 a0_2, .int .i64 a0_3, .int .i64 a0_4, .int .i64 a0_5, .slice A0_6 l0_6.length c0_6] 31 (0, 0)) (by (with_reducible repeat (first | refine blk_drewN ?_ _ | refine blk_drew ?_ | refine blk_alloc ?_ _)); exact BKA.out) hb); have n3_ := Aside0.mk (blk_below (g := gbC) (o := .cells #[.int .i64 0, .int .i64 0, .int .i64 0, .int .i64 0, .int .i64 0, .int .i64 0, .slice none 0 0] 31 (0, 0)) (by (with_reducible repeat (first | refine blk_drewN ?_ _ | refine blk_drew ?_ | refine blk_alloc ?_ _)); exact BKC.out) hb); have n4_ := Aside0.mk (blk_below (g := gbB) (o := .cells #[.int .i64 (wrap64 (1 + tH)), .int .i64 tI, .int .i64 tK, .int .i64 tL, .int .i64 tM, .int .i64 (wrap64 (tJ - 1000)), uF] 31 (0, 0)) (by (with_reducible repeat (first | refine blk_drewN ?_ _ | refine blk_drew ?_ | refine blk_alloc ?_ _)); exact BKB.out) hb); have n5_ := Aside0.mk (below_step (by repeat (first | (with_reducible first | exact HB.out | apply below_alloc | apply pw_below_drewN | apply below_drew1 | refine below_set ?_ GEA.out | refine below_set ?_ GEC.out | refine below_set ?_ GEB.out) | exact HB.out)) hb); have n6_ := Aside0.mk (hbox); have n7_ := Aside0.mk ((by rw [hg]; exact (below_size (by repeat (first | (with_reducible first | exact HB.out | apply below_alloc | apply pw_below_drewN | apply below_drew1 | refine below_set ?_ GEA.out | refine below_set ?_ GEC.out | refine below_set ?_ GEB.out) | exact HB.out))) : w.heap.size ≤ gbD)); have n8_ := Aside0.mk ((by rw [hg]; exact (below_size (by repeat (first | (with_reducible first | exact HB.out | apply below_alloc | apply pw_below_drewN | apply below_drew1 | refine below_set ?_ GEA.out | refine below_set ?_ GEC.out | refine below_set ?_ GEB.out) | exact HB.out))) : w.heap.size ≤ gbD)); have n9_ := Aside0.mk ((by rw [hg]; exact Nat.ne_of_lt (blk_lt (g := gbA) (o := .cells #[.int .i64 a0_0, .int .i64 a0_1, .int .i64 a0_2, .int .i64 a0_3, .int .i64 a0_4, .int .i64 a0_5, .slice A0_6 l0_6.length c0_6] 31 (0, 0)) (by (with_reducible repeat (first | refine blk_drewN ?_ _ | refine blk_drew ?_ | refine blk_alloc ?_ _)); exact BKA.out)) : gbA ≠ gbD)); have n10_ := Aside0.mk ((by rw [hg]; exact Nat.ne_of_gt (blk_lt (g := gbA) (o := .cells #[.int .i64 a0_0, .int .i64 a0_1, .int .i64 a0_2, .int .i64 a0_3, .int .i64 a0_4, .int .i64 a0_5, .slice A0_6 l0_6.length c0_6] 31 (0, 0)) (by (with_reducible repeat (first | refine blk_drewN ?_ _ | refine blk_drew ?_ | refine blk_alloc ?_ _)); exact BKA.out)) : gbD ≠ gbA)); have n11_ := Aside0.mk ((by rw [hg]; exact Nat.ne_of_lt (blk_lt (g := gbC) (o := .cells #[.int .i64 0, .int .i64 0, .int .i64 0, .int .i64 0, .int .i64 0, .int .i64 0, .slice none 0 0] 31 (0, 0)) (by (with_reducible repeat (first | refine blk_drewN ?_ _ | refine blk_drew ?_ | refine blk_alloc ?_ _)); exact BKC.out)) : gbC ≠ gbD)); have n12_ := Aside0.mk ((by rw [hg]; exact Nat.ne_of_gt (blk_lt (g := gbC) (o := .cells #[.int .i64 0, .int .i64 0, .int .i64 0, .int .i64 0, .int .i64 0, .int .i64 0, .slice none 0 0] 31 (0, 0)) (by (with_reducible repeat (first | refine blk_drewN ?_ _ | refine blk_drew ?_ | refine blk_alloc ?_ _)); exact BKC.out)) : gbD ≠ gbC)); have n13_ := Aside0.mk ((by rw [hg]; exact Nat.ne_of_lt (blk_lt (g := gbB) (o := .cells #[.int .i64 (wrap64 (1 + tH)), .int .i64 tI, .int .i64 tK, .int .i64 tL, .int .i64 tM, .int .i64 (wrap64 (tJ - 1000)), uF] 31 (0, 0)) (by (with_reducible repeat (first | refine blk_drewN ?_ _ | refine blk_drew ?_ | refine blk_alloc ?_ _)); exact BKB.out)) : gbB ≠ gbD)); have n14_ := Aside0.mk ((by rw [hg]; exact Nat.ne_of_gt (blk_lt (g := gbB) (o := .cells #[.int .i64 (wrap64 (1 + tH)), .int .i64 tI, .int .i64 tK, .int .i64 tL, .int .i64 tM, .int .i64 (wrap64 (tJ - 1000)), uF] 31 (0, 0)) (by (with_reducible repeat (first | refine blk_drewN ?_ _ | refine blk_drew ?_ | refine blk_alloc ?_ _)); exact BKB.out)) : gbD ≠ gbB)); clear HO_6; clear HO_F; clear BKA; clear BKC; clear BKB; clear HB; have HO_6 := n0_; have HO_F := n1_; have BKA := n2_; have BKC := n3_; have BKB := n4_; have HB := n5_; have BKD := n6_; have GWD := n7_; have GED := n8_; have NBA_D := n9_; have NBD_A := n10_; have NBC_D := n11_; have NBD_C := n12_; have NBB_D := n13_; have NBD_B := n14_; clear n0_ n1_ n2_ n3_ n4_ n5_ n6_ n7_ n8_ n9_ n10_ n11_ n12_ n13_ n14_; clear hb hbox hg; have hnb27 := NBD_A.out; have hnc27 := NBA_D.out; have hnb28 := NBD_C.out; have hnc28 := NBC_D.out; have hnb29 := NBD_B.out; have hnc29 := NBB_D.out; have hcz30_0 : w26.cell? ⟨gbD, 0, none⟩ = some (.string (⟨#[]⟩ : ByteArray)) := (blk_cell BKD.out 0).trans rfl; have hcz30_1 : w26.cell? ⟨gbD, 1, none⟩ = some (.string (⟨#[]⟩ : ByteArray)) := (blk_cell BKD.out 1).trans rfl; have hcz30_2 : w26.cell? ⟨gbD, 2, none⟩ = some (.int .i64 0) := (blk_cell BKD.out 2).trans rfl; have hfz30_0 := blk_frozen BKD.out 0; have hfz30_1 := blk_frozen BKD.out 1; have hfz30_2 := blk_frozen BKD.out 2))
     go_loopg [9, 10, 11] k1 (fun kq v9 v10 v11 w' => ∃ (x9_2 : List (S35)) (x10_2 : Bool) (x11_2 : Int), v10 = .bool x10_2 ∧ v11 = .int .i64 x11_2 ∧ Aside0 (billetlaw16_Fit.l1 kq tE x7_1 x9_2 x10_2 x11_2 (wrap64 (1 + tH)) tI tK tL tM (wrap64 (tJ - 1000)) xF_1 ((rd_T35 tE x7_1).f0) ((rd_T35 tE x7_1).f1) (wrap64 (((rd_T35 tE x7_1).f2) + 1)) = some (r1, r2, r3, r4, r5, r6, r7)) ∧ Aside0 (kq ≤ k1) ∧ Aside0 (Kd.R k35 35 w' w.heap.size (fun k_ => some k_ ≠ (v9 : Value).ownBlock ∧ some k_ ≠ (uF : Value).ownBlock ∧ k_ ≠ gbD) (.slice (some adO) tE.length co25) tE) ∧ Aside0 (Kd.R k35 35 w' w.heap.size (fun k_ => some k_ ≠ ((.slice (some adO) tE.length co25) : Value).ownBlock ∧ some k_ ≠ (uF : Value).ownBlock ∧ k_ ≠ gbD) v9 x9_2) ∧ Aside0 (Kd.R k35 35 w' w.heap.size (fun k_ => some k_ ≠ ((.slice (some adO) tE.length co25) : Value).ownBlock ∧ some k_ ≠ (v9 : Value).ownBlock ∧ k_ ≠ gbD) uF xF_1) ∧ Aside0 (w'.heap[gbA]? = some (.cells #[.int .i64 a0_0, .int .i64 a0_1, .int .i64 a0_2, .int .i64 a0_3, .int .i64 a0_4, .int .i64 a0_5, (.slice A0_6 l0_6.length c0_6)] 31 (0, 0))) ∧ Aside0 (w'.heap[gbC]? = some (.cells #[.int .i64 0, .int .i64 0, .int .i64 0, .int .i64 0, .int .i64 0, .int .i64 0, (.slice none 0 0)] 31 (0, 0))) ∧ Aside0 (w'.heap[gbB]? = some (.cells #[.int .i64 (wrap64 (1 + tH)), .int .i64 tI, .int .i64 tK, .int .i64 tL, .int .i64 tM, .int .i64 (wrap64 (tJ - 1000)), uF] 31 (0, 0))) ∧ Aside0 (w'.heap[gbD]? = some (.cells #[.string ((rd_T35 tE x7_1).f0), .string ((rd_T35 tE x7_1).f1), .int .i64 (wrap64 (((rd_T35 tE x7_1).f2) + 1))] 35 (0, 0))) ∧ Aside0 (Below w.heap.size w w'))
     case atStart => exact ⟨(([] : List (S35))), (false), (0), (by first | rfl | (simp; done) | (simp [*]; done)), (by first | rfl | (simp; done) | (simp [*]; done)), H', ⟨Nat.le_refl _⟩, ⟨by (with_reducible repeat (first | apply Kd.R_alloc | apply Kd.R_drewN | apply Kd.R_drew)); exact Kd.R_mono (Kd.R_far (p := ⟨gbD, 2, none⟩) (Kd.R_far (p := ⟨gbD, 2, none⟩) (Kd.R_far (p := ⟨gbD, 1, none⟩) (Kd.R_far (p := ⟨gbD, 0, none⟩) (Kd.R_mono HO_6.out (fun k_ hk => (⟨hk, hk.2⟩ : _ ∧ k_ ≠ gbD))) (fun _ hk => hk.2) (.string ((rd_T35 tE x7_1).f0))) (fun _ hk => hk.2) (.string ((rd_T35 tE x7_1).f1))) (fun _ hk => hk.2) (.int .i64 ((rd_T35 tE x7_1).f2))) (fun _ hk => hk.2) (.int .i64 (wrap64 (((rd_T35 tE x7_1).f2) + 1)))) (fun _ hk => ⟨(by simp [Value.ownBlock]), ⟨hk.1.1, hk.1.2⟩⟩)⟩, ⟨by first | exact Kd.R_nil _ _ _ _ _ | exact Kd.N_nil _ _ _ _ _ | exact Kd.V_nil _ _ _ _ _ | exact Kd.Q_nil _ _ _ _ _ | exact Kd.S_nil _ _ _ _ _⟩, ⟨by (with_reducible repeat (first | apply Kd.R_alloc | apply Kd.R_drewN | apply Kd.R_drew)); exact Kd.R_mono (Kd.R_far (p := ⟨gbD, 2, none⟩) (Kd.R_far (p := ⟨gbD, 2, none⟩) (Kd.R_far (p := ⟨gbD, 1, none⟩) (Kd.R_far (p := ⟨gbD, 0, none⟩) (Kd.R_mono HO_F.out (fun k_ hk => (⟨hk, hk.2⟩ : _ ∧ k_ ≠ gbD))) (fun _ hk => hk.2) (.string ((rd_T35 tE x7_1).f0))) (fun _ hk => hk.2) (.string ((rd_T35 tE x7_1).f1))) (fun _ hk => hk.2) (.int .i64 ((rd_T35 tE x7_1).f2))) (fun _ hk => hk.2) (.int .i64 (wrap64 (((rd_T35 tE x7_1).f2) + 1)))) (fun _ hk => ⟨hk.1.1, ⟨(by simp [Value.ownBlock]), hk.1.2⟩⟩)⟩, ⟨by (with_reducible repeat (first | refine blk_drewN ?_ _ | refine blk_drew ?_ | refine blk_alloc ?_ _)); refine blk_far ?_ NBA_D.out _; (with_reducible repeat (first | refine blk_drewN ?_ _ | refine blk_drew ?_ | refine blk_alloc ?_ _)); refine blk_far ?_ NBA_D.out _; (with_reducible repeat (first | refine blk_drewN ?_ _ | refine blk_drew ?_ | refine blk_alloc ?_ _)); refine blk_far ?_ NBA_D.out _; (with_reducible repeat (first | refine blk_drewN ?_ _ | refine blk_drew ?_ | refine blk_alloc ?_ _)); refine blk_far ?_ NBA_D.out _; (with_reducible repeat (first | refine blk_drewN ?_ _ | refine blk_drew ?_ | refine blk_alloc ?_ _)); exact BKA.out⟩, ⟨by (with_reducible repeat (first | refine blk_drewN ?_ _ | refine blk_drew ?_ | refine blk_alloc ?_ _)); refine blk_far ?_ NBC_D.out _; (with_reducible repeat (first | refine blk_drewN ?_ _ | refine blk_drew ?_ | refine blk_alloc ?_ _)); refine blk_far ?_ NBC_D.out _; (with_reducible repeat (first | refine blk_drewN ?_ _ | refine blk_drew ?_ | refine blk_alloc ?_ _)); refine blk_far ?_ NBC_D.out _; (with_reducible repeat (first | refine blk_drewN ?_ _ | refine blk_drew ?_ | refine blk_alloc ?_ _)); refine blk_far ?_ NBC_D.out _; (with_reducible repeat (first | refine blk_drewN ?_ _ | refine blk_drew ?_ | refine blk_alloc ?_ _)); exact BKC.out⟩, ⟨by (with_reducible repeat (first | refine blk_drewN ?_ _ | refine blk_drew ?_ | refine blk_alloc ?_ _)); refine blk_far ?_ NBB_D.out _; (with_reducible repeat (first | refine blk_drewN ?_ _ | refine blk_drew ?_ | refine blk_alloc ?_ _)); refine blk_far ?_ NBB_D.out _; (with_reducible repeat (first | refine blk_drewN ?_ _ | refine blk_drew ?_ | refine blk_alloc ?_ _)); refine blk_far ?_ NBB_D.out _; (with_reducible repeat (first | refine blk_drewN ?_ _ | refine blk_drew ?_ | refine blk_alloc ?_ _)); refine blk_far ?_ NBB_D.out _; (with_reducible repeat (first | refine blk_drewN ?_ _ | refine blk_drew ?_ | refine blk_alloc ?_ _)); exact BKB.out⟩, ⟨by (with_reducible repeat (first | refine blk_drewN ?_ _ | refine blk_drew ?_ | refine blk_alloc ?_ _)); refine blk_put (cs := #[.string ((rd_T35 tE x7_1).f0), .string ((rd_T35 tE x7_1).f1), .int .i64 ((rd_T35 tE x7_1).f2)]) ?_ 2 _ rfl; (with_reducible repeat (first | refine blk_drewN ?_ _ | refine blk_drew ?_ | refine blk_alloc ?_ _)); refine blk_put (cs := #[.string ((rd_T35 tE x7_1).f0), .string ((rd_T35 tE x7_1).f1), .int .i64 0]) ?_ 2 _ rfl; (with_reducible repeat (first | refine blk_drewN ?_ _ | refine blk_drew ?_ | refine blk_alloc ?_ _)); refine blk_put (cs := #[.string ((rd_T35 tE x7_1).f0), .string (⟨#[]⟩ : ByteArray), .int .i64 0]) ?_ 1 _ rfl; (with_reducible repeat (first | refine blk_drewN ?_ _ | refine blk_drew ?_ | refine blk_alloc ?_ _)); refine blk_put (cs := #[.string (⟨#[]⟩ : ByteArray), .string (⟨#[]⟩ : ByteArray), .int .i64 0]) ?_ 0 _ rfl; (with_reducible repeat (first | refine blk_drewN ?_ _ | refine blk_drew ?_ | refine blk_alloc ?_ _)); exact BKD.out⟩, ⟨by repeat (first | (with_reducible first | exact HB.out | apply below_alloc | apply pw_below_drewN | apply below_drew1 | refine below_set ?_ GEA.out | refine below_set ?_ GEC.out | refine below_set ?_ GEB.out | refine below_set ?_ GED.out) | exact HB.out)⟩⟩
     case round =>
      clear H'
      try clear c1
      try clear p1
      try clear q1
      try clear hx1
      try clear c2
      try clear p2
      try clear c3
      try clear p6
      try clear p17
      try clear q17
      try clear hx17
      try clear c23
      try clear c23b0
      try clear c24
      try clear c24b0
      try clear c27
      try clear c28
      try clear c29
      try clear hcz30_0
      try clear hcz30_1
      try clear hcz30_2
      try clear hfz30_0
      try clear hfz30_1
      try clear hfz30_2
      try clear hxO_0
      try clear hxO_1
      try clear hxO_2
      try clear pO
      try clear p2
      try clear p6
      try clear qO
      obtain ⟨x9_2, x10_2, x11_2, rfl, rfl, HA, HK2, HO_6, HO_9, HO_F, BKA, BKC, BKB, BKD, HB⟩ := hrel
      cases gk with
      | zero => exact absurd HA.out (by simp [billetlaw16_Fit.l1])
      | succ k2 =>
       have H := HA.out
       clear HA
       simp only [billetlaw16_Fit.l1] at H
       by_cases c31 : x11_2 < (xF_1.length : Int)
       ·rw [if_pos c31] at H
        have c31b0 : decide (x11_2 < (xF_1.length : Int)) = true := decide_eq_true c31
        clear c31
        by_cases c32 : 0 ≤ x11_2
        ·rw [if_pos c32] at H
         have c32b0 : decide (0 ≤ x11_2) = true := decide_eq_true c32
         clear c32
         have HC33 := Aside0.mk H
         clear H
         have hnb34 := NBB_A.out
         have hnc34 := NBA_B.out
         have hnb35 := NBB_C.out
         have hnc35 := NBC_B.out
         have hnb36 := NBB_D.out
         have hnc36 := NBD_B.out
         have hcz37_0 : wr.cell? ⟨gbB, 0, none⟩ = some (.int .i64 (wrap64 (1 + tH))) := (blk_cell BKB.out 0).trans rfl
         have hcz37_1 : wr.cell? ⟨gbB, 1, none⟩ = some (.int .i64 tI) := (blk_cell BKB.out 1).trans rfl
         have hcz37_2 : wr.cell? ⟨gbB, 2, none⟩ = some (.int .i64 tK) := (blk_cell BKB.out 2).trans rfl
         have hcz37_3 : wr.cell? ⟨gbB, 3, none⟩ = some (.int .i64 tL) := (blk_cell BKB.out 3).trans rfl
         have hcz37_4 : wr.cell? ⟨gbB, 4, none⟩ = some (.int .i64 tM) := (blk_cell BKB.out 4).trans rfl
         have hcz37_5 : wr.cell? ⟨gbB, 5, none⟩ = some (.int .i64 (wrap64 (tJ - 1000))) := (blk_cell BKB.out 5).trans rfl
         have hcz37_6 : wr.cell? ⟨gbB, 6, none⟩ = some (uF) := (blk_cell BKB.out 6).trans rfl
         have hfz37_0 := blk_frozen BKB.out 0
         have hfz37_1 := blk_frozen BKB.out 1
         have hfz37_2 := blk_frozen BKB.out 2
         have hfz37_3 := blk_frozen BKB.out 3
         have hfz37_4 := blk_frozen BKB.out 4
         have hfz37_5 := blk_frozen BKB.out 5
         have hfz37_6 := blk_frozen BKB.out 6
         obtain ⟨Ao38, co38, eo38⟩ := Kd.R_slice HO_F.out
         subst eo38
         have pN : 0 ≤ (x11_2 : Int) := of_decide_eq_true (by first | (with_reducible assumption) | assumption)
         have qN : x11_2 < (xF_1.length : Int) := of_decide_eq_true (by first | (with_reducible assumption) | assumption)
         obtain ⟨adN, eN, hxN_0, hxN_1, hxN_2⟩ := at_T35 (Kd.R_reads' HO_F.out).2.2 x11_2 pN qN
         cases eN
         replace pN := eq_true pN
         (try replace pNz := eq_true pNz)
         replace qN := eq_true qN
         (try replace qNz := eq_true qNz)
         go_upto_region 14 with (first | ((with_reducible refine gate_dst (N := 12) rfl ?_); refine box_event ?hg (N := 12) ?hd (cs := #[.string (⟨#[]⟩ : ByteArray), .string (⟨#[]⟩ : ByteArray), .int .i64 0]) (t := 35) ?hr ?_; (case hd => rfl); (case hg => rfl); (case hr => first | (go_simp; done) | (go_simp; rfl)); intro gbG hg w39 hbox hb; have n0_ := Aside0.mk (Kd.R_below (Kd.R_elderB (by (with_reducible repeat (first | apply Kd.R_alloc | apply Kd.R_drewN | apply Kd.R_drew)); exact HO_6.out) gbG (Nat.le_of_eq hg.symm)) hb); have n1_ := Aside0.mk (Kd.R_below (Kd.R_elderB (by (with_reducible repeat (first | apply Kd.R_alloc | apply Kd.R_drewN | apply Kd.R_drew)); exact HO_9.out) gbG (Nat.le_of_eq hg.symm)) hb); have n2_ := Aside0.mk (Kd.R_below (Kd.R_elderB (by (with_reducible repeat (first | apply Kd.R_alloc | apply Kd.R_drewN | apply Kd.R_drew)); exact HO_F.out) gbG (Nat.le_of_eq hg.symm)) hb); have n3_ := Aside0.mk (blk_below (g := gbA) (o := .cells #[.int .i64 a0_0, .int .i64 a0_1, .int .i64 a0_2, .int .i64 a0_3, .int .i64 a0_4, .int .i64 a0_5, .slice A0_6 l0_6.length c0_6] 31 (0, 0)) (by (with_reducible repeat (first | refine blk_drewN ?_ _ | refine blk_drew ?_ | refine blk_alloc ?_ _)); exact BKA.out) hb); have n4_ := Aside0.mk (blk_below (g := gbC) (o := .cells #[.int .i64 0, .int .i64 0, .int .i64 0, .int .i64 0, .int .i64 0, .int .i64 0, .slice none 0 0] 31 (0, 0)) (by (with_reducible repeat (first | refine blk_drewN ?_ _ | refine blk_drew ?_ | refine blk_alloc ?_ _)); exact BKC.out) hb); have n5_ := Aside0.mk (blk_below (g := gbB) (o := .cells #[.int .i64 (wrap64 (1 + tH)), .int .i64 tI, .int .i64 tK, .int .i64 tL, .int .i64 tM, .int .i64 (wrap64 (tJ - 1000)), .slice (some adN) xF_1.length co38] 31 (0, 0)) (by (with_reducible repeat (first | refine blk_drewN ?_ _ | refine blk_drew ?_ | refine blk_alloc ?_ _)); exact BKB.out) hb); have n6_ := Aside0.mk (blk_below (g := gbD) (o := .cells #[.string ((rd_T35 tE x7_1).f0), .string ((rd_T35 tE x7_1).f1), .int .i64 (wrap64 (((rd_T35 tE x7_1).f2) + 1))] 35 (0, 0)) (by (with_reducible repeat (first | refine blk_drewN ?_ _ | refine blk_drew ?_ | refine blk_alloc ?_ _)); exact BKD.out) hb); have n7_ := Aside0.mk (below_step (by repeat (first | (with_reducible first | exact HB.out | apply below_alloc | apply pw_below_drewN | apply below_drew1 | refine below_set ?_ GEA.out | refine below_set ?_ GEC.out | refine below_set ?_ GEB.out | refine below_set ?_ GED.out) | exact HB.out)) hb); have n8_ := Aside0.mk (hbox); have n9_ := Aside0.mk ((by rw [hg]; exact (below_size (by repeat (first | (with_reducible first | exact HB.out | apply below_alloc | apply pw_below_drewN | apply below_drew1 | refine below_set ?_ GEA.out | refine below_set ?_ GEC.out | refine below_set ?_ GEB.out | refine below_set ?_ GED.out) | exact HB.out))) : w.heap.size ≤ gbG)); have n10_ := Aside0.mk ((by rw [hg]; exact (below_size (by repeat (first | (with_reducible first | exact HB.out | apply below_alloc | apply pw_below_drewN | apply below_drew1 | refine below_set ?_ GEA.out | refine below_set ?_ GEC.out | refine below_set ?_ GEB.out | refine below_set ?_ GED.out) | exact HB.out))) : w.heap.size ≤ gbG)); have n11_ := Aside0.mk ((by rw [hg]; exact Nat.ne_of_lt (blk_lt (g := gbA) (o := .cells #[.int .i64 a0_0, .int .i64 a0_1, .int .i64 a0_2, .int .i64 a0_3, .int .i64 a0_4, .int .i64 a0_5, .slice A0_6 l0_6.length c0_6] 31 (0, 0)) (by (with_reducible repeat (first | refine blk_drewN ?_ _ | refine blk_drew ?_ | refine blk_alloc ?_ _)); exact BKA.out)) : gbA ≠ gbG)); have n12_ := Aside0.mk ((by rw [hg]; exact Nat.ne_of_gt (blk_lt (g := gbA) (o := .cells #[.int .i64 a0_0, .int .i64 a0_1, .int .i64 a0_2, .int .i64 a0_3, .int .i64 a0_4, .int .i64 a0_5, .slice A0_6 l0_6.length c0_6] 31 (0, 0)) (by (with_reducible repeat (first | refine blk_drewN ?_ _ | refine blk_drew ?_ | refine blk_alloc ?_ _)); exact BKA.out)) : gbG ≠ gbA)); have n13_ := Aside0.mk ((by rw [hg]; exact Nat.ne_of_lt (blk_lt (g := gbC) (o := .cells #[.int .i64 0, .int .i64 0, .int .i64 0, .int .i64 0, .int .i64 0, .int .i64 0, .slice none 0 0] 31 (0, 0)) (by (with_reducible repeat (first | refine blk_drewN ?_ _ | refine blk_drew ?_ | refine blk_alloc ?_ _)); exact BKC.out)) : gbC ≠ gbG)); have n14_ := Aside0.mk ((by rw [hg]; exact Nat.ne_of_gt (blk_lt (g := gbC) (o := .cells #[.int .i64 0, .int .i64 0, .int .i64 0, .int .i64 0, .int .i64 0, .int .i64 0, .slice none 0 0] 31 (0, 0)) (by (with_reducible repeat (first | refine blk_drewN ?_ _ | refine blk_drew ?_ | refine blk_alloc ?_ _)); exact BKC.out)) : gbG ≠ gbC)); have n15_ := Aside0.mk ((by rw [hg]; exact Nat.ne_of_lt (blk_lt (g := gbB) (o := .cells #[.int .i64 (wrap64 (1 + tH)), .int .i64 tI, .int .i64 tK, .int .i64 tL, .int .i64 tM, .int .i64 (wrap64 (tJ - 1000)), .slice (some adN) xF_1.length co38] 31 (0, 0)) (by (with_reducible repeat (first | refine blk_drewN ?_ _ | refine blk_drew ?_ | refine blk_alloc ?_ _)); exact BKB.out)) : gbB ≠ gbG)); have n16_ := Aside0.mk ((by rw [hg]; exact Nat.ne_of_gt (blk_lt (g := gbB) (o := .cells #[.int .i64 (wrap64 (1 + tH)), .int .i64 tI, .int .i64 tK, .int .i64 tL, .int .i64 tM, .int .i64 (wrap64 (tJ - 1000)), .slice (some adN) xF_1.length co38] 31 (0, 0)) (by (with_reducible repeat (first | refine blk_drewN ?_ _ | refine blk_drew ?_ | refine blk_alloc ?_ _)); exact BKB.out)) : gbG ≠ gbB)); have n17_ := Aside0.mk ((by rw [hg]; exact Nat.ne_of_lt (blk_lt (g := gbD) (o := .cells #[.string ((rd_T35 tE x7_1).f0), .string ((rd_T35 tE x7_1).f1), .int .i64 (wrap64 (((rd_T35 tE x7_1).f2) + 1))] 35 (0, 0)) (by (with_reducible repeat (first | refine blk_drewN ?_ _ | refine blk_drew ?_ | refine blk_alloc ?_ _)); exact BKD.out)) : gbD ≠ gbG)); have n18_ := Aside0.mk ((by rw [hg]; exact Nat.ne_of_gt (blk_lt (g := gbD) (o := .cells #[.string ((rd_T35 tE x7_1).f0), .string ((rd_T35 tE x7_1).f1), .int .i64 (wrap64 (((rd_T35 tE x7_1).f2) + 1))] 35 (0, 0)) (by (with_reducible repeat (first | refine blk_drewN ?_ _ | refine blk_drew ?_ | refine blk_alloc ?_ _)); exact BKD.out)) : gbG ≠ gbD)); clear HO_6; clear HO_9; clear HO_F; clear BKA; clear BKC; clear BKB; clear BKD; clear HB; have HO_6 := n0_; have HO_9 := n1_; have HO_F := n2_; have BKA := n3_; have BKC := n4_; have BKB := n5_; have BKD := n6_; have HB := n7_; have BKG := n8_; have GWG := n9_; have GEG := n10_; have NBA_G := n11_; have NBG_A := n12_; have NBC_G := n13_; have NBG_C := n14_; have NBB_G := n15_; have NBG_B := n16_; have NBD_G := n17_; have NBG_D := n18_; clear n0_ n1_ n2_ n3_ n4_ n5_ n6_ n7_ n8_ n9_ n10_ n11_ n12_ n13_ n14_ n15_ n16_ n17_ n18_; clear hb hbox hg; have hnb40 := NBG_A.out; have hnc40 := NBA_G.out; have hnb41 := NBG_C.out; have hnc41 := NBC_G.out; have hnb42 := NBG_B.out; have hnc42 := NBB_G.out; have hnb43 := NBG_D.out; have hnc43 := NBD_G.out; have hcz44_0 : w39.cell? ⟨gbG, 0, none⟩ = some (.string (⟨#[]⟩ : ByteArray)) := (blk_cell BKG.out 0).trans rfl; have hcz44_1 : w39.cell? ⟨gbG, 1, none⟩ = some (.string (⟨#[]⟩ : ByteArray)) := (blk_cell BKG.out 1).trans rfl; have hcz44_2 : w39.cell? ⟨gbG, 2, none⟩ = some (.int .i64 0) := (blk_cell BKG.out 2).trans rfl; have hfz44_0 := blk_frozen BKG.out 0; have hfz44_1 := blk_frozen BKG.out 1; have hfz44_2 := blk_frozen BKG.out 2))
         (try simp only [Act.put, List.setIfInBounds_toArray, List.set_cons_zero, List.set_cons_succ])
         go_cut [84] (fun v84 wc => ∃ (kq : Nat) (x84_32 : Bool), v84 = .bool x84_32 ∧ Aside0 (billetlaw16_Fit.j2 kq tE x7_1 x9_2 x10_2 x11_2 x84_32 (wrap64 (1 + tH)) tI tK tL tM (wrap64 (tJ - 1000)) xF_1 ((rd_T35 tE x7_1).f0) ((rd_T35 tE x7_1).f1) (wrap64 (((rd_T35 tE x7_1).f2) + 1)) ((rd_T35 xF_1 x11_2).f0) ((rd_T35 xF_1 x11_2).f1) ((rd_T35 xF_1 x11_2).f2) = some (r1, r2, r3, r4, r5, r6, r7)) ∧ Aside0 (kq ≤ k2) ∧ Aside0 (Kd.R k35 35 wc w.heap.size (fun k_ => some k_ ≠ (u9 : Value).ownBlock ∧ some k_ ≠ ((.slice (some adN) xF_1.length co38) : Value).ownBlock ∧ k_ ≠ gbD ∧ k_ ≠ gbG) (.slice (some adO) tE.length co25) tE) ∧ Aside0 (Kd.R k35 35 wc w.heap.size (fun k_ => some k_ ≠ ((.slice (some adO) tE.length co25) : Value).ownBlock ∧ some k_ ≠ ((.slice (some adN) xF_1.length co38) : Value).ownBlock ∧ k_ ≠ gbD ∧ k_ ≠ gbG) u9 x9_2) ∧ Aside0 (Kd.R k35 35 wc w.heap.size (fun k_ => some k_ ≠ ((.slice (some adO) tE.length co25) : Value).ownBlock ∧ some k_ ≠ (u9 : Value).ownBlock ∧ k_ ≠ gbD ∧ k_ ≠ gbG) (.slice (some adN) xF_1.length co38) xF_1) ∧ Aside0 (wc.heap[gbA]? = some (.cells #[.int .i64 a0_0, .int .i64 a0_1, .int .i64 a0_2, .int .i64 a0_3, .int .i64 a0_4, .int .i64 a0_5, (.slice A0_6 l0_6.length c0_6)] 31 (0, 0))) ∧ Aside0 (wc.heap[gbC]? = some (.cells #[.int .i64 0, .int .i64 0, .int .i64 0, .int .i64 0, .int .i64 0, .int .i64 0, (.slice none 0 0)] 31 (0, 0))) ∧ Aside0 (wc.heap[gbB]? = some (.cells #[.int .i64 (wrap64 (1 + tH)), .int .i64 tI, .int .i64 tK, .int .i64 tL, .int .i64 tM, .int .i64 (wrap64 (tJ - 1000)), (.slice (some adN) xF_1.length co38)] 31 (0, 0))) ∧ Aside0 (wc.heap[gbD]? = some (.cells #[.string ((rd_T35 tE x7_1).f0), .string ((rd_T35 tE x7_1).f1), .int .i64 (wrap64 (((rd_T35 tE x7_1).f2) + 1))] 35 (0, 0))) ∧ Aside0 (wc.heap[gbG]? = some (.cells #[.string ((rd_T35 xF_1 x11_2).f0), .string ((rd_T35 xF_1 x11_2).f1), .int .i64 ((rd_T35 xF_1 x11_2).f2)] 35 (0, 0))) ∧ Aside0 (Below w.heap.size w wc))
         case first =>
          have H := HC33.out
          clear HC33
          by_cases c45 : x10_2 = true
          ·subst c45
           have H1 : (billetlaw16_Fit.j2 k2 tE x7_1 x9_2 true x11_2 false (wrap64 (1 + tH)) tI tK tL tM (wrap64 (tJ - 1000)) xF_1 ((rd_T35 tE x7_1).f0) ((rd_T35 tE x7_1).f1) (wrap64 (((rd_T35 tE x7_1).f2) + 1)) ((rd_T35 xF_1 x11_2).f0) ((rd_T35 xF_1 x11_2).f1) ((rd_T35 xF_1 x11_2).f2)) = some (r1, r2, r3, r4, r5, r6, r7) := by rw [if_pos rfl] at H; exact H
           clear H
           have H := H1
           clear H1
           have H' := Aside0.mk H
           clear H
           go_wp2
           go_meet
           case rel => exact ⟨_, (false), (by first | rfl | (simp; done) | (simp [*]; done)), H', ⟨by have := HK1.out; have := HK2.out; first | omega | exact Nat.le_refl _⟩, ⟨by (with_reducible repeat (first | apply Kd.R_alloc | apply Kd.R_drewN | apply Kd.R_drew)); exact Kd.R_mono (Kd.R_far (p := ⟨gbG, 2, none⟩) (Kd.R_far (p := ⟨gbG, 1, none⟩) (Kd.R_far (p := ⟨gbG, 0, none⟩) (Kd.R_mono HO_6.out (fun k_ hk => (⟨hk, hk.2⟩ : _ ∧ k_ ≠ gbG))) (fun _ hk => hk.2) (.string ((rd_T35 xF_1 x11_2).f0))) (fun _ hk => hk.2) (.string ((rd_T35 xF_1 x11_2).f1))) (fun _ hk => hk.2) (.int .i64 ((rd_T35 xF_1 x11_2).f2))) (fun _ hk => ⟨hk.1.1.1, ⟨hk.1.1.2.1, ⟨hk.1.1.2.2, hk.1.2⟩⟩⟩)⟩, ⟨by (with_reducible repeat (first | apply Kd.R_alloc | apply Kd.R_drewN | apply Kd.R_drew)); exact Kd.R_mono (Kd.R_far (p := ⟨gbG, 2, none⟩) (Kd.R_far (p := ⟨gbG, 1, none⟩) (Kd.R_far (p := ⟨gbG, 0, none⟩) (Kd.R_mono HO_9.out (fun k_ hk => (⟨hk, hk.2⟩ : _ ∧ k_ ≠ gbG))) (fun _ hk => hk.2) (.string ((rd_T35 xF_1 x11_2).f0))) (fun _ hk => hk.2) (.string ((rd_T35 xF_1 x11_2).f1))) (fun _ hk => hk.2) (.int .i64 ((rd_T35 xF_1 x11_2).f2))) (fun _ hk => ⟨hk.1.1.1, ⟨hk.1.1.2.1, ⟨hk.1.1.2.2, hk.1.2⟩⟩⟩)⟩, ⟨by (with_reducible repeat (first | apply Kd.R_alloc | apply Kd.R_drewN | apply Kd.R_drew)); exact Kd.R_mono (Kd.R_far (p := ⟨gbG, 2, none⟩) (Kd.R_far (p := ⟨gbG, 1, none⟩) (Kd.R_far (p := ⟨gbG, 0, none⟩) (Kd.R_mono HO_F.out (fun k_ hk => (⟨hk, hk.2⟩ : _ ∧ k_ ≠ gbG))) (fun _ hk => hk.2) (.string ((rd_T35 xF_1 x11_2).f0))) (fun _ hk => hk.2) (.string ((rd_T35 xF_1 x11_2).f1))) (fun _ hk => hk.2) (.int .i64 ((rd_T35 xF_1 x11_2).f2))) (fun _ hk => ⟨hk.1.1.1, ⟨hk.1.1.2.1, ⟨hk.1.1.2.2, hk.1.2⟩⟩⟩)⟩, ⟨by (with_reducible repeat (first | refine blk_drewN ?_ _ | refine blk_drew ?_ | refine blk_alloc ?_ _)); refine blk_far ?_ NBA_G.out _; (with_reducible repeat (first | refine blk_drewN ?_ _ | refine blk_drew ?_ | refine blk_alloc ?_ _)); refine blk_far ?_ NBA_G.out _; (with_reducible repeat (first | refine blk_drewN ?_ _ | refine blk_drew ?_ | refine blk_alloc ?_ _)); refine blk_far ?_ NBA_G.out _; (with_reducible repeat (first | refine blk_drewN ?_ _ | refine blk_drew ?_ | refine blk_alloc ?_ _)); exact BKA.out⟩, ⟨by (with_reducible repeat (first | refine blk_drewN ?_ _ | refine blk_drew ?_ | refine blk_alloc ?_ _)); refine blk_far ?_ NBC_G.out _; (with_reducible repeat (first | refine blk_drewN ?_ _ | refine blk_drew ?_ | refine blk_alloc ?_ _)); refine blk_far ?_ NBC_G.out _; (with_reducible repeat (first | refine blk_drewN ?_ _ | refine blk_drew ?_ | refine blk_alloc ?_ _)); refine blk_far ?_ NBC_G.out _; (with_reducible repeat (first | refine blk_drewN ?_ _ | refine blk_drew ?_ | refine blk_alloc ?_ _)); exact BKC.out⟩, ⟨by (with_reducible repeat (first | refine blk_drewN ?_ _ | refine blk_drew ?_ | refine blk_alloc ?_ _)); refine blk_far ?_ NBB_G.out _; (with_reducible repeat (first | refine blk_drewN ?_ _ | refine blk_drew ?_ | refine blk_alloc ?_ _)); refine blk_far ?_ NBB_G.out _; (with_reducible repeat (first | refine blk_drewN ?_ _ | refine blk_drew ?_ | refine blk_alloc ?_ _)); refine blk_far ?_ NBB_G.out _; (with_reducible repeat (first | refine blk_drewN ?_ _ | refine blk_drew ?_ | refine blk_alloc ?_ _)); exact BKB.out⟩, ⟨by (with_reducible repeat (first | refine blk_drewN ?_ _ | refine blk_drew ?_ | refine blk_alloc ?_ _)); refine blk_far ?_ NBD_G.out _; (with_reducible repeat (first | refine blk_drewN ?_ _ | refine blk_drew ?_ | refine blk_alloc ?_ _)); refine blk_far ?_ NBD_G.out _; (with_reducible repeat (first | refine blk_drewN ?_ _ | refine blk_drew ?_ | refine blk_alloc ?_ _)); refine blk_far ?_ NBD_G.out _; (with_reducible repeat (first | refine blk_drewN ?_ _ | refine blk_drew ?_ | refine blk_alloc ?_ _)); exact BKD.out⟩, ⟨by (with_reducible repeat (first | refine blk_drewN ?_ _ | refine blk_drew ?_ | refine blk_alloc ?_ _)); refine blk_put (cs := #[.string ((rd_T35 xF_1 x11_2).f0), .string ((rd_T35 xF_1 x11_2).f1), .int .i64 0]) ?_ 2 _ rfl; (with_reducible repeat (first | refine blk_drewN ?_ _ | refine blk_drew ?_ | refine blk_alloc ?_ _)); refine blk_put (cs := #[.string ((rd_T35 xF_1 x11_2).f0), .string (⟨#[]⟩ : ByteArray), .int .i64 0]) ?_ 1 _ rfl; (with_reducible repeat (first | refine blk_drewN ?_ _ | refine blk_drew ?_ | refine blk_alloc ?_ _)); refine blk_put (cs := #[.string (⟨#[]⟩ : ByteArray), .string (⟨#[]⟩ : ByteArray), .int .i64 0]) ?_ 0 _ rfl; (with_reducible repeat (first | refine blk_drewN ?_ _ | refine blk_drew ?_ | refine blk_alloc ?_ _)); exact BKG.out⟩, ⟨by repeat (first | (with_reducible first | exact HB.out | apply below_alloc | apply pw_below_drewN | apply below_drew1 | refine below_set ?_ GEA.out | refine below_set ?_ GEC.out | refine below_set ?_ GEB.out | refine below_set ?_ GED.out | refine below_set ?_ GEG.out) | exact HB.out)⟩⟩
          ·replace c45 := Bool.eq_false_iff.mpr c45
           subst c45
           have H1 : (if (Op.bytesLess ((rd_T35 tE x7_1).f0).toList (((rd_T35 xF_1 x11_2).f0).toList)) = true then (billetlaw16_Fit.j2 k2 tE x7_1 x9_2 false x11_2 true (wrap64 (1 + tH)) tI tK tL tM (wrap64 (tJ - 1000)) xF_1 ((rd_T35 tE x7_1).f0) ((rd_T35 tE x7_1).f1) (wrap64 (((rd_T35 tE x7_1).f2) + 1)) ((rd_T35 xF_1 x11_2).f0) ((rd_T35 xF_1 x11_2).f1) ((rd_T35 xF_1 x11_2).f2)) else (if ((rd_T35 xF_1 x11_2).f0).toList = ((rd_T35 tE x7_1).f0).toList then (billetlaw16_Fit.j2 k2 tE x7_1 x9_2 false x11_2 (!(Op.bytesLess (((rd_T35 xF_1 x11_2).f1).toList) ((rd_T35 tE x7_1).f1).toList)) (wrap64 (1 + tH)) tI tK tL tM (wrap64 (tJ - 1000)) xF_1 ((rd_T35 tE x7_1).f0) ((rd_T35 tE x7_1).f1) (wrap64 (((rd_T35 tE x7_1).f2) + 1)) ((rd_T35 xF_1 x11_2).f0) ((rd_T35 xF_1 x11_2).f1) ((rd_T35 xF_1 x11_2).f2)) else (billetlaw16_Fit.j2 k2 tE x7_1 x9_2 false x11_2 false (wrap64 (1 + tH)) tI tK tL tM (wrap64 (tJ - 1000)) xF_1 ((rd_T35 tE x7_1).f0) ((rd_T35 tE x7_1).f1) (wrap64 (((rd_T35 tE x7_1).f2) + 1)) ((rd_T35 xF_1 x11_2).f0) ((rd_T35 xF_1 x11_2).f1) ((rd_T35 xF_1 x11_2).f2)))) = some (r1, r2, r3, r4, r5, r6, r7) := by rw [if_neg (show ¬ (false = true) by decide)] at H; exact H
           clear H
           have H := H1
           clear H1
           by_cases c46 : (Op.bytesLess ((rd_T35 tE x7_1).f0).toList (((rd_T35 xF_1 x11_2).f0).toList)) = true
           ·rw [if_pos c46] at H
            have c46b0 : (Op.bytesLess ((rd_T35 tE x7_1).f0).toList (((rd_T35 xF_1 x11_2).f0).toList)) = true := c46
            clear c46
            (first | rw [c46b0] | (simp only [i64_w, i32_w]; rw [c46b0]) | skip)
            have H' := Aside0.mk H
            clear H
            have hnb47 := NBG_A.out
            have hnc47 := NBA_G.out
            have hnb48 := NBG_C.out
            have hnc48 := NBC_G.out
            have hnb49 := NBG_B.out
            have hnc49 := NBB_G.out
            have hnb50 := NBG_D.out
            have hnc50 := NBD_G.out
            have hcz51_0 : w39.cell? ⟨gbG, 0, none⟩ = some (.string (⟨#[]⟩ : ByteArray)) := (blk_cell BKG.out 0).trans rfl
            have hcz51_1 : w39.cell? ⟨gbG, 1, none⟩ = some (.string (⟨#[]⟩ : ByteArray)) := (blk_cell BKG.out 1).trans rfl
            have hcz51_2 : w39.cell? ⟨gbG, 2, none⟩ = some (.int .i64 0) := (blk_cell BKG.out 2).trans rfl
            have hfz51_0 := blk_frozen BKG.out 0
            have hfz51_1 := blk_frozen BKG.out 1
            have hfz51_2 := blk_frozen BKG.out 2
            have hnb52 := NBD_A.out
            have hnc52 := NBA_D.out
            have hnb53 := NBD_C.out
            have hnc53 := NBC_D.out
            have hnb54 := NBD_B.out
            have hnc54 := NBB_D.out
            have hcz55_0 : w39.cell? ⟨gbD, 0, none⟩ = some (.string ((rd_T35 tE x7_1).f0)) := (blk_cell BKD.out 0).trans rfl
            have hcz55_1 : w39.cell? ⟨gbD, 1, none⟩ = some (.string ((rd_T35 tE x7_1).f1)) := (blk_cell BKD.out 1).trans rfl
            have hcz55_2 : w39.cell? ⟨gbD, 2, none⟩ = some (.int .i64 (wrap64 (((rd_T35 tE x7_1).f2) + 1))) := (blk_cell BKD.out 2).trans rfl
            have hfz55_0 := blk_frozen BKD.out 0
            have hfz55_1 := blk_frozen BKD.out 1
            have hfz55_2 := blk_frozen BKD.out 2
            go_wp2
            go_meet
            case rel => exact ⟨_, (true), (by first | rfl | (simp; done) | (simp [*]; done)), H', ⟨by have := HK1.out; have := HK2.out; first | omega | exact Nat.le_refl _⟩, ⟨by (with_reducible repeat (first | apply Kd.R_alloc | apply Kd.R_drewN | apply Kd.R_drew)); exact Kd.R_mono (Kd.R_far (p := ⟨gbG, 2, none⟩) (Kd.R_far (p := ⟨gbG, 1, none⟩) (Kd.R_far (p := ⟨gbG, 0, none⟩) (Kd.R_mono HO_6.out (fun k_ hk => (⟨hk, hk.2⟩ : _ ∧ k_ ≠ gbG))) (fun _ hk => hk.2) (.string ((rd_T35 xF_1 x11_2).f0))) (fun _ hk => hk.2) (.string ((rd_T35 xF_1 x11_2).f1))) (fun _ hk => hk.2) (.int .i64 ((rd_T35 xF_1 x11_2).f2))) (fun _ hk => ⟨hk.1.1.1, ⟨hk.1.1.2.1, ⟨hk.1.1.2.2, hk.1.2⟩⟩⟩)⟩, ⟨by (with_reducible repeat (first | apply Kd.R_alloc | apply Kd.R_drewN | apply Kd.R_drew)); exact Kd.R_mono (Kd.R_far (p := ⟨gbG, 2, none⟩) (Kd.R_far (p := ⟨gbG, 1, none⟩) (Kd.R_far (p := ⟨gbG, 0, none⟩) (Kd.R_mono HO_9.out (fun k_ hk => (⟨hk, hk.2⟩ : _ ∧ k_ ≠ gbG))) (fun _ hk => hk.2) (.string ((rd_T35 xF_1 x11_2).f0))) (fun _ hk => hk.2) (.string ((rd_T35 xF_1 x11_2).f1))) (fun _ hk => hk.2) (.int .i64 ((rd_T35 xF_1 x11_2).f2))) (fun _ hk => ⟨hk.1.1.1, ⟨hk.1.1.2.1, ⟨hk.1.1.2.2, hk.1.2⟩⟩⟩)⟩, ⟨by (with_reducible repeat (first | apply Kd.R_alloc | apply Kd.R_drewN | apply Kd.R_drew)); exact Kd.R_mono (Kd.R_far (p := ⟨gbG, 2, none⟩) (Kd.R_far (p := ⟨gbG, 1, none⟩) (Kd.R_far (p := ⟨gbG, 0, none⟩) (Kd.R_mono HO_F.out (fun k_ hk => (⟨hk, hk.2⟩ : _ ∧ k_ ≠ gbG))) (fun _ hk => hk.2) (.string ((rd_T35 xF_1 x11_2).f0))) (fun _ hk => hk.2) (.string ((rd_T35 xF_1 x11_2).f1))) (fun _ hk => hk.2) (.int .i64 ((rd_T35 xF_1 x11_2).f2))) (fun _ hk => ⟨hk.1.1.1, ⟨hk.1.1.2.1, ⟨hk.1.1.2.2, hk.1.2⟩⟩⟩)⟩, ⟨by (with_reducible repeat (first | refine blk_drewN ?_ _ | refine blk_drew ?_ | refine blk_alloc ?_ _)); refine blk_far ?_ NBA_G.out _; (with_reducible repeat (first | refine blk_drewN ?_ _ | refine blk_drew ?_ | refine blk_alloc ?_ _)); refine blk_far ?_ NBA_G.out _; (with_reducible repeat (first | refine blk_drewN ?_ _ | refine blk_drew ?_ | refine blk_alloc ?_ _)); refine blk_far ?_ NBA_G.out _; (with_reducible repeat (first | refine blk_drewN ?_ _ | refine blk_drew ?_ | refine blk_alloc ?_ _)); exact BKA.out⟩, ⟨by (with_reducible repeat (first | refine blk_drewN ?_ _ | refine blk_drew ?_ | refine blk_alloc ?_ _)); refine blk_far ?_ NBC_G.out _; (with_reducible repeat (first | refine blk_drewN ?_ _ | refine blk_drew ?_ | refine blk_alloc ?_ _)); refine blk_far ?_ NBC_G.out _; (with_reducible repeat (first | refine blk_drewN ?_ _ | refine blk_drew ?_ | refine blk_alloc ?_ _)); refine blk_far ?_ NBC_G.out _; (with_reducible repeat (first | refine blk_drewN ?_ _ | refine blk_drew ?_ | refine blk_alloc ?_ _)); exact BKC.out⟩, ⟨by (with_reducible repeat (first | refine blk_drewN ?_ _ | refine blk_drew ?_ | refine blk_alloc ?_ _)); refine blk_far ?_ NBB_G.out _; (with_reducible repeat (first | refine blk_drewN ?_ _ | refine blk_drew ?_ | refine blk_alloc ?_ _)); refine blk_far ?_ NBB_G.out _; (with_reducible repeat (first | refine blk_drewN ?_ _ | refine blk_drew ?_ | refine blk_alloc ?_ _)); refine blk_far ?_ NBB_G.out _; (with_reducible repeat (first | refine blk_drewN ?_ _ | refine blk_drew ?_ | refine blk_alloc ?_ _)); exact BKB.out⟩, ⟨by (with_reducible repeat (first | refine blk_drewN ?_ _ | refine blk_drew ?_ | refine blk_alloc ?_ _)); refine blk_far ?_ NBD_G.out _; (with_reducible repeat (first | refine blk_drewN ?_ _ | refine blk_drew ?_ | refine blk_alloc ?_ _)); refine blk_far ?_ NBD_G.out _; (with_reducible repeat (first | refine blk_drewN ?_ _ | refine blk_drew ?_ | refine blk_alloc ?_ _)); refine blk_far ?_ NBD_G.out _; (with_reducible repeat (first | refine blk_drewN ?_ _ | refine blk_drew ?_ | refine blk_alloc ?_ _)); exact BKD.out⟩, ⟨by (with_reducible repeat (first | refine blk_drewN ?_ _ | refine blk_drew ?_ | refine blk_alloc ?_ _)); refine blk_put (cs := #[.string ((rd_T35 xF_1 x11_2).f0), .string ((rd_T35 xF_1 x11_2).f1), .int .i64 0]) ?_ 2 _ rfl; (with_reducible repeat (first | refine blk_drewN ?_ _ | refine blk_drew ?_ | refine blk_alloc ?_ _)); refine blk_put (cs := #[.string ((rd_T35 xF_1 x11_2).f0), .string (⟨#[]⟩ : ByteArray), .int .i64 0]) ?_ 1 _ rfl; (with_reducible repeat (first | refine blk_drewN ?_ _ | refine blk_drew ?_ | refine blk_alloc ?_ _)); refine blk_put (cs := #[.string (⟨#[]⟩ : ByteArray), .string (⟨#[]⟩ : ByteArray), .int .i64 0]) ?_ 0 _ rfl; (with_reducible repeat (first | refine blk_drewN ?_ _ | refine blk_drew ?_ | refine blk_alloc ?_ _)); exact BKG.out⟩, ⟨by repeat (first | (with_reducible first | exact HB.out | apply below_alloc | apply pw_below_drewN | apply below_drew1 | refine below_set ?_ GEA.out | refine below_set ?_ GEC.out | refine below_set ?_ GEB.out | refine below_set ?_ GED.out | refine below_set ?_ GEG.out) | exact HB.out)⟩⟩
           ·rw [if_neg c46] at H
            have c46b0 : (Op.bytesLess ((rd_T35 tE x7_1).f0).toList (((rd_T35 xF_1 x11_2).f0).toList)) = false := by simpa using c46
            clear c46
            (first | rw [c46b0] | (simp only [i64_w, i32_w]; rw [c46b0]) | skip)
            by_cases c56 : ((rd_T35 xF_1 x11_2).f0).toList = ((rd_T35 tE x7_1).f0).toList
            ·rw [if_pos c56] at H
             have c56b0 : (((rd_T35 xF_1 x11_2).f0).toList == ((rd_T35 tE x7_1).f0).toList) = true := beq_iff_eq.mpr c56
             have c56b1 : (((rd_T35 xF_1 x11_2).f0).toList != ((rd_T35 tE x7_1).f0).toList) = false := bne_eq_false_iff_eq.mpr c56
             clear c56
             have H' := Aside0.mk H
             clear H
             have hnb57 := NBG_A.out
             have hnc57 := NBA_G.out
             have hnb58 := NBG_C.out
             have hnc58 := NBC_G.out
             have hnb59 := NBG_B.out
             have hnc59 := NBB_G.out
             have hnb60 := NBG_D.out
             have hnc60 := NBD_G.out
             have hcz61_0 : w39.cell? ⟨gbG, 0, none⟩ = some (.string (⟨#[]⟩ : ByteArray)) := (blk_cell BKG.out 0).trans rfl
             have hcz61_1 : w39.cell? ⟨gbG, 1, none⟩ = some (.string (⟨#[]⟩ : ByteArray)) := (blk_cell BKG.out 1).trans rfl
             have hcz61_2 : w39.cell? ⟨gbG, 2, none⟩ = some (.int .i64 0) := (blk_cell BKG.out 2).trans rfl
             have hfz61_0 := blk_frozen BKG.out 0
             have hfz61_1 := blk_frozen BKG.out 1
             have hfz61_2 := blk_frozen BKG.out 2
             have hnb62 := NBD_A.out
             have hnc62 := NBA_D.out
             have hnb63 := NBD_C.out
             have hnc63 := NBC_D.out
             have hnb64 := NBD_B.out
             have hnc64 := NBB_D.out
             have hcz65_0 : w39.cell? ⟨gbD, 0, none⟩ = some (.string ((rd_T35 tE x7_1).f0)) := (blk_cell BKD.out 0).trans rfl
             have hcz65_1 : w39.cell? ⟨gbD, 1, none⟩ = some (.string ((rd_T35 tE x7_1).f1)) := (blk_cell BKD.out 1).trans rfl
             have hcz65_2 : w39.cell? ⟨gbD, 2, none⟩ = some (.int .i64 (wrap64 (((rd_T35 tE x7_1).f2) + 1))) := (blk_cell BKD.out 2).trans rfl
             have hfz65_0 := blk_frozen BKD.out 0
             have hfz65_1 := blk_frozen BKD.out 1
             have hfz65_2 := blk_frozen BKD.out 2
             go_wp2
             go_meet
             case rel => exact ⟨_, (!(Op.bytesLess (((rd_T35 xF_1 x11_2).f1).toList) ((rd_T35 tE x7_1).f1).toList)), (by first | rfl | (simp; done) | (simp [*]; done)), H', ⟨by have := HK1.out; have := HK2.out; first | omega | exact Nat.le_refl _⟩, ⟨by (with_reducible repeat (first | apply Kd.R_alloc | apply Kd.R_drewN | apply Kd.R_drew)); exact Kd.R_mono (Kd.R_far (p := ⟨gbG, 2, none⟩) (Kd.R_far (p := ⟨gbG, 1, none⟩) (Kd.R_far (p := ⟨gbG, 0, none⟩) (Kd.R_mono HO_6.out (fun k_ hk => (⟨hk, hk.2⟩ : _ ∧ k_ ≠ gbG))) (fun _ hk => hk.2) (.string ((rd_T35 xF_1 x11_2).f0))) (fun _ hk => hk.2) (.string ((rd_T35 xF_1 x11_2).f1))) (fun _ hk => hk.2) (.int .i64 ((rd_T35 xF_1 x11_2).f2))) (fun _ hk => ⟨hk.1.1.1, ⟨hk.1.1.2.1, ⟨hk.1.1.2.2, hk.1.2⟩⟩⟩)⟩, ⟨by (with_reducible repeat (first | apply Kd.R_alloc | apply Kd.R_drewN | apply Kd.R_drew)); exact Kd.R_mono (Kd.R_far (p := ⟨gbG, 2, none⟩) (Kd.R_far (p := ⟨gbG, 1, none⟩) (Kd.R_far (p := ⟨gbG, 0, none⟩) (Kd.R_mono HO_9.out (fun k_ hk => (⟨hk, hk.2⟩ : _ ∧ k_ ≠ gbG))) (fun _ hk => hk.2) (.string ((rd_T35 xF_1 x11_2).f0))) (fun _ hk => hk.2) (.string ((rd_T35 xF_1 x11_2).f1))) (fun _ hk => hk.2) (.int .i64 ((rd_T35 xF_1 x11_2).f2))) (fun _ hk => ⟨hk.1.1.1, ⟨hk.1.1.2.1, ⟨hk.1.1.2.2, hk.1.2⟩⟩⟩)⟩, ⟨by (with_reducible repeat (first | apply Kd.R_alloc | apply Kd.R_drewN | apply Kd.R_drew)); exact Kd.R_mono (Kd.R_far (p := ⟨gbG, 2, none⟩) (Kd.R_far (p := ⟨gbG, 1, none⟩) (Kd.R_far (p := ⟨gbG, 0, none⟩) (Kd.R_mono HO_F.out (fun k_ hk => (⟨hk, hk.2⟩ : _ ∧ k_ ≠ gbG))) (fun _ hk => hk.2) (.string ((rd_T35 xF_1 x11_2).f0))) (fun _ hk => hk.2) (.string ((rd_T35 xF_1 x11_2).f1))) (fun _ hk => hk.2) (.int .i64 ((rd_T35 xF_1 x11_2).f2))) (fun _ hk => ⟨hk.1.1.1, ⟨hk.1.1.2.1, ⟨hk.1.1.2.2, hk.1.2⟩⟩⟩)⟩, ⟨by (with_reducible repeat (first | refine blk_drewN ?_ _ | refine blk_drew ?_ | refine blk_alloc ?_ _)); refine blk_far ?_ NBA_G.out _; (with_reducible repeat (first | refine blk_drewN ?_ _ | refine blk_drew ?_ | refine blk_alloc ?_ _)); refine blk_far ?_ NBA_G.out _; (with_reducible repeat (first | refine blk_drewN ?_ _ | refine blk_drew ?_ | refine blk_alloc ?_ _)); refine blk_far ?_ NBA_G.out _; (with_reducible repeat (first | refine blk_drewN ?_ _ | refine blk_drew ?_ | refine blk_alloc ?_ _)); exact BKA.out⟩, ⟨by (with_reducible repeat (first | refine blk_drewN ?_ _ | refine blk_drew ?_ | refine blk_alloc ?_ _)); refine blk_far ?_ NBC_G.out _; (with_reducible repeat (first | refine blk_drewN ?_ _ | refine blk_drew ?_ | refine blk_alloc ?_ _)); refine blk_far ?_ NBC_G.out _; (with_reducible repeat (first | refine blk_drewN ?_ _ | refine blk_drew ?_ | refine blk_alloc ?_ _)); refine blk_far ?_ NBC_G.out _; (with_reducible repeat (first | refine blk_drewN ?_ _ | refine blk_drew ?_ | refine blk_alloc ?_ _)); exact BKC.out⟩, ⟨by (with_reducible repeat (first | refine blk_drewN ?_ _ | refine blk_drew ?_ | refine blk_alloc ?_ _)); refine blk_far ?_ NBB_G.out _; (with_reducible repeat (first | refine blk_drewN ?_ _ | refine blk_drew ?_ | refine blk_alloc ?_ _)); refine blk_far ?_ NBB_G.out _; (with_reducible repeat (first | refine blk_drewN ?_ _ | refine blk_drew ?_ | refine blk_alloc ?_ _)); refine blk_far ?_ NBB_G.out _; (with_reducible repeat (first | refine blk_drewN ?_ _ | refine blk_drew ?_ | refine blk_alloc ?_ _)); exact BKB.out⟩, ⟨by (with_reducible repeat (first | refine blk_drewN ?_ _ | refine blk_drew ?_ | refine blk_alloc ?_ _)); refine blk_far ?_ NBD_G.out _; (with_reducible repeat (first | refine blk_drewN ?_ _ | refine blk_drew ?_ | refine blk_alloc ?_ _)); refine blk_far ?_ NBD_G.out _; (with_reducible repeat (first | refine blk_drewN ?_ _ | refine blk_drew ?_ | refine blk_alloc ?_ _)); refine blk_far ?_ NBD_G.out _; (with_reducible repeat (first | refine blk_drewN ?_ _ | refine blk_drew ?_ | refine blk_alloc ?_ _)); exact BKD.out⟩, ⟨by (with_reducible repeat (first | refine blk_drewN ?_ _ | refine blk_drew ?_ | refine blk_alloc ?_ _)); refine blk_put (cs := #[.string ((rd_T35 xF_1 x11_2).f0), .string ((rd_T35 xF_1 x11_2).f1), .int .i64 0]) ?_ 2 _ rfl; (with_reducible repeat (first | refine blk_drewN ?_ _ | refine blk_drew ?_ | refine blk_alloc ?_ _)); refine blk_put (cs := #[.string ((rd_T35 xF_1 x11_2).f0), .string (⟨#[]⟩ : ByteArray), .int .i64 0]) ?_ 1 _ rfl; (with_reducible repeat (first | refine blk_drewN ?_ _ | refine blk_drew ?_ | refine blk_alloc ?_ _)); refine blk_put (cs := #[.string (⟨#[]⟩ : ByteArray), .string (⟨#[]⟩ : ByteArray), .int .i64 0]) ?_ 0 _ rfl; (with_reducible repeat (first | refine blk_drewN ?_ _ | refine blk_drew ?_ | refine blk_alloc ?_ _)); exact BKG.out⟩, ⟨by repeat (first | (with_reducible first | exact HB.out | apply below_alloc | apply pw_below_drewN | apply below_drew1 | refine below_set ?_ GEA.out | refine below_set ?_ GEC.out | refine below_set ?_ GEB.out | refine below_set ?_ GED.out | refine below_set ?_ GEG.out) | exact HB.out)⟩⟩
            ·rw [if_neg c56] at H
             have c56b0 : (((rd_T35 xF_1 x11_2).f0).toList == ((rd_T35 tE x7_1).f0).toList) = false := beq_eq_false_iff_ne.mpr c56
             have c56b1 : (((rd_T35 xF_1 x11_2).f0).toList != ((rd_T35 tE x7_1).f0).toList) = true := bne_iff_ne.mpr c56
             have H' := Aside0.mk H
             clear H
             have hnb66 := NBG_A.out
             have hnc66 := NBA_G.out
             have hnb67 := NBG_C.out
             have hnc67 := NBC_G.out
             have hnb68 := NBG_B.out
             have hnc68 := NBB_G.out
             have hnb69 := NBG_D.out
             have hnc69 := NBD_G.out
             have hcz70_0 : w39.cell? ⟨gbG, 0, none⟩ = some (.string (⟨#[]⟩ : ByteArray)) := (blk_cell BKG.out 0).trans rfl
             have hcz70_1 : w39.cell? ⟨gbG, 1, none⟩ = some (.string (⟨#[]⟩ : ByteArray)) := (blk_cell BKG.out 1).trans rfl
             have hcz70_2 : w39.cell? ⟨gbG, 2, none⟩ = some (.int .i64 0) := (blk_cell BKG.out 2).trans rfl
             have hfz70_0 := blk_frozen BKG.out 0
             have hfz70_1 := blk_frozen BKG.out 1
             have hfz70_2 := blk_frozen BKG.out 2
             have hnb71 := NBD_A.out
             have hnc71 := NBA_D.out
             have hnb72 := NBD_C.out
             have hnc72 := NBC_D.out
             have hnb73 := NBD_B.out
             have hnc73 := NBB_D.out
             have hcz74_0 : w39.cell? ⟨gbD, 0, none⟩ = some (.string ((rd_T35 tE x7_1).f0)) := (blk_cell BKD.out 0).trans rfl
             have hcz74_1 : w39.cell? ⟨gbD, 1, none⟩ = some (.string ((rd_T35 tE x7_1).f1)) := (blk_cell BKD.out 1).trans rfl
             have hcz74_2 : w39.cell? ⟨gbD, 2, none⟩ = some (.int .i64 (wrap64 (((rd_T35 tE x7_1).f2) + 1))) := (blk_cell BKD.out 2).trans rfl
             have hfz74_0 := blk_frozen BKD.out 0
             have hfz74_1 := blk_frozen BKD.out 1
             have hfz74_2 := blk_frozen BKD.out 2
             go_wp2
             go_meet
             case rel => exact ⟨_, (false), (by first | rfl | (simp; done) | (simp [*]; done)), H', ⟨by have := HK1.out; have := HK2.out; first | omega | exact Nat.le_refl _⟩, ⟨by (with_reducible repeat (first | apply Kd.R_alloc | apply Kd.R_drewN | apply Kd.R_drew)); exact Kd.R_mono (Kd.R_far (p := ⟨gbG, 2, none⟩) (Kd.R_far (p := ⟨gbG, 1, none⟩) (Kd.R_far (p := ⟨gbG, 0, none⟩) (Kd.R_mono HO_6.out (fun k_ hk => (⟨hk, hk.2⟩ : _ ∧ k_ ≠ gbG))) (fun _ hk => hk.2) (.string ((rd_T35 xF_1 x11_2).f0))) (fun _ hk => hk.2) (.string ((rd_T35 xF_1 x11_2).f1))) (fun _ hk => hk.2) (.int .i64 ((rd_T35 xF_1 x11_2).f2))) (fun _ hk => ⟨hk.1.1.1, ⟨hk.1.1.2.1, ⟨hk.1.1.2.2, hk.1.2⟩⟩⟩)⟩, ⟨by (with_reducible repeat (first | apply Kd.R_alloc | apply Kd.R_drewN | apply Kd.R_drew)); exact Kd.R_mono (Kd.R_far (p := ⟨gbG, 2, none⟩) (Kd.R_far (p := ⟨gbG, 1, none⟩) (Kd.R_far (p := ⟨gbG, 0, none⟩) (Kd.R_mono HO_9.out (fun k_ hk => (⟨hk, hk.2⟩ : _ ∧ k_ ≠ gbG))) (fun _ hk => hk.2) (.string ((rd_T35 xF_1 x11_2).f0))) (fun _ hk => hk.2) (.string ((rd_T35 xF_1 x11_2).f1))) (fun _ hk => hk.2) (.int .i64 ((rd_T35 xF_1 x11_2).f2))) (fun _ hk => ⟨hk.1.1.1, ⟨hk.1.1.2.1, ⟨hk.1.1.2.2, hk.1.2⟩⟩⟩)⟩, ⟨by (with_reducible repeat (first | apply Kd.R_alloc | apply Kd.R_drewN | apply Kd.R_drew)); exact Kd.R_mono (Kd.R_far (p := ⟨gbG, 2, none⟩) (Kd.R_far (p := ⟨gbG, 1, none⟩) (Kd.R_far (p := ⟨gbG, 0, none⟩) (Kd.R_mono HO_F.out (fun k_ hk => (⟨hk, hk.2⟩ : _ ∧ k_ ≠ gbG))) (fun _ hk => hk.2) (.string ((rd_T35 xF_1 x11_2).f0))) (fun _ hk => hk.2) (.string ((rd_T35 xF_1 x11_2).f1))) (fun _ hk => hk.2) (.int .i64 ((rd_T35 xF_1 x11_2).f2))) (fun _ hk => ⟨hk.1.1.1, ⟨hk.1.1.2.1, ⟨hk.1.1.2.2, hk.1.2⟩⟩⟩)⟩, ⟨by (with_reducible repeat (first | refine blk_drewN ?_ _ | refine blk_drew ?_ | refine blk_alloc ?_ _)); refine blk_far ?_ NBA_G.out _; (with_reducible repeat (first | refine blk_drewN ?_ _ | refine blk_drew ?_ | refine blk_alloc ?_ _)); refine blk_far ?_ NBA_G.out _; (with_reducible repeat (first | refine blk_drewN ?_ _ | refine blk_drew ?_ | refine blk_alloc ?_ _)); refine blk_far ?_ NBA_G.out _; (with_reducible repeat (first | refine blk_drewN ?_ _ | refine blk_drew ?_ | refine blk_alloc ?_ _)); exact BKA.out⟩, ⟨by (with_reducible repeat (first | refine blk_drewN ?_ _ | refine blk_drew ?_ | refine blk_alloc ?_ _)); refine blk_far ?_ NBC_G.out _; (with_reducible repeat (first | refine blk_drewN ?_ _ | refine blk_drew ?_ | refine blk_alloc ?_ _)); refine blk_far ?_ NBC_G.out _; (with_reducible repeat (first | refine blk_drewN ?_ _ | refine blk_drew ?_ | refine blk_alloc ?_ _)); refine blk_far ?_ NBC_G.out _; (with_reducible repeat (first | refine blk_drewN ?_ _ | refine blk_drew ?_ | refine blk_alloc ?_ _)); exact BKC.out⟩, ⟨by (with_reducible repeat (first | refine blk_drewN ?_ _ | refine blk_drew ?_ | refine blk_alloc ?_ _)); refine blk_far ?_ NBB_G.out _; (with_reducible repeat (first | refine blk_drewN ?_ _ | refine blk_drew ?_ | refine blk_alloc ?_ _)); refine blk_far ?_ NBB_G.out _; (with_reducible repeat (first | refine blk_drewN ?_ _ | refine blk_drew ?_ | refine blk_alloc ?_ _)); refine blk_far ?_ NBB_G.out _; (with_reducible repeat (first | refine blk_drewN ?_ _ | refine blk_drew ?_ | refine blk_alloc ?_ _)); exact BKB.out⟩, ⟨by (with_reducible repeat (first | refine blk_drewN ?_ _ | refine blk_drew ?_ | refine blk_alloc ?_ _)); refine blk_far ?_ NBD_G.out _; (with_reducible repeat (first | refine blk_drewN ?_ _ | refine blk_drew ?_ | refine blk_alloc ?_ _)); refine blk_far ?_ NBD_G.out _; (with_reducible repeat (first | refine blk_drewN ?_ _ | refine blk_drew ?_ | refine blk_alloc ?_ _)); refine blk_far ?_ NBD_G.out _; (with_reducible repeat (first | refine blk_drewN ?_ _ | refine blk_drew ?_ | refine blk_alloc ?_ _)); exact BKD.out⟩, ⟨by (with_reducible repeat (first | refine blk_drewN ?_ _ | refine blk_drew ?_ | refine blk_alloc ?_ _)); refine blk_put (cs := #[.string ((rd_T35 xF_1 x11_2).f0), .string ((rd_T35 xF_1 x11_2).f1), .int .i64 0]) ?_ 2 _ rfl; (with_reducible repeat (first | refine blk_drewN ?_ _ | refine blk_drew ?_ | refine blk_alloc ?_ _)); refine blk_put (cs := #[.string ((rd_T35 xF_1 x11_2).f0), .string (⟨#[]⟩ : ByteArray), .int .i64 0]) ?_ 1 _ rfl; (with_reducible repeat (first | refine blk_drewN ?_ _ | refine blk_drew ?_ | refine blk_alloc ?_ _)); refine blk_put (cs := #[.string (⟨#[]⟩ : ByteArray), .string (⟨#[]⟩ : ByteArray), .int .i64 0]) ?_ 0 _ rfl; (with_reducible repeat (first | refine blk_drewN ?_ _ | refine blk_drew ?_ | refine blk_alloc ?_ _)); exact BKG.out⟩, ⟨by repeat (first | (with_reducible first | exact HB.out | apply below_alloc | apply pw_below_drewN | apply below_drew1 | refine below_set ?_ GEA.out | refine below_set ?_ GEC.out | refine below_set ?_ GEB.out | refine below_set ?_ GED.out | refine below_set ?_ GEG.out) | exact HB.out)⟩⟩
         case rest =>
          clear HC33
          try clear c1
          try clear p1
          try clear q1
          try clear hx1
          try clear c2
          try clear p2
          try clear c3
          try clear c4
          try clear c5
          try clear c6
          try clear p6
          try clear c7
          try clear p17
          try clear q17
          try clear hx17
          try clear p18
          try clear q18
          try clear hx18
          try clear c23
          try clear c23b0
          try clear c24
          try clear c24b0
          try clear c27
          try clear c28
          try clear c29
          try clear c31
          try clear c31b0
          try clear c32
          try clear c32b0
          try clear c34
          try clear c35
          try clear c36
          try clear c37
          try clear c40
          try clear c41
          try clear c42
          try clear c43
          try clear c45
          try clear c46
          try clear c46b0
          try clear c47
          try clear c48
          try clear c49
          try clear c50
          try clear c52
          try clear c53
          try clear c54
          try clear c56
          try clear c56b0
          try clear c56b1
          try clear c57
          try clear c58
          try clear c59
          try clear c60
          try clear c62
          try clear c63
          try clear c64
          try clear p64
          try clear c66
          try clear c67
          try clear c68
          try clear c69
          try clear c71
          try clear c72
          try clear c73
          try clear hcz30_0
          try clear hcz30_1
          try clear hcz30_2
          try clear hcz37_0
          try clear hcz37_1
          try clear hcz37_2
          try clear hcz37_3
          try clear hcz37_4
          try clear hcz37_5
          try clear hcz37_6
          try clear hcz44_0
          try clear hcz44_1
          try clear hcz44_2
          try clear hcz51_0
          try clear hcz51_1
          try clear hcz51_2
          try clear hcz55_0
          try clear hcz55_1
          try clear hcz55_2
          try clear hcz61_0
          try clear hcz61_1
          try clear hcz61_2
          try clear hcz65_0
          try clear hcz65_1
          try clear hcz65_2
          try clear hcz70_0
          try clear hcz70_1
          try clear hcz70_2
          try clear hcz74_0
          try clear hcz74_1
          try clear hcz74_2
          try clear hfz30_0
          try clear hfz30_1
          try clear hfz30_2
          try clear hfz37_0
          try clear hfz37_1
          try clear hfz37_2
          try clear hfz37_3
          try clear hfz37_4
          try clear hfz37_5
          try clear hfz37_6
          try clear hfz44_0
          try clear hfz44_1
          try clear hfz44_2
          try clear hfz51_0
          try clear hfz51_1
          try clear hfz51_2
          try clear hfz55_0
          try clear hfz55_1
          try clear hfz55_2
          try clear hfz61_0
          try clear hfz61_1
          try clear hfz61_2
          try clear hfz65_0
          try clear hfz65_1
          try clear hfz65_2
          try clear hfz70_0
          try clear hfz70_1
          try clear hfz70_2
          try clear hfz74_0
          try clear hfz74_1
          try clear hfz74_2
          try clear hxO_0
          try clear hxO_1
          try clear hxO_2
          try clear hxN_0
          try clear hxN_1
          try clear hxN_2
          try clear p1
          try clear p17
          try clear pO
          try clear pN
          try clear p2
          try clear p6
          try clear q1
          try clear q17
          try clear qO
          try clear qN
          obtain ⟨kq, x84_32, rfl, HA, HJ32, HO_6, HO_9, HO_F, BKA, BKC, BKB, BKD, BKG, HB⟩ := hcut
          cases kq with
          | zero => exact absurd HA.out (by simp [billetlaw16_Fit.j2])
          | succ kj32 =>
           have H := HA.out
           clear HA
           simp only [billetlaw16_Fit.j2] at H
           by_cases c75 : x84_32 = true
           ·subst c75
            have H1 : (if x9_2.length < 3518437208883 then ((some (x9_2 ++ [(⟨((rd_T35 tE x7_1).f0), ((rd_T35 tE x7_1).f1), (wrap64 (((rd_T35 tE x7_1).f2) + 1))⟩ : S35)] : List (S35))).bind fun yP => (if ((rd_T35 xF_1 x11_2).f0).toList = ((rd_T35 tE x7_1).f0).toList then (if ((rd_T35 xF_1 x11_2).f1).toList = ((rd_T35 tE x7_1).f1).toList then (billetlaw16_Fit.l1 kj32 tE x7_1 yP true (wrap64 (x11_2 + 1)) (wrap64 (1 + tH)) tI tK tL tM (wrap64 (tJ - 1000)) xF_1 ((rd_T35 tE x7_1).f0) ((rd_T35 tE x7_1).f1) (wrap64 (((rd_T35 tE x7_1).f2) + 1))) else (if yP.length < 3518437208883 then (billetlaw16_Fit.l1 kj32 tE x7_1 (yP ++ [(⟨((rd_T35 xF_1 x11_2).f0), ((rd_T35 xF_1 x11_2).f1), ((rd_T35 xF_1 x11_2).f2)⟩ : S35)]) true (wrap64 (x11_2 + 1)) (wrap64 (1 + tH)) tI tK tL tM (wrap64 (tJ - 1000)) xF_1 ((rd_T35 tE x7_1).f0) ((rd_T35 tE x7_1).f1) (wrap64 (((rd_T35 tE x7_1).f2) + 1))) else (none))) else (if yP.length < 3518437208883 then (billetlaw16_Fit.l1 kj32 tE x7_1 (yP ++ [(⟨((rd_T35 xF_1 x11_2).f0), ((rd_T35 xF_1 x11_2).f1), ((rd_T35 xF_1 x11_2).f2)⟩ : S35)]) true (wrap64 (x11_2 + 1)) (wrap64 (1 + tH)) tI tK tL tM (wrap64 (tJ - 1000)) xF_1 ((rd_T35 tE x7_1).f0) ((rd_T35 tE x7_1).f1) (wrap64 (((rd_T35 tE x7_1).f2) + 1))) else (none)))) else (none)) = some (r1, r2, r3, r4, r5, r6, r7) := by rw [if_pos rfl] at H; exact H
            clear H
            have H := H1
            clear H1
            by_cases c76 : x9_2.length < 3518437208883
            ·rw [if_pos c76] at H
             have LMc76 := Aside0.mk c76
             clear c76
             obtain ⟨yP, hyP⟩ : ∃ y_ : List (S35), y_ = (x9_2 ++ [(⟨((rd_T35 tE x7_1).f0), ((rd_T35 tE x7_1).f1), (wrap64 (((rd_T35 tE x7_1).f2) + 1))⟩ : S35)]) := ⟨_, rfl⟩
             replace H : (if ((rd_T35 xF_1 x11_2).f0).toList = ((rd_T35 tE x7_1).f0).toList then (if ((rd_T35 xF_1 x11_2).f1).toList = ((rd_T35 tE x7_1).f1).toList then (billetlaw16_Fit.l1 kj32 tE x7_1 yP true (wrap64 (x11_2 + 1)) (wrap64 (1 + tH)) tI tK tL tM (wrap64 (tJ - 1000)) xF_1 ((rd_T35 tE x7_1).f0) ((rd_T35 tE x7_1).f1) (wrap64 (((rd_T35 tE x7_1).f2) + 1))) else (if yP.length < 3518437208883 then (billetlaw16_Fit.l1 kj32 tE x7_1 (yP ++ [(⟨((rd_T35 xF_1 x11_2).f0), ((rd_T35 xF_1 x11_2).f1), ((rd_T35 xF_1 x11_2).f2)⟩ : S35)]) true (wrap64 (x11_2 + 1)) (wrap64 (1 + tH)) tI tK tL tM (wrap64 (tJ - 1000)) xF_1 ((rd_T35 tE x7_1).f0) ((rd_T35 tE x7_1).f1) (wrap64 (((rd_T35 tE x7_1).f2) + 1))) else (none))) else (if yP.length < 3518437208883 then (billetlaw16_Fit.l1 kj32 tE x7_1 (yP ++ [(⟨((rd_T35 xF_1 x11_2).f0), ((rd_T35 xF_1 x11_2).f1), ((rd_T35 xF_1 x11_2).f2)⟩ : S35)]) true (wrap64 (x11_2 + 1)) (wrap64 (1 + tH)) tI tK tL tM (wrap64 (tJ - 1000)) xF_1 ((rd_T35 tE x7_1).f0) ((rd_T35 tE x7_1).f1) (wrap64 (((rd_T35 tE x7_1).f2) + 1))) else (none))) = some (r1, r2, r3, r4, r5, r6, r7) := by first | (rw [hyP]; with_reducible exact H) | (have H2_ := (Option.bind_some _ _).symm.trans H; rw [hyP]; with_reducible exact H2_) | (have H2_ := (Option.bind_some _ _).symm.trans H; with_reducible exact H2_) | with_reducible exact H | (rw [hyP]; exact H) | exact H
             have NyP := Aside0.mk hyP
             clear hyP
             by_cases c77 : ((rd_T35 xF_1 x11_2).f0).toList = ((rd_T35 tE x7_1).f0).toList
             ·rw [if_pos c77] at H
              have c77b0 : (((rd_T35 xF_1 x11_2).f0).toList == ((rd_T35 tE x7_1).f0).toList) = true := beq_iff_eq.mpr c77
              have c77b1 : (((rd_T35 xF_1 x11_2).f0).toList != ((rd_T35 tE x7_1).f0).toList) = false := bne_eq_false_iff_eq.mpr c77
              clear c77
              by_cases c78 : ((rd_T35 xF_1 x11_2).f1).toList = ((rd_T35 tE x7_1).f1).toList
              ·rw [if_pos c78] at H
               have c78b0 : (((rd_T35 xF_1 x11_2).f1).toList == ((rd_T35 tE x7_1).f1).toList) = true := beq_iff_eq.mpr c78
               have c78b1 : (((rd_T35 xF_1 x11_2).f1).toList != ((rd_T35 tE x7_1).f1).toList) = false := bne_eq_false_iff_eq.mpr c78
               clear c78
               have H' := Aside0.mk H
               clear H
               have hnb79 := NBD_A.out
               have hnc79 := NBA_D.out
               have hnb80 := NBD_C.out
               have hnc80 := NBC_D.out
               have hnb81 := NBD_B.out
               have hnc81 := NBB_D.out
               have hnb82 := NBD_G.out
               have hnc82 := NBG_D.out
               have hcz83_0 : wc.cell? ⟨gbD, 0, none⟩ = some (.string ((rd_T35 tE x7_1).f0)) := (blk_cell BKD.out 0).trans rfl
               have hcz83_1 : wc.cell? ⟨gbD, 1, none⟩ = some (.string ((rd_T35 tE x7_1).f1)) := (blk_cell BKD.out 1).trans rfl
               have hcz83_2 : wc.cell? ⟨gbD, 2, none⟩ = some (.int .i64 (wrap64 (((rd_T35 tE x7_1).f2) + 1))) := (blk_cell BKD.out 2).trans rfl
               have hfz83_0 := blk_frozen BKD.out 0
               have hfz83_1 := blk_frozen BKD.out 1
               have hfz83_2 := blk_frozen BKD.out 2
               go_wp2_with (first | ((with_reducible refine gate_builtin (b := .append) (xs := #[.tmp 85, .tmp 87]) rfl ?_); at_builtin; refine Kd.R_append k35 (w0 := w) w.heap.size rfl (.tmp 85) (.tmp 87) 29 35 (.agg #[(.string ⟨#[]⟩), (.string ⟨#[]⟩), (.int .i64 0)]) 40 rfl Tryd.underlying29 info35 rfl (by decide) (by omega) u9 x9_2 (⟨((rd_T35 tE x7_1).f0), ((rd_T35 tE x7_1).f1), (wrap64 (((rd_T35 tE x7_1).f2) + 1))⟩ : S35) [.string ((rd_T35 tE x7_1).f0), .string ((rd_T35 tE x7_1).f1), .int .i64 (wrap64 (((rd_T35 tE x7_1).f2) + 1))] (fun k_ => some k_ ≠ (.slice (some adO) tE.length co25 : Value).ownBlock ∧ some k_ ≠ (.slice (some adN) xF_1.length co38 : Value).ownBlock ∧ k_ ≠ gbD ∧ k_ ≠ gbG) (fun _ => False) rfl rfl ?aP (fun _ hk => hk.elim) ?aF ?aO ?aB ?aS ?aL ?_; (case aP => exact k35_mkM _ _ _ (⟨((rd_T35 tE x7_1).f0), ((rd_T35 tE x7_1).f1), (wrap64 (((rd_T35 tE x7_1).f2) + 1))⟩ : S35)); (case aB => exact (by repeat (first | (with_reducible first | exact HB.out | apply below_alloc | apply pw_below_drewN | apply below_drew1 | refine below_set ?_ GEA.out | refine below_set ?_ GEC.out | refine below_set ?_ GEB.out | refine below_set ?_ GED.out | refine below_set ?_ GEG.out) | exact HB.out))); (case aF => exact (fun k_ hk => ⟨Kd.fresh' (Kd.R_lt (by (with_reducible repeat (first | apply Kd.R_alloc | apply Kd.R_drewN | apply Kd.R_drew)); exact HO_6.out)) k_ hk, Kd.fresh' (Kd.R_lt (by (with_reducible repeat (first | apply Kd.R_alloc | apply Kd.R_drewN | apply Kd.R_drew)); exact HO_F.out)) k_ hk, Kd.freshB (g := gbD) (o := .cells #[.string ((rd_T35 tE x7_1).f0), .string ((rd_T35 tE x7_1).f1), .int .i64 (wrap64 (((rd_T35 tE x7_1).f2) + 1))] 35 (0, 0)) (by (with_reducible repeat (first | refine blk_drewN ?_ _ | refine blk_drew ?_ | refine blk_alloc ?_ _)); exact BKD.out) k_ hk, Kd.freshB (g := gbG) (o := .cells #[.string ((rd_T35 xF_1 x11_2).f0), .string ((rd_T35 xF_1 x11_2).f1), .int .i64 ((rd_T35 xF_1 x11_2).f2)] 35 (0, 0)) (by (with_reducible repeat (first | refine blk_drewN ?_ _ | refine blk_drew ?_ | refine blk_alloc ?_ _)); exact BKG.out) k_ hk⟩)); (case aO => exact (by (with_reducible repeat (first | apply Kd.R_alloc | apply Kd.R_drewN | apply Kd.R_drew)); exact HO_9.out)); (case aS => exact (below_size (by repeat (first | (with_reducible first | exact HB.out | apply below_alloc | apply pw_below_drewN | apply below_drew1 | refine below_set ?_ GEA.out | refine below_set ?_ GEC.out | refine below_set ?_ GEB.out | refine below_set ?_ GED.out | refine below_set ?_ GEG.out) | exact HB.out)))); (case aL => have := LMc76.out; omega); intro vBG w84 ho hb hg hat; rw [← NyP.out] at ho; have n0_ := Aside0.mk (Kd.R_after (ok := (fun k_ => some k_ ≠ (.slice (some adN) xF_1.length co38 : Value).ownBlock ∧ k_ ≠ gbD ∧ k_ ≠ gbG)) (by (with_reducible repeat (first | apply Kd.R_alloc | apply Kd.R_drewN | apply Kd.R_drew)); exact Kd.R_mono HO_6.out (fun _ hk => ⟨⟨hk.2.1, ⟨hk.2.2.1, hk.2.2.2⟩⟩, hk.1⟩)) hg hat); have n1_ := Aside0.mk (Kd.R_after (ok := (fun k_ => some k_ ≠ (.slice (some adO) tE.length co25 : Value).ownBlock ∧ k_ ≠ gbD ∧ k_ ≠ gbG)) (by (with_reducible repeat (first | apply Kd.R_alloc | apply Kd.R_drewN | apply Kd.R_drew)); exact Kd.R_mono HO_F.out (fun _ hk => ⟨⟨hk.1, ⟨hk.2.2.1, hk.2.2.2⟩⟩, hk.2.1⟩)) hg hat); have n2_ := Aside0.mk (blk_grown (g := gbA) (o := .cells #[.int .i64 a0_0, .int .i64 a0_1, .int .i64 a0_2, .int .i64 a0_3, .int .i64 a0_4, .int .i64 a0_5, .slice A0_6 l0_6.length c0_6] 31 (0, 0)) (by (with_reducible repeat (first | refine blk_drewN ?_ _ | refine blk_drew ?_ | refine blk_alloc ?_ _)); exact BKA.out) hg (Kd.R_ne HO_9.out BKA.out (by decide))); have n3_ := Aside0.mk (blk_grown (g := gbC) (o := .cells #[.int .i64 0, .int .i64 0, .int .i64 0, .int .i64 0, .int .i64 0, .int .i64 0, .slice none 0 0] 31 (0, 0)) (by (with_reducible repeat (first | refine blk_drewN ?_ _ | refine blk_drew ?_ | refine blk_alloc ?_ _)); exact BKC.out) hg (Kd.R_ne HO_9.out BKC.out (by decide))); have n4_ := Aside0.mk (blk_grown (g := gbB) (o := .cells #[.int .i64 (wrap64 (1 + tH)), .int .i64 tI, .int .i64 tK, .int .i64 tL, .int .i64 tM, .int .i64 (wrap64 (tJ - 1000)), .slice (some adN) xF_1.length co38] 31 (0, 0)) (by (with_reducible repeat (first | refine blk_drewN ?_ _ | refine blk_drew ?_ | refine blk_alloc ?_ _)); exact BKB.out) hg (Kd.R_ne HO_9.out BKB.out (by decide))); have n5_ := Aside0.mk (blk_grown (g := gbD) (o := .cells #[.string ((rd_T35 tE x7_1).f0), .string ((rd_T35 tE x7_1).f1), .int .i64 (wrap64 (((rd_T35 tE x7_1).f2) + 1))] 35 (0, 0)) (by (with_reducible repeat (first | refine blk_drewN ?_ _ | refine blk_drew ?_ | refine blk_alloc ?_ _)); exact BKD.out) hg (Kd.R_away HO_9.out (fun _ hk => hk.2.2.1))); have n6_ := Aside0.mk (blk_grown (g := gbG) (o := .cells #[.string ((rd_T35 xF_1 x11_2).f0), .string ((rd_T35 xF_1 x11_2).f1), .int .i64 ((rd_T35 xF_1 x11_2).f2)] 35 (0, 0)) (by (with_reducible repeat (first | refine blk_drewN ?_ _ | refine blk_drew ?_ | refine blk_alloc ?_ _)); exact BKG.out) hg (Kd.R_away HO_9.out (fun _ hk => hk.2.2.2))); have n7_ := Aside0.mk (hb); have n8_ := Aside0.mk (ho); clear HO_6; clear HO_F; clear BKA; clear BKC; clear BKB; clear BKD; clear BKG; clear HB; clear HO_9; have HO_6 := n0_; have HO_F := n1_; have BKA := n2_; have BKC := n3_; have BKB := n4_; have BKD := n5_; have BKG := n6_; have HB := n7_; have HOR := n8_; clear n0_ n1_ n2_ n3_ n4_ n5_ n6_ n7_ n8_; clear ho hb hg hat; have hnb85 := NBG_A.out; have hnc85 := NBA_G.out; have hnb86 := NBG_C.out; have hnc86 := NBC_G.out; have hnb87 := NBG_B.out; have hnc87 := NBB_G.out; have hcz88_0 : w84.cell? ⟨gbG, 0, none⟩ = some (.string ((rd_T35 xF_1 x11_2).f0)) := (blk_cell BKG.out 0).trans rfl; have hcz88_1 : w84.cell? ⟨gbG, 1, none⟩ = some (.string ((rd_T35 xF_1 x11_2).f1)) := (blk_cell BKG.out 1).trans rfl; have hcz88_2 : w84.cell? ⟨gbG, 2, none⟩ = some (.int .i64 ((rd_T35 xF_1 x11_2).f2)) := (blk_cell BKG.out 2).trans rfl; have hfz88_0 := blk_frozen BKG.out 0; have hfz88_1 := blk_frozen BKG.out 1; have hfz88_2 := blk_frozen BKG.out 2; have hcz89_0 : w84.cell? ⟨gbD, 0, none⟩ = some (.string ((rd_T35 tE x7_1).f0)) := (blk_cell BKD.out 0).trans rfl; have hcz89_1 : w84.cell? ⟨gbD, 1, none⟩ = some (.string ((rd_T35 tE x7_1).f1)) := (blk_cell BKD.out 1).trans rfl; have hcz89_2 : w84.cell? ⟨gbD, 2, none⟩ = some (.int .i64 (wrap64 (((rd_T35 tE x7_1).f2) + 1))) := (blk_cell BKD.out 2).trans rfl; have hfz89_0 := blk_frozen BKD.out 0; have hfz89_1 := blk_frozen BKD.out 1; have hfz89_2 := blk_frozen BKD.out 2))
               go_roundg kj32
               case measure => have := HK1.out; have := HK2.out; have := HJ32.out; omega
               case rel => exact ⟨(yP), (true), (wrap64 (x11_2 + 1)), (by first | rfl | (simp; done) | (simp [*]; done)), (by first | rfl | (simp; done) | (simp [*]; done)), H', ⟨by have := HK1.out; have := HK2.out; have := HJ32.out; omega⟩, ⟨by (with_reducible repeat (first | apply Kd.R_alloc | apply Kd.R_drewN | apply Kd.R_drew)); exact Kd.R_mono HO_6.out (fun _ hk => ⟨hk.2, ⟨hk.1.1, hk.1.2.1⟩⟩)⟩, ⟨by (with_reducible repeat (first | apply Kd.R_alloc | apply Kd.R_drewN | apply Kd.R_drew)); exact Kd.R_mono HOR.out (fun _ hk => ⟨hk.1, ⟨hk.2.1, hk.2.2.1⟩⟩)⟩, ⟨by (with_reducible repeat (first | apply Kd.R_alloc | apply Kd.R_drewN | apply Kd.R_drew)); exact Kd.R_mono HO_F.out (fun _ hk => ⟨hk.1.1, ⟨hk.2, hk.1.2.1⟩⟩)⟩, ⟨by (with_reducible repeat (first | refine blk_drewN ?_ _ | refine blk_drew ?_ | refine blk_alloc ?_ _)); exact BKA.out⟩, ⟨by (with_reducible repeat (first | refine blk_drewN ?_ _ | refine blk_drew ?_ | refine blk_alloc ?_ _)); exact BKC.out⟩, ⟨by (with_reducible repeat (first | refine blk_drewN ?_ _ | refine blk_drew ?_ | refine blk_alloc ?_ _)); exact BKB.out⟩, ⟨by (with_reducible repeat (first | refine blk_drewN ?_ _ | refine blk_drew ?_ | refine blk_alloc ?_ _)); exact BKD.out⟩, ⟨by repeat (first | (with_reducible first | exact HB.out | apply below_alloc | apply pw_below_drewN | apply below_drew1 | refine below_set ?_ GEA.out | refine below_set ?_ GEC.out | refine below_set ?_ GEB.out | refine below_set ?_ GED.out | refine below_set ?_ GEG.out) | exact HB.out)⟩⟩
              ·rw [if_neg c78] at H
               have c78b0 : (((rd_T35 xF_1 x11_2).f1).toList == ((rd_T35 tE x7_1).f1).toList) = false := beq_eq_false_iff_ne.mpr c78
               have c78b1 : (((rd_T35 xF_1 x11_2).f1).toList != ((rd_T35 tE x7_1).f1).toList) = true := bne_iff_ne.mpr c78
               by_cases c90 : yP.length < 3518437208883
               ·rw [if_pos c90] at H
                have LMc90 := Aside0.mk c90
                clear c90
                obtain ⟨yAH, hyAH⟩ : ∃ y_ : List (S35), y_ = (yP ++ [(⟨((rd_T35 xF_1 x11_2).f0), ((rd_T35 xF_1 x11_2).f1), ((rd_T35 xF_1 x11_2).f2)⟩ : S35)]) := ⟨_, rfl⟩
                replace H : (billetlaw16_Fit.l1 kj32 tE x7_1 yAH true (wrap64 (x11_2 + 1)) (wrap64 (1 + tH)) tI tK tL tM (wrap64 (tJ - 1000)) xF_1 ((rd_T35 tE x7_1).f0) ((rd_T35 tE x7_1).f1) (wrap64 (((rd_T35 tE x7_1).f2) + 1))) = some (r1, r2, r3, r4, r5, r6, r7) := by first | (rw [hyAH]; with_reducible exact H) | (have H2_ := (Option.bind_some _ _).symm.trans H; rw [hyAH]; with_reducible exact H2_) | (have H2_ := (Option.bind_some _ _).symm.trans H; with_reducible exact H2_) | with_reducible exact H | (rw [hyAH]; exact H) | exact H
                have NyAH := Aside0.mk hyAH
                clear hyAH
                have H' := Aside0.mk H
                clear H
                have hnb91 := NBD_A.out
                have hnc91 := NBA_D.out
                have hnb92 := NBD_C.out
                have hnc92 := NBC_D.out
                have hnb93 := NBD_B.out
                have hnc93 := NBB_D.out
                have hnb94 := NBD_G.out
                have hnc94 := NBG_D.out
                have hcz95_0 : wc.cell? ⟨gbD, 0, none⟩ = some (.string ((rd_T35 tE x7_1).f0)) := (blk_cell BKD.out 0).trans rfl
                have hcz95_1 : wc.cell? ⟨gbD, 1, none⟩ = some (.string ((rd_T35 tE x7_1).f1)) := (blk_cell BKD.out 1).trans rfl
                have hcz95_2 : wc.cell? ⟨gbD, 2, none⟩ = some (.int .i64 (wrap64 (((rd_T35 tE x7_1).f2) + 1))) := (blk_cell BKD.out 2).trans rfl
                have hfz95_0 := blk_frozen BKD.out 0
                have hfz95_1 := blk_frozen BKD.out 1
                have hfz95_2 := blk_frozen BKD.out 2
                go_wp2_with (first | ((with_reducible refine gate_builtin (b := .append) (xs := #[.tmp 85, .tmp 87]) rfl ?_); at_builtin; refine Kd.R_append k35 (w0 := w) w.heap.size rfl (.tmp 85) (.tmp 87) 29 35 (.agg #[(.string ⟨#[]⟩), (.string ⟨#[]⟩), (.int .i64 0)]) 40 rfl Tryd.underlying29 info35 rfl (by decide) (by omega) u9 x9_2 (⟨((rd_T35 tE x7_1).f0), ((rd_T35 tE x7_1).f1), (wrap64 (((rd_T35 tE x7_1).f2) + 1))⟩ : S35) [.string ((rd_T35 tE x7_1).f0), .string ((rd_T35 tE x7_1).f1), .int .i64 (wrap64 (((rd_T35 tE x7_1).f2) + 1))] (fun k_ => some k_ ≠ (.slice (some adO) tE.length co25 : Value).ownBlock ∧ some k_ ≠ (.slice (some adN) xF_1.length co38 : Value).ownBlock ∧ k_ ≠ gbD ∧ k_ ≠ gbG) (fun _ => False) rfl rfl ?aP (fun _ hk => hk.elim) ?aF ?aO ?aB ?aS ?aL ?_; (case aP => exact k35_mkM _ _ _ (⟨((rd_T35 tE x7_1).f0), ((rd_T35 tE x7_1).f1), (wrap64 (((rd_T35 tE x7_1).f2) + 1))⟩ : S35)); (case aB => exact (by repeat (first | (with_reducible first | exact HB.out | apply below_alloc | apply pw_below_drewN | apply below_drew1 | refine below_set ?_ GEA.out | refine below_set ?_ GEC.out | refine below_set ?_ GEB.out | refine below_set ?_ GED.out | refine below_set ?_ GEG.out) | exact HB.out))); (case aF => exact (fun k_ hk => ⟨Kd.fresh' (Kd.R_lt (by (with_reducible repeat (first | apply Kd.R_alloc | apply Kd.R_drewN | apply Kd.R_drew)); exact HO_6.out)) k_ hk, Kd.fresh' (Kd.R_lt (by (with_reducible repeat (first | apply Kd.R_alloc | apply Kd.R_drewN | apply Kd.R_drew)); exact HO_F.out)) k_ hk, Kd.freshB (g := gbD) (o := .cells #[.string ((rd_T35 tE x7_1).f0), .string ((rd_T35 tE x7_1).f1), .int .i64 (wrap64 (((rd_T35 tE x7_1).f2) + 1))] 35 (0, 0)) (by (with_reducible repeat (first | refine blk_drewN ?_ _ | refine blk_drew ?_ | refine blk_alloc ?_ _)); exact BKD.out) k_ hk, Kd.freshB (g := gbG) (o := .cells #[.string ((rd_T35 xF_1 x11_2).f0), .string ((rd_T35 xF_1 x11_2).f1), .int .i64 ((rd_T35 xF_1 x11_2).f2)] 35 (0, 0)) (by (with_reducible repeat (first | refine blk_drewN ?_ _ | refine blk_drew ?_ | refine blk_alloc ?_ _)); exact BKG.out) k_ hk⟩)); (case aO => exact (by (with_reducible repeat (first | apply Kd.R_alloc | apply Kd.R_drewN | apply Kd.R_drew)); exact HO_9.out)); (case aS => exact (below_size (by repeat (first | (with_reducible first | exact HB.out | apply below_alloc | apply pw_below_drewN | apply below_drew1 | refine below_set ?_ GEA.out | refine below_set ?_ GEC.out | refine below_set ?_ GEB.out | refine below_set ?_ GED.out | refine below_set ?_ GEG.out) | exact HB.out)))); (case aL => have := LMc76.out; omega); intro vBG w96 ho hb hg hat; rw [← NyP.out] at ho; have n0_ := Aside0.mk (Kd.R_after (ok := (fun k_ => some k_ ≠ (.slice (some adN) xF_1.length co38 : Value).ownBlock ∧ k_ ≠ gbD ∧ k_ ≠ gbG)) (by (with_reducible repeat (first | apply Kd.R_alloc | apply Kd.R_drewN | apply Kd.R_drew)); exact Kd.R_mono HO_6.out (fun _ hk => ⟨⟨hk.2.1, ⟨hk.2.2.1, hk.2.2.2⟩⟩, hk.1⟩)) hg hat); have n1_ := Aside0.mk (Kd.R_after (ok := (fun k_ => some k_ ≠ (.slice (some adO) tE.length co25 : Value).ownBlock ∧ k_ ≠ gbD ∧ k_ ≠ gbG)) (by (with_reducible repeat (first | apply Kd.R_alloc | apply Kd.R_drewN | apply Kd.R_drew)); exact Kd.R_mono HO_F.out (fun _ hk => ⟨⟨hk.1, ⟨hk.2.2.1, hk.2.2.2⟩⟩, hk.2.1⟩)) hg hat); have n2_ := Aside0.mk (blk_grown (g := gbA) (o := .cells #[.int .i64 a0_0, .int .i64 a0_1, .int .i64 a0_2, .int .i64 a0_3, .int .i64 a0_4, .int .i64 a0_5, .slice A0_6 l0_6.length c0_6] 31 (0, 0)) (by (with_reducible repeat (first | refine blk_drewN ?_ _ | refine blk_drew ?_ | refine blk_alloc ?_ _)); exact BKA.out) hg (Kd.R_ne HO_9.out BKA.out (by decide))); have n3_ := Aside0.mk (blk_grown (g := gbC) (o := .cells #[.int .i64 0, .int .i64 0, .int .i64 0, .int .i64 0, .int .i64 0, .int .i64 0, .slice none 0 0] 31 (0, 0)) (by (with_reducible repeat (first | refine blk_drewN ?_ _ | refine blk_drew ?_ | refine blk_alloc ?_ _)); exact BKC.out) hg (Kd.R_ne HO_9.out BKC.out (by decide))); have n4_ := Aside0.mk (blk_grown (g := gbB) (o := .cells #[.int .i64 (wrap64 (1 + tH)), .int .i64 tI, .int .i64 tK, .int .i64 tL, .int .i64 tM, .int .i64 (wrap64 (tJ - 1000)), .slice (some adN) xF_1.length co38] 31 (0, 0)) (by (with_reducible repeat (first | refine blk_drewN ?_ _ | refine blk_drew ?_ | refine blk_alloc ?_ _)); exact BKB.out) hg (Kd.R_ne HO_9.out BKB.out (by decide))); have n5_ := Aside0.mk (blk_grown (g := gbD) (o := .cells #[.string ((rd_T35 tE x7_1).f0), .string ((rd_T35 tE x7_1).f1), .int .i64 (wrap64 (((rd_T35 tE x7_1).f2) + 1))] 35 (0, 0)) (by (with_reducible repeat (first | refine blk_drewN ?_ _ | refine blk_drew ?_ | refine blk_alloc ?_ _)); exact BKD.out) hg (Kd.R_away HO_9.out (fun _ hk => hk.2.2.1))); have n6_ := Aside0.mk (blk_grown (g := gbG) (o := .cells #[.string ((rd_T35 xF_1 x11_2).f0), .string ((rd_T35 xF_1 x11_2).f1), .int .i64 ((rd_T35 xF_1 x11_2).f2)] 35 (0, 0)) (by (with_reducible repeat (first | refine blk_drewN ?_ _ | refine blk_drew ?_ | refine blk_alloc ?_ _)); exact BKG.out) hg (Kd.R_away HO_9.out (fun _ hk => hk.2.2.2))); have n7_ := Aside0.mk (hb); have n8_ := Aside0.mk (ho); clear HO_6; clear HO_F; clear BKA; clear BKC; clear BKB; clear BKD; clear BKG; clear HB; clear HO_9; have HO_6 := n0_; have HO_F := n1_; have BKA := n2_; have BKC := n3_; have BKB := n4_; have BKD := n5_; have BKG := n6_; have HB := n7_; have HOR := n8_; clear n0_ n1_ n2_ n3_ n4_ n5_ n6_ n7_ n8_; clear ho hb hg hat; have hnb97 := NBG_A.out; have hnc97 := NBA_G.out; have hnb98 := NBG_C.out; have hnc98 := NBC_G.out; have hnb99 := NBG_B.out; have hnc99 := NBB_G.out; have hczAT_0 : w96.cell? ⟨gbG, 0, none⟩ = some (.string ((rd_T35 xF_1 x11_2).f0)) := (blk_cell BKG.out 0).trans rfl; have hczAT_1 : w96.cell? ⟨gbG, 1, none⟩ = some (.string ((rd_T35 xF_1 x11_2).f1)) := (blk_cell BKG.out 1).trans rfl; have hczAT_2 : w96.cell? ⟨gbG, 2, none⟩ = some (.int .i64 ((rd_T35 xF_1 x11_2).f2)) := (blk_cell BKG.out 2).trans rfl; have hfzAT_0 := blk_frozen BKG.out 0; have hfzAT_1 := blk_frozen BKG.out 1; have hfzAT_2 := blk_frozen BKG.out 2; have hczAU_0 : w96.cell? ⟨gbD, 0, none⟩ = some (.string ((rd_T35 tE x7_1).f0)) := (blk_cell BKD.out 0).trans rfl; have hczAU_1 : w96.cell? ⟨gbD, 1, none⟩ = some (.string ((rd_T35 tE x7_1).f1)) := (blk_cell BKD.out 1).trans rfl; have hczAU_2 : w96.cell? ⟨gbD, 2, none⟩ = some (.int .i64 (wrap64 (((rd_T35 tE x7_1).f2) + 1))) := (blk_cell BKD.out 2).trans rfl; have hfzAU_0 := blk_frozen BKD.out 0; have hfzAU_1 := blk_frozen BKD.out 1; have hfzAU_2 := blk_frozen BKD.out 2) | ((with_reducible refine gate_builtin (b := .append) (xs := #[.tmp 101, .tmp 103]) rfl ?_); at_builtin; refine Kd.R_append k35 (w0 := w) w.heap.size rfl (.tmp 101) (.tmp 103) 29 35 (.agg #[(.string ⟨#[]⟩), (.string ⟨#[]⟩), (.int .i64 0)]) 40 rfl Tryd.underlying29 info35 rfl (by decide) (by omega) vBG yP (⟨((rd_T35 xF_1 x11_2).f0), ((rd_T35 xF_1 x11_2).f1), ((rd_T35 xF_1 x11_2).f2)⟩ : S35) [.string ((rd_T35 xF_1 x11_2).f0), .string ((rd_T35 xF_1 x11_2).f1), .int .i64 ((rd_T35 xF_1 x11_2).f2)] (fun k_ => some k_ ≠ (.slice (some adO) tE.length co25 : Value).ownBlock ∧ some k_ ≠ (.slice (some adN) xF_1.length co38 : Value).ownBlock ∧ k_ ≠ gbD ∧ k_ ≠ gbG) (fun _ => False) rfl rfl ?aP (fun _ hk => hk.elim) ?aF ?aO ?aB ?aS ?aL ?_; (case aP => exact k35_mkM _ _ _ (⟨((rd_T35 xF_1 x11_2).f0), ((rd_T35 xF_1 x11_2).f1), ((rd_T35 xF_1 x11_2).f2)⟩ : S35)); (case aB => exact (by repeat (first | (with_reducible first | exact HB.out | apply below_alloc | apply pw_below_drewN | apply below_drew1 | refine below_set ?_ GEA.out | refine below_set ?_ GEC.out | refine below_set ?_ GEB.out | refine below_set ?_ GED.out | refine below_set ?_ GEG.out) | exact HB.out))); (case aF => exact (fun k_ hk => ⟨Kd.fresh' (Kd.R_lt (by (with_reducible repeat (first | apply Kd.R_alloc | apply Kd.R_drewN | apply Kd.R_drew)); exact HO_6.out)) k_ hk, Kd.fresh' (Kd.R_lt (by (with_reducible repeat (first | apply Kd.R_alloc | apply Kd.R_drewN | apply Kd.R_drew)); exact HO_F.out)) k_ hk, Kd.freshB (g := gbD) (o := .cells #[.string ((rd_T35 tE x7_1).f0), .string ((rd_T35 tE x7_1).f1), .int .i64 (wrap64 (((rd_T35 tE x7_1).f2) + 1))] 35 (0, 0)) (by (with_reducible repeat (first | refine blk_drewN ?_ _ | refine blk_drew ?_ | refine blk_alloc ?_ _)); exact BKD.out) k_ hk, Kd.freshB (g := gbG) (o := .cells #[.string ((rd_T35 xF_1 x11_2).f0), .string ((rd_T35 xF_1 x11_2).f1), .int .i64 ((rd_T35 xF_1 x11_2).f2)] 35 (0, 0)) (by (with_reducible repeat (first | refine blk_drewN ?_ _ | refine blk_drew ?_ | refine blk_alloc ?_ _)); exact BKG.out) k_ hk⟩)); (case aO => exact (by (with_reducible repeat (first | apply Kd.R_alloc | apply Kd.R_drewN | apply Kd.R_drew)); exact HOR.out)); (case aS => exact (below_size (by repeat (first | (with_reducible first | exact HB.out | apply below_alloc | apply pw_below_drewN | apply below_drew1 | refine below_set ?_ GEA.out | refine below_set ?_ GEC.out | refine below_set ?_ GEB.out | refine below_set ?_ GED.out | refine below_set ?_ GEG.out) | exact HB.out)))); (case aL => have := LMc90.out; omega); intro vCY wCZ ho hb hg hat; rw [← NyAH.out] at ho; have n0_ := Aside0.mk (Kd.R_after (ok := (fun k_ => some k_ ≠ (.slice (some adN) xF_1.length co38 : Value).ownBlock ∧ k_ ≠ gbD ∧ k_ ≠ gbG)) (by (with_reducible repeat (first | apply Kd.R_alloc | apply Kd.R_drewN | apply Kd.R_drew)); exact HO_6.out) hg hat); have n1_ := Aside0.mk (Kd.R_after (ok := (fun k_ => some k_ ≠ (.slice (some adO) tE.length co25 : Value).ownBlock ∧ k_ ≠ gbD ∧ k_ ≠ gbG)) (by (with_reducible repeat (first | apply Kd.R_alloc | apply Kd.R_drewN | apply Kd.R_drew)); exact HO_F.out) hg hat); have n2_ := Aside0.mk (blk_grown (g := gbA) (o := .cells #[.int .i64 a0_0, .int .i64 a0_1, .int .i64 a0_2, .int .i64 a0_3, .int .i64 a0_4, .int .i64 a0_5, .slice A0_6 l0_6.length c0_6] 31 (0, 0)) (by (with_reducible repeat (first | refine blk_drewN ?_ _ | refine blk_drew ?_ | refine blk_alloc ?_ _)); exact BKA.out) hg (Kd.R_ne HOR.out BKA.out (by decide))); have n3_ := Aside0.mk (blk_grown (g := gbC) (o := .cells #[.int .i64 0, .int .i64 0, .int .i64 0, .int .i64 0, .int .i64 0, .int .i64 0, .slice none 0 0] 31 (0, 0)) (by (with_reducible repeat (first | refine blk_drewN ?_ _ | refine blk_drew ?_ | refine blk_alloc ?_ _)); exact BKC.out) hg (Kd.R_ne HOR.out BKC.out (by decide))); have n4_ := Aside0.mk (blk_grown (g := gbB) (o := .cells #[.int .i64 (wrap64 (1 + tH)), .int .i64 tI, .int .i64 tK, .int .i64 tL, .int .i64 tM, .int .i64 (wrap64 (tJ - 1000)), .slice (some adN) xF_1.length co38] 31 (0, 0)) (by (with_reducible repeat (first | refine blk_drewN ?_ _ | refine blk_drew ?_ | refine blk_alloc ?_ _)); exact BKB.out) hg (Kd.R_ne HOR.out BKB.out (by decide))); have n5_ := Aside0.mk (blk_grown (g := gbD) (o := .cells #[.string ((rd_T35 tE x7_1).f0), .string ((rd_T35 tE x7_1).f1), .int .i64 (wrap64 (((rd_T35 tE x7_1).f2) + 1))] 35 (0, 0)) (by (with_reducible repeat (first | refine blk_drewN ?_ _ | refine blk_drew ?_ | refine blk_alloc ?_ _)); exact BKD.out) hg (Kd.R_away HOR.out (fun _ hk => hk.2.2.1))); have n6_ := Aside0.mk (blk_grown (g := gbG) (o := .cells #[.string ((rd_T35 xF_1 x11_2).f0), .string ((rd_T35 xF_1 x11_2).f1), .int .i64 ((rd_T35 xF_1 x11_2).f2)] 35 (0, 0)) (by (with_reducible repeat (first | refine blk_drewN ?_ _ | refine blk_drew ?_ | refine blk_alloc ?_ _)); exact BKG.out) hg (Kd.R_away HOR.out (fun _ hk => hk.2.2.2))); have n7_ := Aside0.mk (hb); have n8_ := Aside0.mk (ho); clear HO_6; clear HO_F; clear BKA; clear BKC; clear BKB; clear BKD; clear BKG; clear HB; clear HOR; have HO_6 := n0_; have HO_F := n1_; have BKA := n2_; have BKC := n3_; have BKB := n4_; have BKD := n5_; have BKG := n6_; have HB := n7_; have HOBK := n8_; clear n0_ n1_ n2_ n3_ n4_ n5_ n6_ n7_ n8_; clear ho hb hg hat))
                go_roundg kj32
                case measure => have := HK1.out; have := HK2.out; have := HJ32.out; omega
                case rel => exact ⟨(yAH), (true), (wrap64 (x11_2 + 1)), (by first | rfl | (simp; done) | (simp [*]; done)), (by first | rfl | (simp; done) | (simp [*]; done)), H', ⟨by have := HK1.out; have := HK2.out; have := HJ32.out; omega⟩, ⟨by (with_reducible repeat (first | apply Kd.R_alloc | apply Kd.R_drewN | apply Kd.R_drew)); exact Kd.R_mono HO_6.out (fun _ hk => ⟨hk.2, ⟨hk.1.1, hk.1.2.1⟩⟩)⟩, ⟨by (with_reducible repeat (first | apply Kd.R_alloc | apply Kd.R_drewN | apply Kd.R_drew)); exact Kd.R_mono HOBK.out (fun _ hk => ⟨hk.1, ⟨hk.2.1, hk.2.2.1⟩⟩)⟩, ⟨by (with_reducible repeat (first | apply Kd.R_alloc | apply Kd.R_drewN | apply Kd.R_drew)); exact Kd.R_mono HO_F.out (fun _ hk => ⟨hk.1.1, ⟨hk.2, hk.1.2.1⟩⟩)⟩, ⟨by (with_reducible repeat (first | refine blk_drewN ?_ _ | refine blk_drew ?_ | refine blk_alloc ?_ _)); exact BKA.out⟩, ⟨by (with_reducible repeat (first | refine blk_drewN ?_ _ | refine blk_drew ?_ | refine blk_alloc ?_ _)); exact BKC.out⟩, ⟨by (with_reducible repeat (first | refine blk_drewN ?_ _ | refine blk_drew ?_ | refine blk_alloc ?_ _)); exact BKB.out⟩, ⟨by (with_reducible repeat (first | refine blk_drewN ?_ _ | refine blk_drew ?_ | refine blk_alloc ?_ _)); exact BKD.out⟩, ⟨by repeat (first | (with_reducible first | exact HB.out | apply below_alloc | apply pw_below_drewN | apply below_drew1 | refine below_set ?_ GEA.out | refine below_set ?_ GEC.out | refine below_set ?_ GEB.out | refine below_set ?_ GED.out | refine below_set ?_ GEG.out) | exact HB.out)⟩⟩
               ·rw [if_neg c90] at H
                exact absurd H (by simp)
             ·rw [if_neg c77] at H
              have c77b0 : (((rd_T35 xF_1 x11_2).f0).toList == ((rd_T35 tE x7_1).f0).toList) = false := beq_eq_false_iff_ne.mpr c77
              have c77b1 : (((rd_T35 xF_1 x11_2).f0).toList != ((rd_T35 tE x7_1).f0).toList) = true := bne_iff_ne.mpr c77
              by_cases cAO : yP.length < 3518437208883
              ·rw [if_pos cAO] at H
               have LMcAO := Aside0.mk cAO
               clear cAO
               obtain ⟨yAI, hyAI⟩ : ∃ y_ : List (S35), y_ = (yP ++ [(⟨((rd_T35 xF_1 x11_2).f0), ((rd_T35 xF_1 x11_2).f1), ((rd_T35 xF_1 x11_2).f2)⟩ : S35)]) := ⟨_, rfl⟩
               replace H : (billetlaw16_Fit.l1 kj32 tE x7_1 yAI true (wrap64 (x11_2 + 1)) (wrap64 (1 + tH)) tI tK tL tM (wrap64 (tJ - 1000)) xF_1 ((rd_T35 tE x7_1).f0) ((rd_T35 tE x7_1).f1) (wrap64 (((rd_T35 tE x7_1).f2) + 1))) = some (r1, r2, r3, r4, r5, r6, r7) := by first | (rw [hyAI]; with_reducible exact H) | (have H2_ := (Option.bind_some _ _).symm.trans H; rw [hyAI]; with_reducible exact H2_) | (have H2_ := (Option.bind_some _ _).symm.trans H; with_reducible exact H2_) | with_reducible exact H | (rw [hyAI]; exact H) | exact H
               have NyAI := Aside0.mk hyAI
               clear hyAI
               have H' := Aside0.mk H
               clear H
               have hnbBL := NBD_A.out
               have hncBL := NBA_D.out
               have hnbBM := NBD_C.out
               have hncBM := NBC_D.out
               have hnbBN := NBD_B.out
               have hncBN := NBB_D.out
               have hnbBO := NBD_G.out
               have hncBO := NBG_D.out
               have hczAV_0 : wc.cell? ⟨gbD, 0, none⟩ = some (.string ((rd_T35 tE x7_1).f0)) := (blk_cell BKD.out 0).trans rfl
               have hczAV_1 : wc.cell? ⟨gbD, 1, none⟩ = some (.string ((rd_T35 tE x7_1).f1)) := (blk_cell BKD.out 1).trans rfl
               have hczAV_2 : wc.cell? ⟨gbD, 2, none⟩ = some (.int .i64 (wrap64 (((rd_T35 tE x7_1).f2) + 1))) := (blk_cell BKD.out 2).trans rfl
               have hfzAV_0 := blk_frozen BKD.out 0
               have hfzAV_1 := blk_frozen BKD.out 1
               have hfzAV_2 := blk_frozen BKD.out 2
               go_wp2_with (first | ((with_reducible refine gate_builtin (b := .append) (xs := #[.tmp 85, .tmp 87]) rfl ?_); at_builtin; refine Kd.R_append k35 (w0 := w) w.heap.size rfl (.tmp 85) (.tmp 87) 29 35 (.agg #[(.string ⟨#[]⟩), (.string ⟨#[]⟩), (.int .i64 0)]) 40 rfl Tryd.underlying29 info35 rfl (by decide) (by omega) u9 x9_2 (⟨((rd_T35 tE x7_1).f0), ((rd_T35 tE x7_1).f1), (wrap64 (((rd_T35 tE x7_1).f2) + 1))⟩ : S35) [.string ((rd_T35 tE x7_1).f0), .string ((rd_T35 tE x7_1).f1), .int .i64 (wrap64 (((rd_T35 tE x7_1).f2) + 1))] (fun k_ => some k_ ≠ (.slice (some adO) tE.length co25 : Value).ownBlock ∧ some k_ ≠ (.slice (some adN) xF_1.length co38 : Value).ownBlock ∧ k_ ≠ gbD ∧ k_ ≠ gbG) (fun _ => False) rfl rfl ?aP (fun _ hk => hk.elim) ?aF ?aO ?aB ?aS ?aL ?_; (case aP => exact k35_mkM _ _ _ (⟨((rd_T35 tE x7_1).f0), ((rd_T35 tE x7_1).f1), (wrap64 (((rd_T35 tE x7_1).f2) + 1))⟩ : S35)); (case aB => exact (by repeat (first | (with_reducible first | exact HB.out | apply below_alloc | apply pw_below_drewN | apply below_drew1 | refine below_set ?_ GEA.out | refine below_set ?_ GEC.out | refine below_set ?_ GEB.out | refine below_set ?_ GED.out | refine below_set ?_ GEG.out) | exact HB.out))); (case aF => exact (fun k_ hk => ⟨Kd.fresh' (Kd.R_lt (by (with_reducible repeat (first | apply Kd.R_alloc | apply Kd.R_drewN | apply Kd.R_drew)); exact HO_6.out)) k_ hk, Kd.fresh' (Kd.R_lt (by (with_reducible repeat (first | apply Kd.R_alloc | apply Kd.R_drewN | apply Kd.R_drew)); exact HO_F.out)) k_ hk, Kd.freshB (g := gbD) (o := .cells #[.string ((rd_T35 tE x7_1).f0), .string ((rd_T35 tE x7_1).f1), .int .i64 (wrap64 (((rd_T35 tE x7_1).f2) + 1))] 35 (0, 0)) (by (with_reducible repeat (first | refine blk_drewN ?_ _ | refine blk_drew ?_ | refine blk_alloc ?_ _)); exact BKD.out) k_ hk, Kd.freshB (g := gbG) (o := .cells #[.string ((rd_T35 xF_1 x11_2).f0), .string ((rd_T35 xF_1 x11_2).f1), .int .i64 ((rd_T35 xF_1 x11_2).f2)] 35 (0, 0)) (by (with_reducible repeat (first | refine blk_drewN ?_ _ | refine blk_drew ?_ | refine blk_alloc ?_ _)); exact BKG.out) k_ hk⟩)); (case aO => exact (by (with_reducible repeat (first | apply Kd.R_alloc | apply Kd.R_drewN | apply Kd.R_drew)); exact HO_9.out)); (case aS => exact (below_size (by repeat (first | (with_reducible first | exact HB.out | apply below_alloc | apply pw_below_drewN | apply below_drew1 | refine below_set ?_ GEA.out | refine below_set ?_ GEC.out | refine below_set ?_ GEB.out | refine below_set ?_ GED.out | refine below_set ?_ GEG.out) | exact HB.out)))); (case aL => have := LMc76.out; omega); intro vBG wAP ho hb hg hat; rw [← NyP.out] at ho; have n0_ := Aside0.mk (Kd.R_after (ok := (fun k_ => some k_ ≠ (.slice (some adN) xF_1.length co38 : Value).ownBlock ∧ k_ ≠ gbD ∧ k_ ≠ gbG)) (by (with_reducible repeat (first | apply Kd.R_alloc | apply Kd.R_drewN | apply Kd.R_drew)); exact Kd.R_mono HO_6.out (fun _ hk => ⟨⟨hk.2.1, ⟨hk.2.2.1, hk.2.2.2⟩⟩, hk.1⟩)) hg hat); have n1_ := Aside0.mk (Kd.R_after (ok := (fun k_ => some k_ ≠ (.slice (some adO) tE.length co25 : Value).ownBlock ∧ k_ ≠ gbD ∧ k_ ≠ gbG)) (by (with_reducible repeat (first | apply Kd.R_alloc | apply Kd.R_drewN | apply Kd.R_drew)); exact Kd.R_mono HO_F.out (fun _ hk => ⟨⟨hk.1, ⟨hk.2.2.1, hk.2.2.2⟩⟩, hk.2.1⟩)) hg hat); have n2_ := Aside0.mk (blk_grown (g := gbA) (o := .cells #[.int .i64 a0_0, .int .i64 a0_1, .int .i64 a0_2, .int .i64 a0_3, .int .i64 a0_4, .int .i64 a0_5, .slice A0_6 l0_6.length c0_6] 31 (0, 0)) (by (with_reducible repeat (first | refine blk_drewN ?_ _ | refine blk_drew ?_ | refine blk_alloc ?_ _)); exact BKA.out) hg (Kd.R_ne HO_9.out BKA.out (by decide))); have n3_ := Aside0.mk (blk_grown (g := gbC) (o := .cells #[.int .i64 0, .int .i64 0, .int .i64 0, .int .i64 0, .int .i64 0, .int .i64 0, .slice none 0 0] 31 (0, 0)) (by (with_reducible repeat (first | refine blk_drewN ?_ _ | refine blk_drew ?_ | refine blk_alloc ?_ _)); exact BKC.out) hg (Kd.R_ne HO_9.out BKC.out (by decide))); have n4_ := Aside0.mk (blk_grown (g := gbB) (o := .cells #[.int .i64 (wrap64 (1 + tH)), .int .i64 tI, .int .i64 tK, .int .i64 tL, .int .i64 tM, .int .i64 (wrap64 (tJ - 1000)), .slice (some adN) xF_1.length co38] 31 (0, 0)) (by (with_reducible repeat (first | refine blk_drewN ?_ _ | refine blk_drew ?_ | refine blk_alloc ?_ _)); exact BKB.out) hg (Kd.R_ne HO_9.out BKB.out (by decide))); have n5_ := Aside0.mk (blk_grown (g := gbD) (o := .cells #[.string ((rd_T35 tE x7_1).f0), .string ((rd_T35 tE x7_1).f1), .int .i64 (wrap64 (((rd_T35 tE x7_1).f2) + 1))] 35 (0, 0)) (by (with_reducible repeat (first | refine blk_drewN ?_ _ | refine blk_drew ?_ | refine blk_alloc ?_ _)); exact BKD.out) hg (Kd.R_away HO_9.out (fun _ hk => hk.2.2.1))); have n6_ := Aside0.mk (blk_grown (g := gbG) (o := .cells #[.string ((rd_T35 xF_1 x11_2).f0), .string ((rd_T35 xF_1 x11_2).f1), .int .i64 ((rd_T35 xF_1 x11_2).f2)] 35 (0, 0)) (by (with_reducible repeat (first | refine blk_drewN ?_ _ | refine blk_drew ?_ | refine blk_alloc ?_ _)); exact BKG.out) hg (Kd.R_away HO_9.out (fun _ hk => hk.2.2.2))); have n7_ := Aside0.mk (hb); have n8_ := Aside0.mk (ho); clear HO_6; clear HO_F; clear BKA; clear BKC; clear BKB; clear BKD; clear BKG; clear HB; clear HO_9; have HO_6 := n0_; have HO_F := n1_; have BKA := n2_; have BKC := n3_; have BKB := n4_; have BKD := n5_; have BKG := n6_; have HB := n7_; have HOR := n8_; clear n0_ n1_ n2_ n3_ n4_ n5_ n6_ n7_ n8_; clear ho hb hg hat; have hnbBP := NBG_A.out; have hncBP := NBA_G.out; have hnbBQ := NBG_C.out; have hncBQ := NBC_G.out; have hnbBR := NBG_B.out; have hncBR := NBB_G.out; have hczAW_0 : wAP.cell? ⟨gbG, 0, none⟩ = some (.string ((rd_T35 xF_1 x11_2).f0)) := (blk_cell BKG.out 0).trans rfl; have hczAW_1 : wAP.cell? ⟨gbG, 1, none⟩ = some (.string ((rd_T35 xF_1 x11_2).f1)) := (blk_cell BKG.out 1).trans rfl; have hczAW_2 : wAP.cell? ⟨gbG, 2, none⟩ = some (.int .i64 ((rd_T35 xF_1 x11_2).f2)) := (blk_cell BKG.out 2).trans rfl; have hfzAW_0 := blk_frozen BKG.out 0; have hfzAW_1 := blk_frozen BKG.out 1; have hfzAW_2 := blk_frozen BKG.out 2; have hczAX_0 : wAP.cell? ⟨gbD, 0, none⟩ = some (.string ((rd_T35 tE x7_1).f0)) := (blk_cell BKD.out 0).trans rfl; have hczAX_1 : wAP.cell? ⟨gbD, 1, none⟩ = some (.string ((rd_T35 tE x7_1).f1)) := (blk_cell BKD.out 1).trans rfl; have hczAX_2 : wAP.cell? ⟨gbD, 2, none⟩ = some (.int .i64 (wrap64 (((rd_T35 tE x7_1).f2) + 1))) := (blk_cell BKD.out 2).trans rfl; have hfzAX_0 := blk_frozen BKD.out 0; have hfzAX_1 := blk_frozen BKD.out 1; have hfzAX_2 := blk_frozen BKD.out 2) | ((with_reducible refine gate_builtin (b := .append) (xs := #[.tmp 101, .tmp 103]) rfl ?_); at_builtin; refine Kd.R_append k35 (w0 := w) w.heap.size rfl (.tmp 101) (.tmp 103) 29 35 (.agg #[(.string ⟨#[]⟩), (.string ⟨#[]⟩), (.int .i64 0)]) 40 rfl Tryd.underlying29 info35 rfl (by decide) (by omega) vBG yP (⟨((rd_T35 xF_1 x11_2).f0), ((rd_T35 xF_1 x11_2).f1), ((rd_T35 xF_1 x11_2).f2)⟩ : S35) [.string ((rd_T35 xF_1 x11_2).f0), .string ((rd_T35 xF_1 x11_2).f1), .int .i64 ((rd_T35 xF_1 x11_2).f2)] (fun k_ => some k_ ≠ (.slice (some adO) tE.length co25 : Value).ownBlock ∧ some k_ ≠ (.slice (some adN) xF_1.length co38 : Value).ownBlock ∧ k_ ≠ gbD ∧ k_ ≠ gbG) (fun _ => False) rfl rfl ?aP (fun _ hk => hk.elim) ?aF ?aO ?aB ?aS ?aL ?_; (case aP => exact k35_mkM _ _ _ (⟨((rd_T35 xF_1 x11_2).f0), ((rd_T35 xF_1 x11_2).f1), ((rd_T35 xF_1 x11_2).f2)⟩ : S35)); (case aB => exact (by repeat (first | (with_reducible first | exact HB.out | apply below_alloc | apply pw_below_drewN | apply below_drew1 | refine below_set ?_ GEA.out | refine below_set ?_ GEC.out | refine below_set ?_ GEB.out | refine below_set ?_ GED.out | refine below_set ?_ GEG.out) | exact HB.out))); (case aF => exact (fun k_ hk => ⟨Kd.fresh' (Kd.R_lt (by (with_reducible repeat (first | apply Kd.R_alloc | apply Kd.R_drewN | apply Kd.R_drew)); exact HO_6.out)) k_ hk, Kd.fresh' (Kd.R_lt (by (with_reducible repeat (first | apply Kd.R_alloc | apply Kd.R_drewN | apply Kd.R_drew)); exact HO_F.out)) k_ hk, Kd.freshB (g := gbD) (o := .cells #[.string ((rd_T35 tE x7_1).f0), .string ((rd_T35 tE x7_1).f1), .int .i64 (wrap64 (((rd_T35 tE x7_1).f2) + 1))] 35 (0, 0)) (by (with_reducible repeat (first | refine blk_drewN ?_ _ | refine blk_drew ?_ | refine blk_alloc ?_ _)); exact BKD.out) k_ hk, Kd.freshB (g := gbG) (o := .cells #[.string ((rd_T35 xF_1 x11_2).f0), .string ((rd_T35 xF_1 x11_2).f1), .int .i64 ((rd_T35 xF_1 x11_2).f2)] 35 (0, 0)) (by (with_reducible repeat (first | refine blk_drewN ?_ _ | refine blk_drew ?_ | refine blk_alloc ?_ _)); exact BKG.out) k_ hk⟩)); (case aO => exact (by (with_reducible repeat (first | apply Kd.R_alloc | apply Kd.R_drewN | apply Kd.R_drew)); exact HOR.out)); (case aS => exact (below_size (by repeat (first | (with_reducible first | exact HB.out | apply below_alloc | apply pw_below_drewN | apply below_drew1 | refine below_set ?_ GEA.out | refine below_set ?_ GEC.out | refine below_set ?_ GEB.out | refine below_set ?_ GED.out | refine below_set ?_ GEG.out) | exact HB.out)))); (case aL => have := LMcAO.out; omega); intro vDA wDB ho hb hg hat; rw [← NyAI.out] at ho; have n0_ := Aside0.mk (Kd.R_after (ok := (fun k_ => some k_ ≠ (.slice (some adN) xF_1.length co38 : Value).ownBlock ∧ k_ ≠ gbD ∧ k_ ≠ gbG)) (by (with_reducible repeat (first | apply Kd.R_alloc | apply Kd.R_drewN | apply Kd.R_drew)); exact HO_6.out) hg hat); have n1_ := Aside0.mk (Kd.R_after (ok := (fun k_ => some k_ ≠ (.slice (some adO) tE.length co25 : Value).ownBlock ∧ k_ ≠ gbD ∧ k_ ≠ gbG)) (by (with_reducible repeat (first | apply Kd.R_alloc | apply Kd.R_drewN | apply Kd.R_drew)); exact HO_F.out) hg hat); have n2_ := Aside0.mk (blk_grown (g := gbA) (o := .cells #[.int .i64 a0_0, .int .i64 a0_1, .int .i64 a0_2, .int .i64 a0_3, .int .i64 a0_4, .int .i64 a0_5, .slice A0_6 l0_6.length c0_6] 31 (0, 0)) (by (with_reducible repeat (first | refine blk_drewN ?_ _ | refine blk_drew ?_ | refine blk_alloc ?_ _)); exact BKA.out) hg (Kd.R_ne HOR.out BKA.out (by decide))); have n3_ := Aside0.mk (blk_grown (g := gbC) (o := .cells #[.int .i64 0, .int .i64 0, .int .i64 0, .int .i64 0, .int .i64 0, .int .i64 0, .slice none 0 0] 31 (0, 0)) (by (with_reducible repeat (first | refine blk_drewN ?_ _ | refine blk_drew ?_ | refine blk_alloc ?_ _)); exact BKC.out) hg (Kd.R_ne HOR.out BKC.out (by decide))); have n4_ := Aside0.mk (blk_grown (g := gbB) (o := .cells #[.int .i64 (wrap64 (1 + tH)), .int .i64 tI, .int .i64 tK, .int .i64 tL, .int .i64 tM, .int .i64 (wrap64 (tJ - 1000)), .slice (some adN) xF_1.length co38] 31 (0, 0)) (by (with_reducible repeat (first | refine blk_drewN ?_ _ | refine blk_drew ?_ | refine blk_alloc ?_ _)); exact BKB.out) hg (Kd.R_ne HOR.out BKB.out (by decide))); have n5_ := Aside0.mk (blk_grown (g := gbD) (o := .cells #[.string ((rd_T35 tE x7_1).f0), .string ((rd_T35 tE x7_1).f1), .int .i64 (wrap64 (((rd_T35 tE x7_1).f2) + 1))] 35 (0, 0)) (by (with_reducible repeat (first | refine blk_drewN ?_ _ | refine blk_drew ?_ | refine blk_alloc ?_ _)); exact BKD.out) hg (Kd.R_away HOR.out (fun _ hk => hk.2.2.1))); have n6_ := Aside0.mk (blk_grown (g := gbG) (o := .cells #[.string ((rd_T35 xF_1 x11_2).f0), .string ((rd_T35 xF_1 x11_2).f1), .int .i64 ((rd_T35 xF_1 x11_2).f2)] 35 (0, 0)) (by (with_reducible repeat (first | refine blk_drewN ?_ _ | refine blk_drew ?_ | refine blk_alloc ?_ _)); exact BKG.out) hg (Kd.R_away HOR.out (fun _ hk => hk.2.2.2))); have n7_ := Aside0.mk (hb); have n8_ := Aside0.mk (ho); clear HO_6; clear HO_F; clear BKA; clear BKC; clear BKB; clear BKD; clear BKG; clear HB; clear HOR; have HO_6 := n0_; have HO_F := n1_; have BKA := n2_; have BKC := n3_; have BKB := n4_; have BKD := n5_; have BKG := n6_; have HB := n7_; have HOBS := n8_; clear n0_ n1_ n2_ n3_ n4_ n5_ n6_ n7_ n8_; clear ho hb hg hat))
               go_roundg kj32
               case measure => have := HK1.out; have := HK2.out; have := HJ32.out; omega
               case rel => exact ⟨(yAI), (true), (wrap64 (x11_2 + 1)), (by first | rfl | (simp; done) | (simp [*]; done)), (by first | rfl | (simp; done) | (simp [*]; done)), H', ⟨by have := HK1.out; have := HK2.out; have := HJ32.out; omega⟩, ⟨by (with_reducible repeat (first | apply Kd.R_alloc | apply Kd.R_drewN | apply Kd.R_drew)); exact Kd.R_mono HO_6.out (fun _ hk => ⟨hk.2, ⟨hk.1.1, hk.1.2.1⟩⟩)⟩, ⟨by (with_reducible repeat (first | apply Kd.R_alloc | apply Kd.R_drewN | apply Kd.R_drew)); exact Kd.R_mono HOBS.out (fun _ hk => ⟨hk.1, ⟨hk.2.1, hk.2.2.1⟩⟩)⟩, ⟨by (with_reducible repeat (first | apply Kd.R_alloc | apply Kd.R_drewN | apply Kd.R_drew)); exact Kd.R_mono HO_F.out (fun _ hk => ⟨hk.1.1, ⟨hk.2, hk.1.2.1⟩⟩)⟩, ⟨by (with_reducible repeat (first | refine blk_drewN ?_ _ | refine blk_drew ?_ | refine blk_alloc ?_ _)); exact BKA.out⟩, ⟨by (with_reducible repeat (first | refine blk_drewN ?_ _ | refine blk_drew ?_ | refine blk_alloc ?_ _)); exact BKC.out⟩, ⟨by (with_reducible repeat (first | refine blk_drewN ?_ _ | refine blk_drew ?_ | refine blk_alloc ?_ _)); exact BKB.out⟩, ⟨by (with_reducible repeat (first | refine blk_drewN ?_ _ | refine blk_drew ?_ | refine blk_alloc ?_ _)); exact BKD.out⟩, ⟨by repeat (first | (with_reducible first | exact HB.out | apply below_alloc | apply pw_below_drewN | apply below_drew1 | refine below_set ?_ GEA.out | refine below_set ?_ GEC.out | refine below_set ?_ GEB.out | refine below_set ?_ GED.out | refine below_set ?_ GEG.out) | exact HB.out)⟩⟩
              ·rw [if_neg cAO] at H
               exact absurd H (by simp)
            ·rw [if_neg c76] at H
             exact absurd H (by simp)
           ·replace c75 := Bool.eq_false_iff.mpr c75
            subst c75
            have H1 : (if ((rd_T35 xF_1 x11_2).f0).toList = ((rd_T35 tE x7_1).f0).toList then (if ((rd_T35 xF_1 x11_2).f1).toList = ((rd_T35 tE x7_1).f1).toList then (billetlaw16_Fit.l1 kj32 tE x7_1 x9_2 x10_2 (wrap64 (x11_2 + 1)) (wrap64 (1 + tH)) tI tK tL tM (wrap64 (tJ - 1000)) xF_1 ((rd_T35 tE x7_1).f0) ((rd_T35 tE x7_1).f1) (wrap64 (((rd_T35 tE x7_1).f2) + 1))) else (if x9_2.length < 3518437208883 then (billetlaw16_Fit.l1 kj32 tE x7_1 (x9_2 ++ [(⟨((rd_T35 xF_1 x11_2).f0), ((rd_T35 xF_1 x11_2).f1), ((rd_T35 xF_1 x11_2).f2)⟩ : S35)]) x10_2 (wrap64 (x11_2 + 1)) (wrap64 (1 + tH)) tI tK tL tM (wrap64 (tJ - 1000)) xF_1 ((rd_T35 tE x7_1).f0) ((rd_T35 tE x7_1).f1) (wrap64 (((rd_T35 tE x7_1).f2) + 1))) else (none))) else (if x9_2.length < 3518437208883 then (billetlaw16_Fit.l1 kj32 tE x7_1 (x9_2 ++ [(⟨((rd_T35 xF_1 x11_2).f0), ((rd_T35 xF_1 x11_2).f1), ((rd_T35 xF_1 x11_2).f2)⟩ : S35)]) x10_2 (wrap64 (x11_2 + 1)) (wrap64 (1 + tH)) tI tK tL tM (wrap64 (tJ - 1000)) xF_1 ((rd_T35 tE x7_1).f0) ((rd_T35 tE x7_1).f1) (wrap64 (((rd_T35 tE x7_1).f2) + 1))) else (none))) = some (r1, r2, r3, r4, r5, r6, r7) := by rw [if_neg (show ¬ (false = true) by decide)] at H; exact H
            clear H
            have H := H1
            clear H1
            by_cases cAE : ((rd_T35 xF_1 x11_2).f0).toList = ((rd_T35 tE x7_1).f0).toList
            ·rw [if_pos cAE] at H
             have cAEb0 : (((rd_T35 xF_1 x11_2).f0).toList == ((rd_T35 tE x7_1).f0).toList) = true := beq_iff_eq.mpr cAE
             have cAEb1 : (((rd_T35 xF_1 x11_2).f0).toList != ((rd_T35 tE x7_1).f0).toList) = false := bne_eq_false_iff_eq.mpr cAE
             clear cAE
             by_cases cAF : ((rd_T35 xF_1 x11_2).f1).toList = ((rd_T35 tE x7_1).f1).toList
             ·rw [if_pos cAF] at H
              have cAFb0 : (((rd_T35 xF_1 x11_2).f1).toList == ((rd_T35 tE x7_1).f1).toList) = true := beq_iff_eq.mpr cAF
              have cAFb1 : (((rd_T35 xF_1 x11_2).f1).toList != ((rd_T35 tE x7_1).f1).toList) = false := bne_eq_false_iff_eq.mpr cAF
              clear cAF
              have H' := Aside0.mk H
              clear H
              have hnbBT := NBG_A.out
              have hncBT := NBA_G.out
              have hnbBU := NBG_C.out
              have hncBU := NBC_G.out
              have hnbBV := NBG_B.out
              have hncBV := NBB_G.out
              have hnbBW := NBG_D.out
              have hncBW := NBD_G.out
              have hczAY_0 : wc.cell? ⟨gbG, 0, none⟩ = some (.string ((rd_T35 xF_1 x11_2).f0)) := (blk_cell BKG.out 0).trans rfl
              have hczAY_1 : wc.cell? ⟨gbG, 1, none⟩ = some (.string ((rd_T35 xF_1 x11_2).f1)) := (blk_cell BKG.out 1).trans rfl
              have hczAY_2 : wc.cell? ⟨gbG, 2, none⟩ = some (.int .i64 ((rd_T35 xF_1 x11_2).f2)) := (blk_cell BKG.out 2).trans rfl
              have hfzAY_0 := blk_frozen BKG.out 0
              have hfzAY_1 := blk_frozen BKG.out 1
              have hfzAY_2 := blk_frozen BKG.out 2
              have hnbBX := NBD_A.out
              have hncBX := NBA_D.out
              have hnbBY := NBD_C.out
              have hncBY := NBC_D.out
              have hnbBZ := NBD_B.out
              have hncBZ := NBB_D.out
              have hczAZ_0 : wc.cell? ⟨gbD, 0, none⟩ = some (.string ((rd_T35 tE x7_1).f0)) := (blk_cell BKD.out 0).trans rfl
              have hczAZ_1 : wc.cell? ⟨gbD, 1, none⟩ = some (.string ((rd_T35 tE x7_1).f1)) := (blk_cell BKD.out 1).trans rfl
              have hczAZ_2 : wc.cell? ⟨gbD, 2, none⟩ = some (.int .i64 (wrap64 (((rd_T35 tE x7_1).f2) + 1))) := (blk_cell BKD.out 2).trans rfl
              have hfzAZ_0 := blk_frozen BKD.out 0
              have hfzAZ_1 := blk_frozen BKD.out 1
              have hfzAZ_2 := blk_frozen BKD.out 2
              go_wp2
              go_roundg kj32
              case measure => have := HK1.out; have := HK2.out; have := HJ32.out; omega
              case rel => exact ⟨(x9_2), (x10_2), (wrap64 (x11_2 + 1)), (by first | rfl | (simp; done) | (simp [*]; done)), (by first | rfl | (simp; done) | (simp [*]; done)), H', ⟨by have := HK1.out; have := HK2.out; have := HJ32.out; omega⟩, ⟨by (with_reducible repeat (first | apply Kd.R_alloc | apply Kd.R_drewN | apply Kd.R_drew)); exact Kd.R_mono HO_6.out (fun _ hk => ⟨hk.1, ⟨hk.2.1, hk.2.2.1⟩⟩)⟩, ⟨by (with_reducible repeat (first | apply Kd.R_alloc | apply Kd.R_drewN | apply Kd.R_drew)); exact Kd.R_mono HO_9.out (fun _ hk => ⟨hk.1, ⟨hk.2.1, hk.2.2.1⟩⟩)⟩, ⟨by (with_reducible repeat (first | apply Kd.R_alloc | apply Kd.R_drewN | apply Kd.R_drew)); exact Kd.R_mono HO_F.out (fun _ hk => ⟨hk.1, ⟨hk.2.1, hk.2.2.1⟩⟩)⟩, ⟨by (with_reducible repeat (first | refine blk_drewN ?_ _ | refine blk_drew ?_ | refine blk_alloc ?_ _)); exact BKA.out⟩, ⟨by (with_reducible repeat (first | refine blk_drewN ?_ _ | refine blk_drew ?_ | refine blk_alloc ?_ _)); exact BKC.out⟩, ⟨by (with_reducible repeat (first | refine blk_drewN ?_ _ | refine blk_drew ?_ | refine blk_alloc ?_ _)); exact BKB.out⟩, ⟨by (with_reducible repeat (first | refine blk_drewN ?_ _ | refine blk_drew ?_ | refine blk_alloc ?_ _)); exact BKD.out⟩, ⟨by repeat (first | (with_reducible first | exact HB.out | apply below_alloc | apply pw_below_drewN | apply below_drew1 | refine below_set ?_ GEA.out | refine below_set ?_ GEC.out | refine below_set ?_ GEB.out | refine below_set ?_ GED.out | refine below_set ?_ GEG.out) | exact HB.out)⟩⟩
             ·rw [if_neg cAF] at H
              have cAFb0 : (((rd_T35 xF_1 x11_2).f1).toList == ((rd_T35 tE x7_1).f1).toList) = false := beq_eq_false_iff_ne.mpr cAF
              have cAFb1 : (((rd_T35 xF_1 x11_2).f1).toList != ((rd_T35 tE x7_1).f1).toList) = true := bne_iff_ne.mpr cAF
              by_cases cAQ : x9_2.length < 3518437208883
              ·rw [if_pos cAQ] at H
               have LMcAQ := Aside0.mk cAQ
               clear cAQ
               obtain ⟨yAJ, hyAJ⟩ : ∃ y_ : List (S35), y_ = (x9_2 ++ [(⟨((rd_T35 xF_1 x11_2).f0), ((rd_T35 xF_1 x11_2).f1), ((rd_T35 xF_1 x11_2).f2)⟩ : S35)]) := ⟨_, rfl⟩
               replace H : (billetlaw16_Fit.l1 kj32 tE x7_1 yAJ x10_2 (wrap64 (x11_2 + 1)) (wrap64 (1 + tH)) tI tK tL tM (wrap64 (tJ - 1000)) xF_1 ((rd_T35 tE x7_1).f0) ((rd_T35 tE x7_1).f1) (wrap64 (((rd_T35 tE x7_1).f2) + 1))) = some (r1, r2, r3, r4, r5, r6, r7) := by first | (rw [hyAJ]; with_reducible exact H) | (have H2_ := (Option.bind_some _ _).symm.trans H; rw [hyAJ]; with_reducible exact H2_) | (have H2_ := (Option.bind_some _ _).symm.trans H; with_reducible exact H2_) | with_reducible exact H | (rw [hyAJ]; exact H) | exact H
               have NyAJ := Aside0.mk hyAJ
               clear hyAJ
               have H' := Aside0.mk H
               clear H
               have hnbCA := NBG_A.out
               have hncCA := NBA_G.out
               have hnbCB := NBG_C.out
               have hncCB := NBC_G.out
               have hnbCC := NBG_B.out
               have hncCC := NBB_G.out
               have hnbCD := NBG_D.out
               have hncCD := NBD_G.out
               have hczBA_0 : wc.cell? ⟨gbG, 0, none⟩ = some (.string ((rd_T35 xF_1 x11_2).f0)) := (blk_cell BKG.out 0).trans rfl
               have hczBA_1 : wc.cell? ⟨gbG, 1, none⟩ = some (.string ((rd_T35 xF_1 x11_2).f1)) := (blk_cell BKG.out 1).trans rfl
               have hczBA_2 : wc.cell? ⟨gbG, 2, none⟩ = some (.int .i64 ((rd_T35 xF_1 x11_2).f2)) := (blk_cell BKG.out 2).trans rfl
               have hfzBA_0 := blk_frozen BKG.out 0
               have hfzBA_1 := blk_frozen BKG.out 1
               have hfzBA_2 := blk_frozen BKG.out 2
               have hnbCE := NBD_A.out
               have hncCE := NBA_D.out
               have hnbCF := NBD_C.out
               have hncCF := NBC_D.out
               have hnbCG := NBD_B.out
               have hncCG := NBB_D.out
               have hczBB_0 : wc.cell? ⟨gbD, 0, none⟩ = some (.string ((rd_T35 tE x7_1).f0)) := (blk_cell BKD.out 0).trans rfl
               have hczBB_1 : wc.cell? ⟨gbD, 1, none⟩ = some (.string ((rd_T35 tE x7_1).f1)) := (blk_cell BKD.out 1).trans rfl
               have hczBB_2 : wc.cell? ⟨gbD, 2, none⟩ = some (.int .i64 (wrap64 (((rd_T35 tE x7_1).f2) + 1))) := (blk_cell BKD.out 2).trans rfl
               have hfzBB_0 := blk_frozen BKD.out 0
               have hfzBB_1 := blk_frozen BKD.out 1
               have hfzBB_2 := blk_frozen BKD.out 2
               go_wp2_with (first | ((with_reducible refine gate_builtin (b := .append) (xs := #[.tmp 101, .tmp 103]) rfl ?_); at_builtin; refine Kd.R_append k35 (w0 := w) w.heap.size rfl (.tmp 101) (.tmp 103) 29 35 (.agg #[(.string ⟨#[]⟩), (.string ⟨#[]⟩), (.int .i64 0)]) 40 rfl Tryd.underlying29 info35 rfl (by decide) (by omega) u9 x9_2 (⟨((rd_T35 xF_1 x11_2).f0), ((rd_T35 xF_1 x11_2).f1), ((rd_T35 xF_1 x11_2).f2)⟩ : S35) [.string ((rd_T35 xF_1 x11_2).f0), .string ((rd_T35 xF_1 x11_2).f1), .int .i64 ((rd_T35 xF_1 x11_2).f2)] (fun k_ => some k_ ≠ (.slice (some adO) tE.length co25 : Value).ownBlock ∧ some k_ ≠ (.slice (some adN) xF_1.length co38 : Value).ownBlock ∧ k_ ≠ gbD ∧ k_ ≠ gbG) (fun _ => False) rfl rfl ?aP (fun _ hk => hk.elim) ?aF ?aO ?aB ?aS ?aL ?_; (case aP => exact k35_mkM _ _ _ (⟨((rd_T35 xF_1 x11_2).f0), ((rd_T35 xF_1 x11_2).f1), ((rd_T35 xF_1 x11_2).f2)⟩ : S35)); (case aB => exact (by repeat (first | (with_reducible first | exact HB.out | apply below_alloc | apply pw_below_drewN | apply below_drew1 | refine below_set ?_ GEA.out | refine below_set ?_ GEC.out | refine below_set ?_ GEB.out | refine below_set ?_ GED.out | refine below_set ?_ GEG.out) | exact HB.out))); (case aF => exact (fun k_ hk => ⟨Kd.fresh' (Kd.R_lt (by (with_reducible repeat (first | apply Kd.R_alloc | apply Kd.R_drewN | apply Kd.R_drew)); exact HO_6.out)) k_ hk, Kd.fresh' (Kd.R_lt (by (with_reducible repeat (first | apply Kd.R_alloc | apply Kd.R_drewN | apply Kd.R_drew)); exact HO_F.out)) k_ hk, Kd.freshB (g := gbD) (o := .cells #[.string ((rd_T35 tE x7_1).f0), .string ((rd_T35 tE x7_1).f1), .int .i64 (wrap64 (((rd_T35 tE x7_1).f2) + 1))] 35 (0, 0)) (by (with_reducible repeat (first | refine blk_drewN ?_ _ | refine blk_drew ?_ | refine blk_alloc ?_ _)); exact BKD.out) k_ hk, Kd.freshB (g := gbG) (o := .cells #[.string ((rd_T35 xF_1 x11_2).f0), .string ((rd_T35 xF_1 x11_2).f1), .int .i64 ((rd_T35 xF_1 x11_2).f2)] 35 (0, 0)) (by (with_reducible repeat (first | refine blk_drewN ?_ _ | refine blk_drew ?_ | refine blk_alloc ?_ _)); exact BKG.out) k_ hk⟩)); (case aO => exact (by (with_reducible repeat (first | apply Kd.R_alloc | apply Kd.R_drewN | apply Kd.R_drew)); exact HO_9.out)); (case aS => exact (below_size (by repeat (first | (with_reducible first | exact HB.out | apply below_alloc | apply pw_below_drewN | apply below_drew1 | refine below_set ?_ GEA.out | refine below_set ?_ GEC.out | refine below_set ?_ GEB.out | refine below_set ?_ GED.out | refine below_set ?_ GEG.out) | exact HB.out)))); (case aL => have := LMcAQ.out; omega); intro vDC wDD ho hb hg hat; rw [← NyAJ.out] at ho; have n0_ := Aside0.mk (Kd.R_after (ok := (fun k_ => some k_ ≠ (.slice (some adN) xF_1.length co38 : Value).ownBlock ∧ k_ ≠ gbD ∧ k_ ≠ gbG)) (by (with_reducible repeat (first | apply Kd.R_alloc | apply Kd.R_drewN | apply Kd.R_drew)); exact Kd.R_mono HO_6.out (fun _ hk => ⟨⟨hk.2.1, ⟨hk.2.2.1, hk.2.2.2⟩⟩, hk.1⟩)) hg hat); have n1_ := Aside0.mk (Kd.R_after (ok := (fun k_ => some k_ ≠ (.slice (some adO) tE.length co25 : Value).ownBlock ∧ k_ ≠ gbD ∧ k_ ≠ gbG)) (by (with_reducible repeat (first | apply Kd.R_alloc | apply Kd.R_drewN | apply Kd.R_drew)); exact Kd.R_mono HO_F.out (fun _ hk => ⟨⟨hk.1, ⟨hk.2.2.1, hk.2.2.2⟩⟩, hk.2.1⟩)) hg hat); have n2_ := Aside0.mk (blk_grown (g := gbA) (o := .cells #[.int .i64 a0_0, .int .i64 a0_1, .int .i64 a0_2, .int .i64 a0_3, .int .i64 a0_4, .int .i64 a0_5, .slice A0_6 l0_6.length c0_6] 31 (0, 0)) (by (with_reducible repeat (first | refine blk_drewN ?_ _ | refine blk_drew ?_ | refine blk_alloc ?_ _)); exact BKA.out) hg (Kd.R_ne HO_9.out BKA.out (by decide))); have n3_ := Aside0.mk (blk_grown (g := gbC) (o := .cells #[.int .i64 0, .int .i64 0, .int .i64 0, .int .i64 0, .int .i64 0, .int .i64 0, .slice none 0 0] 31 (0, 0)) (by (with_reducible repeat (first | refine blk_drewN ?_ _ | refine blk_drew ?_ | refine blk_alloc ?_ _)); exact BKC.out) hg (Kd.R_ne HO_9.out BKC.out (by decide))); have n4_ := Aside0.mk (blk_grown (g := gbB) (o := .cells #[.int .i64 (wrap64 (1 + tH)), .int .i64 tI, .int .i64 tK, .int .i64 tL, .int .i64 tM, .int .i64 (wrap64 (tJ - 1000)), .slice (some adN) xF_1.length co38] 31 (0, 0)) (by (with_reducible repeat (first | refine blk_drewN ?_ _ | refine blk_drew ?_ | refine blk_alloc ?_ _)); exact BKB.out) hg (Kd.R_ne HO_9.out BKB.out (by decide))); have n5_ := Aside0.mk (blk_grown (g := gbD) (o := .cells #[.string ((rd_T35 tE x7_1).f0), .string ((rd_T35 tE x7_1).f1), .int .i64 (wrap64 (((rd_T35 tE x7_1).f2) + 1))] 35 (0, 0)) (by (with_reducible repeat (first | refine blk_drewN ?_ _ | refine blk_drew ?_ | refine blk_alloc ?_ _)); exact BKD.out) hg (Kd.R_away HO_9.out (fun _ hk => hk.2.2.1))); have n6_ := Aside0.mk (blk_grown (g := gbG) (o := .cells #[.string ((rd_T35 xF_1 x11_2).f0), .string ((rd_T35 xF_1 x11_2).f1), .int .i64 ((rd_T35 xF_1 x11_2).f2)] 35 (0, 0)) (by (with_reducible repeat (first | refine blk_drewN ?_ _ | refine blk_drew ?_ | refine blk_alloc ?_ _)); exact BKG.out) hg (Kd.R_away HO_9.out (fun _ hk => hk.2.2.2))); have n7_ := Aside0.mk (hb); have n8_ := Aside0.mk (ho); clear HO_6; clear HO_F; clear BKA; clear BKC; clear BKB; clear BKD; clear BKG; clear HB; clear HO_9; have HO_6 := n0_; have HO_F := n1_; have BKA := n2_; have BKC := n3_; have BKB := n4_; have BKD := n5_; have BKG := n6_; have HB := n7_; have HOCH := n8_; clear n0_ n1_ n2_ n3_ n4_ n5_ n6_ n7_ n8_; clear ho hb hg hat))
               go_roundg kj32
               case measure => have := HK1.out; have := HK2.out; have := HJ32.out; omega
               case rel => exact ⟨(yAJ), (x10_2), (wrap64 (x11_2 + 1)), (by first | rfl | (simp; done) | (simp [*]; done)), (by first | rfl | (simp; done) | (simp [*]; done)), H', ⟨by have := HK1.out; have := HK2.out; have := HJ32.out; omega⟩, ⟨by (with_reducible repeat (first | apply Kd.R_alloc | apply Kd.R_drewN | apply Kd.R_drew)); exact Kd.R_mono HO_6.out (fun _ hk => ⟨hk.2, ⟨hk.1.1, hk.1.2.1⟩⟩)⟩, ⟨by (with_reducible repeat (first | apply Kd.R_alloc | apply Kd.R_drewN | apply Kd.R_drew)); exact Kd.R_mono HOCH.out (fun _ hk => ⟨hk.1, ⟨hk.2.1, hk.2.2.1⟩⟩)⟩, ⟨by (with_reducible repeat (first | apply Kd.R_alloc | apply Kd.R_drewN | apply Kd.R_drew)); exact Kd.R_mono HO_F.out (fun _ hk => ⟨hk.1.1, ⟨hk.2, hk.1.2.1⟩⟩)⟩, ⟨by (with_reducible repeat (first | refine blk_drewN ?_ _ | refine blk_drew ?_ | refine blk_alloc ?_ _)); exact BKA.out⟩, ⟨by (with_reducible repeat (first | refine blk_drewN ?_ _ | refine blk_drew ?_ | refine blk_alloc ?_ _)); exact BKC.out⟩, ⟨by (with_reducible repeat (first | refine blk_drewN ?_ _ | refine blk_drew ?_ | refine blk_alloc ?_ _)); exact BKB.out⟩, ⟨by (with_reducible repeat (first | refine blk_drewN ?_ _ | refine blk_drew ?_ | refine blk_alloc ?_ _)); exact BKD.out⟩, ⟨by repeat (first | (with_reducible first | exact HB.out | apply below_alloc | apply pw_below_drewN | apply below_drew1 | refine below_set ?_ GEA.out | refine below_set ?_ GEC.out | refine below_set ?_ GEB.out | refine below_set ?_ GED.out | refine below_set ?_ GEG.out) | exact HB.out)⟩⟩
              ·rw [if_neg cAQ] at H
               exact absurd H (by simp)
            ·rw [if_neg cAE] at H
             have cAEb0 : (((rd_T35 xF_1 x11_2).f0).toList == ((rd_T35 tE x7_1).f0).toList) = false := beq_eq_false_iff_ne.mpr cAE
             have cAEb1 : (((rd_T35 xF_1 x11_2).f0).toList != ((rd_T35 tE x7_1).f0).toList) = true := bne_iff_ne.mpr cAE
             by_cases cAR : x9_2.length < 3518437208883
             ·rw [if_pos cAR] at H
              have LMcAR := Aside0.mk cAR
              clear cAR
              obtain ⟨yAK, hyAK⟩ : ∃ y_ : List (S35), y_ = (x9_2 ++ [(⟨((rd_T35 xF_1 x11_2).f0), ((rd_T35 xF_1 x11_2).f1), ((rd_T35 xF_1 x11_2).f2)⟩ : S35)]) := ⟨_, rfl⟩
              replace H : (billetlaw16_Fit.l1 kj32 tE x7_1 yAK x10_2 (wrap64 (x11_2 + 1)) (wrap64 (1 + tH)) tI tK tL tM (wrap64 (tJ - 1000)) xF_1 ((rd_T35 tE x7_1).f0) ((rd_T35 tE x7_1).f1) (wrap64 (((rd_T35 tE x7_1).f2) + 1))) = some (r1, r2, r3, r4, r5, r6, r7) := by first | (rw [hyAK]; with_reducible exact H) | (have H2_ := (Option.bind_some _ _).symm.trans H; rw [hyAK]; with_reducible exact H2_) | (have H2_ := (Option.bind_some _ _).symm.trans H; with_reducible exact H2_) | with_reducible exact H | (rw [hyAK]; exact H) | exact H
              have NyAK := Aside0.mk hyAK
              clear hyAK
              have H' := Aside0.mk H
              clear H
              have hnbCI := NBG_A.out
              have hncCI := NBA_G.out
              have hnbCJ := NBG_C.out
              have hncCJ := NBC_G.out
              have hnbCK := NBG_B.out
              have hncCK := NBB_G.out
              have hnbCL := NBG_D.out
              have hncCL := NBD_G.out
              have hczBC_0 : wc.cell? ⟨gbG, 0, none⟩ = some (.string ((rd_T35 xF_1 x11_2).f0)) := (blk_cell BKG.out 0).trans rfl
              have hczBC_1 : wc.cell? ⟨gbG, 1, none⟩ = some (.string ((rd_T35 xF_1 x11_2).f1)) := (blk_cell BKG.out 1).trans rfl
              have hczBC_2 : wc.cell? ⟨gbG, 2, none⟩ = some (.int .i64 ((rd_T35 xF_1 x11_2).f2)) := (blk_cell BKG.out 2).trans rfl
              have hfzBC_0 := blk_frozen BKG.out 0
              have hfzBC_1 := blk_frozen BKG.out 1
              have hfzBC_2 := blk_frozen BKG.out 2
              have hnbCM := NBD_A.out
              have hncCM := NBA_D.out
              have hnbCN := NBD_C.out
              have hncCN := NBC_D.out
              have hnbCO := NBD_B.out
              have hncCO := NBB_D.out
              have hczBD_0 : wc.cell? ⟨gbD, 0, none⟩ = some (.string ((rd_T35 tE x7_1).f0)) := (blk_cell BKD.out 0).trans rfl
              have hczBD_1 : wc.cell? ⟨gbD, 1, none⟩ = some (.string ((rd_T35 tE x7_1).f1)) := (blk_cell BKD.out 1).trans rfl
              have hczBD_2 : wc.cell? ⟨gbD, 2, none⟩ = some (.int .i64 (wrap64 (((rd_T35 tE x7_1).f2) + 1))) := (blk_cell BKD.out 2).trans rfl
              have hfzBD_0 := blk_frozen BKD.out 0
              have hfzBD_1 := blk_frozen BKD.out 1
              have hfzBD_2 := blk_frozen BKD.out 2
              go_wp2_with (first | ((with_reducible refine gate_builtin (b := .append) (xs := #[.tmp 101, .tmp 103]) rfl ?_); at_builtin; refine Kd.R_append k35 (w0 := w) w.heap.size rfl (.tmp 101) (.tmp 103) 29 35 (.agg #[(.string ⟨#[]⟩), (.string ⟨#[]⟩), (.int .i64 0)]) 40 rfl Tryd.underlying29 info35 rfl (by decide) (by omega) u9 x9_2 (⟨((rd_T35 xF_1 x11_2).f0), ((rd_T35 xF_1 x11_2).f1), ((rd_T35 xF_1 x11_2).f2)⟩ : S35) [.string ((rd_T35 xF_1 x11_2).f0), .string ((rd_T35 xF_1 x11_2).f1), .int .i64 ((rd_T35 xF_1 x11_2).f2)] (fun k_ => some k_ ≠ (.slice (some adO) tE.length co25 : Value).ownBlock ∧ some k_ ≠ (.slice (some adN) xF_1.length co38 : Value).ownBlock ∧ k_ ≠ gbD ∧ k_ ≠ gbG) (fun _ => False) rfl rfl ?aP (fun _ hk => hk.elim) ?aF ?aO ?aB ?aS ?aL ?_; (case aP => exact k35_mkM _ _ _ (⟨((rd_T35 xF_1 x11_2).f0), ((rd_T35 xF_1 x11_2).f1), ((rd_T35 xF_1 x11_2).f2)⟩ : S35)); (case aB => exact (by repeat (first | (with_reducible first | exact HB.out | apply below_alloc | apply pw_below_drewN | apply below_drew1 | refine below_set ?_ GEA.out | refine below_set ?_ GEC.out | refine below_set ?_ GEB.out | refine below_set ?_ GED.out | refine below_set ?_ GEG.out) | exact HB.out))); (case aF => exact (fun k_ hk => ⟨Kd.fresh' (Kd.R_lt (by (with_reducible repeat (first | apply Kd.R_alloc | apply Kd.R_drewN | apply Kd.R_drew)); exact HO_6.out)) k_ hk, Kd.fresh' (Kd.R_lt (by (with_reducible repeat (first | apply Kd.R_alloc | apply Kd.R_drewN | apply Kd.R_drew)); exact HO_F.out)) k_ hk, Kd.freshB (g := gbD) (o := .cells #[.string ((rd_T35 tE x7_1).f0), .string ((rd_T35 tE x7_1).f1), .int .i64 (wrap64 (((rd_T35 tE x7_1).f2) + 1))] 35 (0, 0)) (by (with_reducible repeat (first | refine blk_drewN ?_ _ | refine blk_drew ?_ | refine blk_alloc ?_ _)); exact BKD.out) k_ hk, Kd.freshB (g := gbG) (o := .cells #[.string ((rd_T35 xF_1 x11_2).f0), .string ((rd_T35 xF_1 x11_2).f1), .int .i64 ((rd_T35 xF_1 x11_2).f2)] 35 (0, 0)) (by (with_reducible repeat (first | refine blk_drewN ?_ _ | refine blk_drew ?_ | refine blk_alloc ?_ _)); exact BKG.out) k_ hk⟩)); (case aO => exact (by (with_reducible repeat (first | apply Kd.R_alloc | apply Kd.R_drewN | apply Kd.R_drew)); exact HO_9.out)); (case aS => exact (below_size (by repeat (first | (with_reducible first | exact HB.out | apply below_alloc | apply pw_below_drewN | apply below_drew1 | refine below_set ?_ GEA.out | refine below_set ?_ GEC.out | refine below_set ?_ GEB.out | refine below_set ?_ GED.out | refine below_set ?_ GEG.out) | exact HB.out)))); (case aL => have := LMcAR.out; omega); intro vDE wDF ho hb hg hat; rw [← NyAK.out] at ho; have n0_ := Aside0.mk (Kd.R_after (ok := (fun k_ => some k_ ≠ (.slice (some adN) xF_1.length co38 : Value).ownBlock ∧ k_ ≠ gbD ∧ k_ ≠ gbG)) (by (with_reducible repeat (first | apply Kd.R_alloc | apply Kd.R_drewN | apply Kd.R_drew)); exact Kd.R_mono HO_6.out (fun _ hk => ⟨⟨hk.2.1, ⟨hk.2.2.1, hk.2.2.2⟩⟩, hk.1⟩)) hg hat); have n1_ := Aside0.mk (Kd.R_after (ok := (fun k_ => some k_ ≠ (.slice (some adO) tE.length co25 : Value).ownBlock ∧ k_ ≠ gbD ∧ k_ ≠ gbG)) (by (with_reducible repeat (first | apply Kd.R_alloc | apply Kd.R_drewN | apply Kd.R_drew)); exact Kd.R_mono HO_F.out (fun _ hk => ⟨⟨hk.1, ⟨hk.2.2.1, hk.2.2.2⟩⟩, hk.2.1⟩)) hg hat); have n2_ := Aside0.mk (blk_grown (g := gbA) (o := .cells #[.int .i64 a0_0, .int .i64 a0_1, .int .i64 a0_2, .int .i64 a0_3, .int .i64 a0_4, .int .i64 a0_5, .slice A0_6 l0_6.length c0_6] 31 (0, 0)) (by (with_reducible repeat (first | refine blk_drewN ?_ _ | refine blk_drew ?_ | refine blk_alloc ?_ _)); exact BKA.out) hg (Kd.R_ne HO_9.out BKA.out (by decide))); have n3_ := Aside0.mk (blk_grown (g := gbC) (o := .cells #[.int .i64 0, .int .i64 0, .int .i64 0, .int .i64 0, .int .i64 0, .int .i64 0, .slice none 0 0] 31 (0, 0)) (by (with_reducible repeat (first | refine blk_drewN ?_ _ | refine blk_drew ?_ | refine blk_alloc ?_ _)); exact BKC.out) hg (Kd.R_ne HO_9.out BKC.out (by decide))); have n4_ := Aside0.mk (blk_grown (g := gbB) (o := .cells #[.int .i64 (wrap64 (1 + tH)), .int .i64 tI, .int .i64 tK, .int .i64 tL, .int .i64 tM, .int .i64 (wrap64 (tJ - 1000)), .slice (some adN) xF_1.length co38] 31 (0, 0)) (by (with_reducible repeat (first | refine blk_drewN ?_ _ | refine blk_drew ?_ | refine blk_alloc ?_ _)); exact BKB.out) hg (Kd.R_ne HO_9.out BKB.out (by decide))); have n5_ := Aside0.mk (blk_grown (g := gbD) (o := .cells #[.string ((rd_T35 tE x7_1).f0), .string ((rd_T35 tE x7_1).f1), .int .i64 (wrap64 (((rd_T35 tE x7_1).f2) + 1))] 35 (0, 0)) (by (with_reducible repeat (first | refine blk_drewN ?_ _ | refine blk_drew ?_ | refine blk_alloc ?_ _)); exact BKD.out) hg (Kd.R_away HO_9.out (fun _ hk => hk.2.2.1))); have n6_ := Aside0.mk (blk_grown (g := gbG) (o := .cells #[.string ((rd_T35 xF_1 x11_2).f0), .string ((rd_T35 xF_1 x11_2).f1), .int .i64 ((rd_T35 xF_1 x11_2).f2)] 35 (0, 0)) (by (with_reducible repeat (first | refine blk_drewN ?_ _ | refine blk_drew ?_ | refine blk_alloc ?_ _)); exact BKG.out) hg (Kd.R_away HO_9.out (fun _ hk => hk.2.2.2))); have n7_ := Aside0.mk (hb); have n8_ := Aside0.mk (ho); clear HO_6; clear HO_F; clear BKA; clear BKC; clear BKB; clear BKD; clear BKG; clear HB; clear HO_9; have HO_6 := n0_; have HO_F := n1_; have BKA := n2_; have BKC := n3_; have BKB := n4_; have BKD := n5_; have BKG := n6_; have HB := n7_; have HOCP := n8_; clear n0_ n1_ n2_ n3_ n4_ n5_ n6_ n7_ n8_; clear ho hb hg hat))
              go_roundg kj32
              case measure => have := HK1.out; have := HK2.out; have := HJ32.out; omega
              case rel => exact ⟨(yAK), (x10_2), (wrap64 (x11_2 + 1)), (by first | rfl | (simp; done) | (simp [*]; done)), (by first | rfl | (simp; done) | (simp [*]; done)), H', ⟨by have := HK1.out; have := HK2.out; have := HJ32.out; omega⟩, ⟨by (with_reducible repeat (first | apply Kd.R_alloc | apply Kd.R_drewN | apply Kd.R_drew)); exact Kd.R_mono HO_6.out (fun _ hk => ⟨hk.2, ⟨hk.1.1, hk.1.2.1⟩⟩)⟩, ⟨by (with_reducible repeat (first | apply Kd.R_alloc | apply Kd.R_drewN | apply Kd.R_drew)); exact Kd.R_mono HOCP.out (fun _ hk => ⟨hk.1, ⟨hk.2.1, hk.2.2.1⟩⟩)⟩, ⟨by (with_reducible repeat (first | apply Kd.R_alloc | apply Kd.R_drewN | apply Kd.R_drew)); exact Kd.R_mono HO_F.out (fun _ hk => ⟨hk.1.1, ⟨hk.2, hk.1.2.1⟩⟩)⟩, ⟨by (with_reducible repeat (first | refine blk_drewN ?_ _ | refine blk_drew ?_ | refine blk_alloc ?_ _)); exact BKA.out⟩, ⟨by (with_reducible repeat (first | refine blk_drewN ?_ _ | refine blk_drew ?_ | refine blk_alloc ?_ _)); exact BKC.out⟩, ⟨by (with_reducible repeat (first | refine blk_drewN ?_ _ | refine blk_drew ?_ | refine blk_alloc ?_ _)); exact BKB.out⟩, ⟨by (with_reducible repeat (first | refine blk_drewN ?_ _ | refine blk_drew ?_ | refine blk_alloc ?_ _)); exact BKD.out⟩, ⟨by repeat (first | (with_reducible first | exact HB.out | apply below_alloc | apply pw_below_drewN | apply below_drew1 | refine below_set ?_ GEA.out | refine below_set ?_ GEC.out | refine below_set ?_ GEB.out | refine below_set ?_ GED.out | refine below_set ?_ GEG.out) | exact HB.out)⟩⟩
             ·rw [if_neg cAR] at H
              exact absurd H (by simp)
        ·rw [if_neg c32] at H
         exact absurd H (by simp)
       ·rw [if_neg c31] at H
        have c31b0 : decide (x11_2 < (xF_1.length : Int)) = false := decide_eq_false c31
        clear c31
        by_cases cBH : x10_2 = true
        ·subst cBH
         have H1 : (billetlaw16_Fit.l0 k2 tE (wrap64 (x7_1 + 1)) (wrap64 (1 + tH)) tI tK tL tM (wrap64 (tJ - 1000)) x9_2) = some (r1, r2, r3, r4, r5, r6, r7) := by rw [if_pos rfl] at H; exact H
         clear H
         have H := H1
         clear H1
         have H' := Aside0.mk H
         clear H
         have hnbCQ := NBB_A.out
         have hncCQ := NBA_B.out
         have hnbCR := NBB_C.out
         have hncCR := NBC_B.out
         have hnbCS := NBB_D.out
         have hncCS := NBD_B.out
         have hczAA_0 : wr.cell? ⟨gbB, 0, none⟩ = some (.int .i64 (wrap64 (1 + tH))) := (blk_cell BKB.out 0).trans rfl
         have hczAA_1 : wr.cell? ⟨gbB, 1, none⟩ = some (.int .i64 tI) := (blk_cell BKB.out 1).trans rfl
         have hczAA_2 : wr.cell? ⟨gbB, 2, none⟩ = some (.int .i64 tK) := (blk_cell BKB.out 2).trans rfl
         have hczAA_3 : wr.cell? ⟨gbB, 3, none⟩ = some (.int .i64 tL) := (blk_cell BKB.out 3).trans rfl
         have hczAA_4 : wr.cell? ⟨gbB, 4, none⟩ = some (.int .i64 tM) := (blk_cell BKB.out 4).trans rfl
         have hczAA_5 : wr.cell? ⟨gbB, 5, none⟩ = some (.int .i64 (wrap64 (tJ - 1000))) := (blk_cell BKB.out 5).trans rfl
         have hczAA_6 : wr.cell? ⟨gbB, 6, none⟩ = some (uF) := (blk_cell BKB.out 6).trans rfl
         have hfzAA_0 := blk_frozen BKB.out 0
         have hfzAA_1 := blk_frozen BKB.out 1
         have hfzAA_2 := blk_frozen BKB.out 2
         have hfzAA_3 := blk_frozen BKB.out 3
         have hfzAA_4 := blk_frozen BKB.out 4
         have hfzAA_5 := blk_frozen BKB.out 5
         have hfzAA_6 := blk_frozen BKB.out 6
         obtain ⟨AoBE, coBE, eoBE⟩ := Kd.R_slice HO_F.out
         subst eoBE
         obtain ⟨AoAL, coAL, eoAL⟩ := Kd.R_slice HO_9.out
         subst eoAL
         go_wp2
         go_roundg k2
         case measure => have := HK1.out; have := HK2.out; omega
         case rel => exact ⟨(wrap64 (x7_1 + 1)), (x9_2), (.slice AoAL x9_2.length coAL), (by first | rfl | (simp; done) | (simp [*]; done)), H', ⟨by have := HK1.out; have := HK2.out; omega⟩, ⟨by (with_reducible repeat (first | apply Kd.R_alloc | apply Kd.R_drewN | apply Kd.R_drew)); exact Kd.R_mono (Kd.R_far (p := ⟨gbB, 6, none⟩) (Kd.R_types HO_6.out BKB.out (by decide)) (fun _ hk => hk.2) (.slice AoAL x9_2.length coAL)) (fun _ hk => hk.1.1)⟩, ⟨by (with_reducible repeat (first | apply Kd.R_alloc | apply Kd.R_drewN | apply Kd.R_drew)); exact Kd.R_mono (Kd.R_far (p := ⟨gbB, 6, none⟩) (Kd.R_types HO_9.out BKB.out (by decide)) (fun _ hk => hk.2) (.slice AoAL x9_2.length coAL)) (fun _ hk => hk.1.1)⟩, ⟨by (with_reducible repeat (first | refine blk_drewN ?_ _ | refine blk_drew ?_ | refine blk_alloc ?_ _)); refine blk_far ?_ NBA_B.out _; (with_reducible repeat (first | refine blk_drewN ?_ _ | refine blk_drew ?_ | refine blk_alloc ?_ _)); exact BKA.out⟩, ⟨by (with_reducible repeat (first | refine blk_drewN ?_ _ | refine blk_drew ?_ | refine blk_alloc ?_ _)); refine blk_far ?_ NBC_B.out _; (with_reducible repeat (first | refine blk_drewN ?_ _ | refine blk_drew ?_ | refine blk_alloc ?_ _)); exact BKC.out⟩, ⟨by (with_reducible repeat (first | refine blk_drewN ?_ _ | refine blk_drew ?_ | refine blk_alloc ?_ _)); refine blk_put (cs := #[.int .i64 (wrap64 (1 + tH)), .int .i64 tI, .int .i64 tK, .int .i64 tL, .int .i64 tM, .int .i64 (wrap64 (tJ - 1000)), .slice AoBE xF_1.length coBE]) ?_ 6 _ rfl; (with_reducible repeat (first | refine blk_drewN ?_ _ | refine blk_drew ?_ | refine blk_alloc ?_ _)); exact BKB.out⟩, ⟨by repeat (first | (with_reducible first | exact HB.out | apply below_alloc | apply pw_below_drewN | apply below_drew1 | refine below_set ?_ GEA.out | refine below_set ?_ GEC.out | refine below_set ?_ GEB.out | refine below_set ?_ GED.out) | exact HB.out)⟩⟩
        ·replace cBH := Bool.eq_false_iff.mpr cBH
         subst cBH
         have H1 : (if x9_2.length < 3518437208883 then (billetlaw16_Fit.l0 k2 tE (wrap64 (x7_1 + 1)) (wrap64 (1 + tH)) tI tK tL tM (wrap64 (tJ - 1000)) (x9_2 ++ [(⟨((rd_T35 tE x7_1).f0), ((rd_T35 tE x7_1).f1), (wrap64 (((rd_T35 tE x7_1).f2) + 1))⟩ : S35)])) else (none)) = some (r1, r2, r3, r4, r5, r6, r7) := by rw [if_neg (show ¬ (false = true) by decide)] at H; exact H
         clear H
         have H := H1
         clear H1
         by_cases cAS : x9_2.length < 3518437208883
         ·rw [if_pos cAS] at H
          have LMcAS := Aside0.mk cAS
          clear cAS
          obtain ⟨yAB, hyAB⟩ : ∃ y_ : List (S35), y_ = (x9_2 ++ [(⟨((rd_T35 tE x7_1).f0), ((rd_T35 tE x7_1).f1), (wrap64 (((rd_T35 tE x7_1).f2) + 1))⟩ : S35)]) := ⟨_, rfl⟩
          replace H : (billetlaw16_Fit.l0 k2 tE (wrap64 (x7_1 + 1)) (wrap64 (1 + tH)) tI tK tL tM (wrap64 (tJ - 1000)) yAB) = some (r1, r2, r3, r4, r5, r6, r7) := by first | (rw [hyAB]; with_reducible exact H) | (have H2_ := (Option.bind_some _ _).symm.trans H; rw [hyAB]; with_reducible exact H2_) | (have H2_ := (Option.bind_some _ _).symm.trans H; with_reducible exact H2_) | with_reducible exact H | (rw [hyAB]; exact H) | exact H
          have NyAB := Aside0.mk hyAB
          clear hyAB
          have H' := Aside0.mk H
          clear H
          have hnbCT := NBB_A.out
          have hncCT := NBA_B.out
          have hnbCU := NBB_C.out
          have hncCU := NBC_B.out
          have hnbCV := NBB_D.out
          have hncCV := NBD_B.out
          have hczAC_0 : wr.cell? ⟨gbB, 0, none⟩ = some (.int .i64 (wrap64 (1 + tH))) := (blk_cell BKB.out 0).trans rfl
          have hczAC_1 : wr.cell? ⟨gbB, 1, none⟩ = some (.int .i64 tI) := (blk_cell BKB.out 1).trans rfl
          have hczAC_2 : wr.cell? ⟨gbB, 2, none⟩ = some (.int .i64 tK) := (blk_cell BKB.out 2).trans rfl
          have hczAC_3 : wr.cell? ⟨gbB, 3, none⟩ = some (.int .i64 tL) := (blk_cell BKB.out 3).trans rfl
          have hczAC_4 : wr.cell? ⟨gbB, 4, none⟩ = some (.int .i64 tM) := (blk_cell BKB.out 4).trans rfl
          have hczAC_5 : wr.cell? ⟨gbB, 5, none⟩ = some (.int .i64 (wrap64 (tJ - 1000))) := (blk_cell BKB.out 5).trans rfl
          have hczAC_6 : wr.cell? ⟨gbB, 6, none⟩ = some (uF) := (blk_cell BKB.out 6).trans rfl
          have hfzAC_0 := blk_frozen BKB.out 0
          have hfzAC_1 := blk_frozen BKB.out 1
          have hfzAC_2 := blk_frozen BKB.out 2
          have hfzAC_3 := blk_frozen BKB.out 3
          have hfzAC_4 := blk_frozen BKB.out 4
          have hfzAC_5 := blk_frozen BKB.out 5
          have hfzAC_6 := blk_frozen BKB.out 6
          obtain ⟨AoAD, coAD, eoAD⟩ := Kd.R_slice HO_F.out
          subst eoAD
          have hnbCW := NBD_A.out
          have hncCW := NBA_D.out
          have hnbCX := NBD_C.out
          have hncCX := NBC_D.out
          have hczA_0 : wr.cell? ⟨gbD, 0, none⟩ = some (.string ((rd_T35 tE x7_1).f0)) := (blk_cell BKD.out 0).trans rfl
          have hczA_1 : wr.cell? ⟨gbD, 1, none⟩ = some (.string ((rd_T35 tE x7_1).f1)) := (blk_cell BKD.out 1).trans rfl
          have hczA_2 : wr.cell? ⟨gbD, 2, none⟩ = some (.int .i64 (wrap64 (((rd_T35 tE x7_1).f2) + 1))) := (blk_cell BKD.out 2).trans rfl
          have hfzA_0 := blk_frozen BKD.out 0
          have hfzA_1 := blk_frozen BKD.out 1
          have hfzA_2 := blk_frozen BKD.out 2
          go_wp2_with (first | ((with_reducible refine gate_builtin (b := .append) (xs := #[.tmp 107, .tmp 109]) rfl ?_); at_builtin; refine Kd.R_append k35 (w0 := w) w.heap.size rfl (.tmp 107) (.tmp 109) 29 35 (.agg #[(.string ⟨#[]⟩), (.string ⟨#[]⟩), (.int .i64 0)]) 40 rfl Tryd.underlying29 info35 rfl (by decide) (by omega) u9 x9_2 (⟨((rd_T35 tE x7_1).f0), ((rd_T35 tE x7_1).f1), (wrap64 (((rd_T35 tE x7_1).f2) + 1))⟩ : S35) [.string ((rd_T35 tE x7_1).f0), .string ((rd_T35 tE x7_1).f1), .int .i64 (wrap64 (((rd_T35 tE x7_1).f2) + 1))] (fun k_ => some k_ ≠ (.slice (some adO) tE.length co25 : Value).ownBlock ∧ some k_ ≠ (.slice AoAD xF_1.length coAD : Value).ownBlock ∧ k_ ≠ gbD) (fun _ => False) rfl rfl ?aP (fun _ hk => hk.elim) ?aF ?aO ?aB ?aS ?aL ?_; (case aP => exact k35_mkM _ _ _ (⟨((rd_T35 tE x7_1).f0), ((rd_T35 tE x7_1).f1), (wrap64 (((rd_T35 tE x7_1).f2) + 1))⟩ : S35)); (case aB => exact (by repeat (first | (with_reducible first | exact HB.out | apply below_alloc | apply pw_below_drewN | apply below_drew1 | refine below_set ?_ GEA.out | refine below_set ?_ GEC.out | refine below_set ?_ GEB.out | refine below_set ?_ GED.out) | exact HB.out))); (case aF => exact (fun k_ hk => ⟨Kd.fresh' (Kd.R_lt (by (with_reducible repeat (first | apply Kd.R_alloc | apply Kd.R_drewN | apply Kd.R_drew)); exact HO_6.out)) k_ hk, Kd.fresh' (Kd.R_lt (by (with_reducible repeat (first | apply Kd.R_alloc | apply Kd.R_drewN | apply Kd.R_drew)); exact HO_F.out)) k_ hk, Kd.freshB (g := gbD) (o := .cells #[.string ((rd_T35 tE x7_1).f0), .string ((rd_T35 tE x7_1).f1), .int .i64 (wrap64 (((rd_T35 tE x7_1).f2) + 1))] 35 (0, 0)) (by (with_reducible repeat (first | refine blk_drewN ?_ _ | refine blk_drew ?_ | refine blk_alloc ?_ _)); exact BKD.out) k_ hk⟩)); (case aO => exact (by (with_reducible repeat (first | apply Kd.R_alloc | apply Kd.R_drewN | apply Kd.R_drew)); exact HO_9.out)); (case aS => exact (below_size (by repeat (first | (with_reducible first | exact HB.out | apply below_alloc | apply pw_below_drewN | apply below_drew1 | refine below_set ?_ GEA.out | refine below_set ?_ GEC.out | refine below_set ?_ GEB.out | refine below_set ?_ GED.out) | exact HB.out)))); (case aL => have := LMcAS.out; omega); intro vDG wC ho hb hg hat; rw [← NyAB.out] at ho; have n0_ := Aside0.mk (Kd.R_after (ok := (fun k_ => some k_ ≠ (.slice AoAD xF_1.length coAD : Value).ownBlock ∧ k_ ≠ gbD)) (by (with_reducible repeat (first | apply Kd.R_alloc | apply Kd.R_drewN | apply Kd.R_drew)); exact Kd.R_mono HO_6.out (fun _ hk => ⟨⟨hk.2.1, hk.2.2⟩, hk.1⟩)) hg hat); have n1_ := Aside0.mk (Kd.R_after (ok := (fun k_ => some k_ ≠ (.slice (some adO) tE.length co25 : Value).ownBlock ∧ k_ ≠ gbD)) (by (with_reducible repeat (first | apply Kd.R_alloc | apply Kd.R_drewN | apply Kd.R_drew)); exact Kd.R_mono HO_F.out (fun _ hk => ⟨⟨hk.1, hk.2.2⟩, hk.2.1⟩)) hg hat); have n2_ := Aside0.mk (blk_grown (g := gbA) (o := .cells #[.int .i64 a0_0, .int .i64 a0_1, .int .i64 a0_2, .int .i64 a0_3, .int .i64 a0_4, .int .i64 a0_5, .slice A0_6 l0_6.length c0_6] 31 (0, 0)) (by (with_reducible repeat (first | refine blk_drewN ?_ _ | refine blk_drew ?_ | refine blk_alloc ?_ _)); exact BKA.out) hg (Kd.R_ne HO_9.out BKA.out (by decide))); have n3_ := Aside0.mk (blk_grown (g := gbC) (o := .cells #[.int .i64 0, .int .i64 0, .int .i64 0, .int .i64 0, .int .i64 0, .int .i64 0, .slice none 0 0] 31 (0, 0)) (by (with_reducible repeat (first | refine blk_drewN ?_ _ | refine blk_drew ?_ | refine blk_alloc ?_ _)); exact BKC.out) hg (Kd.R_ne HO_9.out BKC.out (by decide))); have n4_ := Aside0.mk (blk_grown (g := gbB) (o := .cells #[.int .i64 (wrap64 (1 + tH)), .int .i64 tI, .int .i64 tK, .int .i64 tL, .int .i64 tM, .int .i64 (wrap64 (tJ - 1000)), .slice AoAD xF_1.length coAD] 31 (0, 0)) (by (with_reducible repeat (first | refine blk_drewN ?_ _ | refine blk_drew ?_ | refine blk_alloc ?_ _)); exact BKB.out) hg (Kd.R_ne HO_9.out BKB.out (by decide))); have n5_ := Aside0.mk (blk_grown (g := gbD) (o := .cells #[.string ((rd_T35 tE x7_1).f0), .string ((rd_T35 tE x7_1).f1), .int .i64 (wrap64 (((rd_T35 tE x7_1).f2) + 1))] 35 (0, 0)) (by (with_reducible repeat (first | refine blk_drewN ?_ _ | refine blk_drew ?_ | refine blk_alloc ?_ _)); exact BKD.out) hg (Kd.R_away HO_9.out (fun _ hk => hk.2.2))); have n6_ := Aside0.mk (hb); have n7_ := Aside0.mk (ho); clear HO_6; clear HO_F; clear BKA; clear BKC; clear BKB; clear BKD; clear HB; clear HO_9; have HO_6 := n0_; have HO_F := n1_; have BKA := n2_; have BKC := n3_; have BKB := n4_; have BKD := n5_; have HB := n6_; have HOBI := n7_; clear n0_ n1_ n2_ n3_ n4_ n5_ n6_ n7_; clear ho hb hg hat; obtain ⟨AoH, coH, eoH⟩ := Kd.R_slice HOBI.out; subst eoH; have hczI_0 : wC.cell? ⟨gbB, 0, none⟩ = some (.int .i64 (wrap64 (1 + tH))) := (blk_cell BKB.out 0).trans rfl; have hczI_1 : wC.cell? ⟨gbB, 1, none⟩ = some (.int .i64 tI) := (blk_cell BKB.out 1).trans rfl; have hczI_2 : wC.cell? ⟨gbB, 2, none⟩ = some (.int .i64 tK) := (blk_cell BKB.out 2).trans rfl; have hczI_3 : wC.cell? ⟨gbB, 3, none⟩ = some (.int .i64 tL) := (blk_cell BKB.out 3).trans rfl; have hczI_4 : wC.cell? ⟨gbB, 4, none⟩ = some (.int .i64 tM) := (blk_cell BKB.out 4).trans rfl; have hczI_5 : wC.cell? ⟨gbB, 5, none⟩ = some (.int .i64 (wrap64 (tJ - 1000))) := (blk_cell BKB.out 5).trans rfl; have hczI_6 : wC.cell? ⟨gbB, 6, none⟩ = some (.slice AoAD xF_1.length coAD) := (blk_cell BKB.out 6).trans rfl; have hfzI_0 := blk_frozen BKB.out 0; have hfzI_1 := blk_frozen BKB.out 1; have hfzI_2 := blk_frozen BKB.out 2; have hfzI_3 := blk_frozen BKB.out 3; have hfzI_4 := blk_frozen BKB.out 4; have hfzI_5 := blk_frozen BKB.out 5; have hfzI_6 := blk_frozen BKB.out 6))
          go_roundg k2
          case measure => have := HK1.out; have := HK2.out; omega
          case rel => exact ⟨(wrap64 (x7_1 + 1)), (yAB), (.slice AoH yAB.length coH), (by first | rfl | (simp; done) | (simp [*]; done)), H', ⟨by have := HK1.out; have := HK2.out; omega⟩, ⟨by (with_reducible repeat (first | apply Kd.R_alloc | apply Kd.R_drewN | apply Kd.R_drew)); exact Kd.R_mono (Kd.R_far (p := ⟨gbB, 6, none⟩) (Kd.R_types HO_6.out BKB.out (by decide)) (fun _ hk => hk.2) (.slice AoH yAB.length coH)) (fun _ hk => hk.1.2)⟩, ⟨by (with_reducible repeat (first | apply Kd.R_alloc | apply Kd.R_drewN | apply Kd.R_drew)); exact Kd.R_mono (Kd.R_far (p := ⟨gbB, 6, none⟩) (Kd.R_types HOBI.out BKB.out (by decide)) (fun _ hk => hk.2) (.slice AoH yAB.length coH)) (fun _ hk => hk.1.1)⟩, ⟨by (with_reducible repeat (first | refine blk_drewN ?_ _ | refine blk_drew ?_ | refine blk_alloc ?_ _)); refine blk_far ?_ NBA_B.out _; (with_reducible repeat (first | refine blk_drewN ?_ _ | refine blk_drew ?_ | refine blk_alloc ?_ _)); exact BKA.out⟩, ⟨by (with_reducible repeat (first | refine blk_drewN ?_ _ | refine blk_drew ?_ | refine blk_alloc ?_ _)); refine blk_far ?_ NBC_B.out _; (with_reducible repeat (first | refine blk_drewN ?_ _ | refine blk_drew ?_ | refine blk_alloc ?_ _)); exact BKC.out⟩, ⟨by (with_reducible repeat (first | refine blk_drewN ?_ _ | refine blk_drew ?_ | refine blk_alloc ?_ _)); refine blk_put (cs := #[.int .i64 (wrap64 (1 + tH)), .int .i64 tI, .int .i64 tK, .int .i64 tL, .int .i64 tM, .int .i64 (wrap64 (tJ - 1000)), .slice AoAD xF_1.length coAD]) ?_ 6 _ rfl; (with_reducible repeat (first | refine blk_drewN ?_ _ | refine blk_drew ?_ | refine blk_alloc ?_ _)); exact BKB.out⟩, ⟨by repeat (first | (with_reducible first | exact HB.out | apply below_alloc | apply pw_below_drewN | apply below_drew1 | refine below_set ?_ GEA.out | refine below_set ?_ GEC.out | refine below_set ?_ GEB.out | refine below_set ?_ GED.out) | exact HB.out)⟩⟩
         ·rw [if_neg cAS] at H
          exact absurd H (by simp)
    ·rw [if_neg c24] at H
     exact absurd H (by simp)
   ·rw [if_neg c23] at H
    have c23b0 : decide (x7_1 < (tE.length : Int)) = false := decide_eq_false c23
    clear c23
    simp only [Option.some.injEq, Prod.mk.injEq] at H
    obtain ⟨rfl, rfl, rfl, rfl, rfl, rfl, rfl⟩ := H
    obtain ⟨AoK, coK, eoK⟩ := Kd.R_slice HO_6.out
    subst eoK
    have hnbL := NBB_A.out
    have hncL := NBA_B.out
    have hnbM := NBB_C.out
    have hncM := NBC_B.out
    have hczJ_0 : wr.cell? ⟨gbB, 0, none⟩ = some (.int .i64 (wrap64 (1 + tH))) := (blk_cell BKB.out 0).trans rfl
    have hczJ_1 : wr.cell? ⟨gbB, 1, none⟩ = some (.int .i64 tI) := (blk_cell BKB.out 1).trans rfl
    have hczJ_2 : wr.cell? ⟨gbB, 2, none⟩ = some (.int .i64 tK) := (blk_cell BKB.out 2).trans rfl
    have hczJ_3 : wr.cell? ⟨gbB, 3, none⟩ = some (.int .i64 tL) := (blk_cell BKB.out 3).trans rfl
    have hczJ_4 : wr.cell? ⟨gbB, 4, none⟩ = some (.int .i64 tM) := (blk_cell BKB.out 4).trans rfl
    have hczJ_5 : wr.cell? ⟨gbB, 5, none⟩ = some (.int .i64 (wrap64 (tJ - 1000))) := (blk_cell BKB.out 5).trans rfl
    have hczJ_6 : wr.cell? ⟨gbB, 6, none⟩ = some (uF) := (blk_cell BKB.out 6).trans rfl
    have hfzJ_0 := blk_frozen BKB.out 0
    have hfzJ_1 := blk_frozen BKB.out 1
    have hfzJ_2 := blk_frozen BKB.out 2
    have hfzJ_3 := blk_frozen BKB.out 3
    have hfzJ_4 := blk_frozen BKB.out 4
    have hfzJ_5 := blk_frozen BKB.out 5
    have hfzJ_6 := blk_frozen BKB.out 6
    have hnbB := NBC_A.out
    have hncB := NBA_C.out
    have hczE_0 : wr.cell? ⟨gbC, 0, none⟩ = some (.int .i64 0) := (blk_cell BKC.out 0).trans rfl
    have hczE_1 : wr.cell? ⟨gbC, 1, none⟩ = some (.int .i64 0) := (blk_cell BKC.out 1).trans rfl
    have hczE_2 : wr.cell? ⟨gbC, 2, none⟩ = some (.int .i64 0) := (blk_cell BKC.out 2).trans rfl
    have hczE_3 : wr.cell? ⟨gbC, 3, none⟩ = some (.int .i64 0) := (blk_cell BKC.out 3).trans rfl
    have hczE_4 : wr.cell? ⟨gbC, 4, none⟩ = some (.int .i64 0) := (blk_cell BKC.out 4).trans rfl
    have hczE_5 : wr.cell? ⟨gbC, 5, none⟩ = some (.int .i64 0) := (blk_cell BKC.out 5).trans rfl
    have hczE_6 : wr.cell? ⟨gbC, 6, none⟩ = some (.slice none 0 0) := (blk_cell BKC.out 6).trans rfl
    have hfzE_0 := blk_frozen BKC.out 0
    have hfzE_1 := blk_frozen BKC.out 1
    have hfzE_2 := blk_frozen BKC.out 2
    have hfzE_3 := blk_frozen BKC.out 3
    have hfzE_4 := blk_frozen BKC.out 4
    have hfzE_5 := blk_frozen BKC.out 5
    have hfzE_6 := blk_frozen BKC.out 6
    obtain ⟨AoAG, coAG, eoAG⟩ := Kd.R_slice HO_F.out
    subst eoAG
    go_wp2
    refine bodyPost_ret (results_cell_row rfl _ _ gbC 31 #[.int .i64 (wrap64 (1 + tH)), .int .i64 tI, .int .i64 tK, .int .i64 tL, .int .i64 tM, .int .i64 (wrap64 (tJ - 1000)), .slice AoAG xF_1.length coAG] (0, 0) _ rfl (by (with_reducible repeat (first | refine blk_drewN ?_ _ | refine blk_drew ?_ | refine blk_alloc ?_ _)); refine blk_put (cs := #[.int .i64 (wrap64 (1 + tH)), .int .i64 tI, .int .i64 tK, .int .i64 tL, .int .i64 tM, .int .i64 (wrap64 (tJ - 1000)), .slice none 0 0]) ?_ 6 _ rfl; (with_reducible repeat (first | refine blk_drewN ?_ _ | refine blk_drew ?_ | refine blk_alloc ?_ _)); refine blk_put (cs := #[.int .i64 (wrap64 (1 + tH)), .int .i64 tI, .int .i64 tK, .int .i64 tL, .int .i64 tM, .int .i64 0, .slice none 0 0]) ?_ 5 _ rfl; (with_reducible repeat (first | refine blk_drewN ?_ _ | refine blk_drew ?_ | refine blk_alloc ?_ _)); refine blk_put (cs := #[.int .i64 (wrap64 (1 + tH)), .int .i64 tI, .int .i64 tK, .int .i64 tL, .int .i64 0, .int .i64 0, .slice none 0 0]) ?_ 4 _ rfl; (with_reducible repeat (first | refine blk_drewN ?_ _ | refine blk_drew ?_ | refine blk_alloc ?_ _)); refine blk_put (cs := #[.int .i64 (wrap64 (1 + tH)), .int .i64 tI, .int .i64 tK, .int .i64 0, .int .i64 0, .int .i64 0, .slice none 0 0]) ?_ 3 _ rfl; (with_reducible repeat (first | refine blk_drewN ?_ _ | refine blk_drew ?_ | refine blk_alloc ?_ _)); refine blk_put (cs := #[.int .i64 (wrap64 (1 + tH)), .int .i64 tI, .int .i64 0, .int .i64 0, .int .i64 0, .int .i64 0, .slice none 0 0]) ?_ 2 _ rfl; (with_reducible repeat (first | refine blk_drewN ?_ _ | refine blk_drew ?_ | refine blk_alloc ?_ _)); refine blk_put (cs := #[.int .i64 (wrap64 (1 + tH)), .int .i64 0, .int .i64 0, .int .i64 0, .int .i64 0, .int .i64 0, .slice none 0 0]) ?_ 1 _ rfl; (with_reducible repeat (first | refine blk_drewN ?_ _ | refine blk_drew ?_ | refine blk_alloc ?_ _)); refine blk_put (cs := #[.int .i64 0, .int .i64 0, .int .i64 0, .int .i64 0, .int .i64 0, .int .i64 0, .slice none 0 0]) ?_ 0 _ rfl; (with_reducible repeat (first | refine blk_drewN ?_ _ | refine blk_drew ?_ | refine blk_alloc ?_ _)); exact BKC.out) Tryd.underlying31 rfl (by kernel_rfl)) rfl ?_
    exact ⟨_, by first | rfl | (simp [errW_none, errW_some] <;> rfl) | (simp [*, errW_none, errW_some] <;> rfl), by (with_reducible repeat (first | apply Kd.R_alloc | apply Kd.R_drewN | apply Kd.R_drew)); exact Kd.R_mono (Kd.R_far (p := ⟨gbC, 6, none⟩) (Kd.R_far (p := ⟨gbC, 5, none⟩) (Kd.R_far (p := ⟨gbC, 4, none⟩) (Kd.R_far (p := ⟨gbC, 3, none⟩) (Kd.R_far (p := ⟨gbC, 2, none⟩) (Kd.R_far (p := ⟨gbC, 1, none⟩) (Kd.R_far (p := ⟨gbC, 0, none⟩) (Kd.R_types HO_F.out BKC.out (by decide)) (fun _ hk => hk.2) (.int .i64 (wrap64 (1 + tH)))) (fun _ hk => hk.2) (.int .i64 tI)) (fun _ hk => hk.2) (.int .i64 tK)) (fun _ hk => hk.2) (.int .i64 tL)) (fun _ hk => hk.2) (.int .i64 tM)) (fun _ hk => hk.2) (.int .i64 (wrap64 (tJ - 1000)))) (fun _ hk => hk.2) (.slice AoAG xF_1.length coAG)) (fun _ hk => trivial), by repeat (first | (with_reducible first | exact HB.out | apply below_alloc | apply pw_below_drewN | apply below_drew1 | refine below_set ?_ GEA.out | refine below_set ?_ GEC.out | refine below_set ?_ GEB.out) | exact HB.out)⟩

end Go.Proofs.YtpgifeoigconbaaDoor.Q
