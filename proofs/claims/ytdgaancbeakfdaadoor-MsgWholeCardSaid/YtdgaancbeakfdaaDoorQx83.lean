-- Written by a program of this session (mp.py).
import Derived.Test.YtdgaancbeakfdaaDoorSl
import Derived.Test.YtdgaancbeakfdaaDoorQx0
import Derived.Test.YtdgaancbeakfdaaDoorQy5
namespace Go.Proofs.YtdgaancbeakfdaaDoor.Q
open Go.RowKit Go.Proofs.YtdgaancbeakfdaaDoorW.PrintWords Go.Proofs.YtdgaancbeakfdaaDoorW.PrintLast Go.Proofs.YtdgaancbeakfdaaDoor.Mo
attribute [local go_sem high] Go.Proofs.YtdgaancbeakfdaaDoor.Sl.gtr_less Go.Proofs.YtdgaancbeakfdaaDoor.Sl.leq_less
attribute [local go_sem] max2_int min2_int max_two min_two max_three min_three max_four min_four   -- for this text's walks alone
open Go.Proofs.YtdgaancbeakfdaaDoor.Giv Go.Proofs.YtdgaancbeakfdaaDoor.Gn
set_option linter.unusedVariables false
set_option linter.unusedSimpArgs false

/-! ### billetlaw16_Fit: function 15 -/
mutual
def billetlaw16_Fit.l0 : Nat → List (S42) → Int → Int → Int → Int → Int → Int → Int → List (S42) → Option (Int × Int × Int × Int × Int × Int × (List (S42)))
 | 0, _, _, _, _, _, _, _, _, _ => none
 | k + 1, x6, x7, xS, xT, xU, xV, xW, xX, xE => if x7 < (x6.length : Int) then (if 0 ≤ x7 then (billetlaw16_Fit.l1 k x6 x7 ([] : List (S42)) false 0 xS xT xU xV xW xX xE ((rd_T42 x6 x7).f0) ((rd_T42 x6 x7).f1) (wrap64 (((rd_T42 x6 x7).f2) + 1))) else (none)) else (some (xS, xT, xU, xV, xW, xX, xE))
def billetlaw16_Fit.l1 : Nat → List (S42) → Int → List (S42) → Bool → Int → Int → Int → Int → Int → Int → Int → List (S42) → ByteArray → ByteArray → Int → Option (Int × Int × Int × Int × Int × Int × (List (S42)))
 | 0, _, _, _, _, _, _, _, _, _, _, _, _, _, _, _ => none
 | k + 1, x6, x7, x9, x10, x11, xS, xT, xU, xV, xW, xX, xE, xQ, xY, xZ => if x11 < (xE.length : Int) then (if 0 ≤ x11 then (if x10 = true then (billetlaw16_Fit.j2 k x6 x7 x9 x10 x11 false xS xT xU xV xW xX xE xQ xY xZ ((rd_T42 xE x11).f0) ((rd_T42 xE x11).f1) ((rd_T42 xE x11).f2)) else (if (Op.bytesLess xQ.toList (((rd_T42 xE x11).f0).toList)) = true then (billetlaw16_Fit.j2 k x6 x7 x9 x10 x11 true xS xT xU xV xW xX xE xQ xY xZ ((rd_T42 xE x11).f0) ((rd_T42 xE x11).f1) ((rd_T42 xE x11).f2)) else (if ((rd_T42 xE x11).f0).toList = xQ.toList then (billetlaw16_Fit.j2 k x6 x7 x9 x10 x11 (!(Op.bytesLess (((rd_T42 xE x11).f1).toList) xY.toList)) xS xT xU xV xW xX xE xQ xY xZ ((rd_T42 xE x11).f0) ((rd_T42 xE x11).f1) ((rd_T42 xE x11).f2)) else (billetlaw16_Fit.j2 k x6 x7 x9 x10 x11 false xS xT xU xV xW xX xE xQ xY xZ ((rd_T42 xE x11).f0) ((rd_T42 xE x11).f1) ((rd_T42 xE x11).f2))))) else (none)) else (if x10 = true then (billetlaw16_Fit.l0 k x6 (wrap64 (x7 + 1)) xS xT xU xV xW xX x9) else (if x9.length < 3518437208883 then (billetlaw16_Fit.l0 k x6 (wrap64 (x7 + 1)) xS xT xU xV xW xX (x9 ++ [(⟨xQ, xY, xZ⟩ : S42)])) else (none)))
def billetlaw16_Fit.j2 : Nat → List (S42) → Int → List (S42) → Bool → Int → Bool → Int → Int → Int → Int → Int → Int → List (S42) → ByteArray → ByteArray → Int → ByteArray → ByteArray → Int → Option (Int × Int × Int × Int × Int × Int × (List (S42)))
 | 0, _, _, _, _, _, _, _, _, _, _, _, _, _, _, _, _, _, _, _ => none
 | k + 1, x6, x7, x9, x10, x11, x84, xS, xT, xU, xV, xW, xX, xE, xQ, xY, xZ, xAR, xAS, xBL => if x84 = true then (if x9.length < 3518437208883 then ((some (x9 ++ [(⟨xQ, xY, xZ⟩ : S42)] : List (S42))).bind fun yP => (if xAR.toList = xQ.toList then (if xAS.toList = xY.toList then (billetlaw16_Fit.l1 k x6 x7 yP true (wrap64 (x11 + 1)) xS xT xU xV xW xX xE xQ xY xZ) else (if yP.length < 3518437208883 then (billetlaw16_Fit.l1 k x6 x7 (yP ++ [(⟨xAR, xAS, xBL⟩ : S42)]) true (wrap64 (x11 + 1)) xS xT xU xV xW xX xE xQ xY xZ) else (none))) else (if yP.length < 3518437208883 then (billetlaw16_Fit.l1 k x6 x7 (yP ++ [(⟨xAR, xAS, xBL⟩ : S42)]) true (wrap64 (x11 + 1)) xS xT xU xV xW xX xE xQ xY xZ) else (none)))) else (none)) else (if xAR.toList = xQ.toList then (if xAS.toList = xY.toList then (billetlaw16_Fit.l1 k x6 x7 x9 x10 (wrap64 (x11 + 1)) xS xT xU xV xW xX xE xQ xY xZ) else (if x9.length < 3518437208883 then (billetlaw16_Fit.l1 k x6 x7 (x9 ++ [(⟨xAR, xAS, xBL⟩ : S42)]) x10 (wrap64 (x11 + 1)) xS xT xU xV xW xX xE xQ xY xZ) else (none))) else (if x9.length < 3518437208883 then (billetlaw16_Fit.l1 k x6 x7 (x9 ++ [(⟨xAR, xAS, xBL⟩ : S42)]) x10 (wrap64 (x11 + 1)) xS xT xU xV xW xX xE xQ xY xZ) else (none)))
end
def billetlaw16_Fit.f (k : Nat) (a0_0 : Int) (a0_1 : Int) (a0_2 : Int) (a0_3 : Int) (a0_4 : Int) (a0_5 : Int) (l0_6 : List (S42)) (l1 : List Int) : Option (Int × Int × Int × Int × Int × Int × (List (S42))) := (billetlaw16_pick.f a0_0 2).bind fun tH => ((billetlaw16_pick.f a0_1 3).bind fun tI => ((billetlaw16_pick.f a0_2 1099511627777).bind fun tJ => ((billetlaw16_pick.f a0_3 1099511627777).bind fun tK => ((billetlaw16_pick.f a0_4 1099511627777).bind fun tL => ((billetlaw16_pick.f a0_5 2199023255552).bind fun tM => ((billetlaw08_Binds.f k l1).bind fun tF => (billetlaw16_Fit.l0 k tF 0 (wrap64 (1 + tH)) tI tJ tK tL (wrap64 (tM - 1000)) ([] : List (S42)))))))))
theorem billetlaw16_Fit.mono_l : ∀ k, (∀ y0 y1 y2 y3 y4 y5 y6 y7 y8, LeO (billetlaw16_Fit.l0 k y0 y1 y2 y3 y4 y5 y6 y7 y8) (billetlaw16_Fit.l0 (k + 1) y0 y1 y2 y3 y4 y5 y6 y7 y8)) ∧ (∀ y0 y1 y2 y3 y4 y5 y6 y7 y8 y9 y10 y11 y12 y13 y14, LeO (billetlaw16_Fit.l1 k y0 y1 y2 y3 y4 y5 y6 y7 y8 y9 y10 y11 y12 y13 y14) (billetlaw16_Fit.l1 (k + 1) y0 y1 y2 y3 y4 y5 y6 y7 y8 y9 y10 y11 y12 y13 y14)) ∧ (∀ y0 y1 y2 y3 y4 y5 y6 y7 y8 y9 y10 y11 y12 y13 y14 y15 y16 y17 y18, LeO (billetlaw16_Fit.j2 k y0 y1 y2 y3 y4 y5 y6 y7 y8 y9 y10 y11 y12 y13 y14 y15 y16 y17 y18) (billetlaw16_Fit.j2 (k + 1) y0 y1 y2 y3 y4 y5 y6 y7 y8 y9 y10 y11 y12 y13 y14 y15 y16 y17 y18))
 | 0 => ⟨fun _ _ _ _ _ _ _ _ _ r h => by simp [billetlaw16_Fit.l0] at h, fun _ _ _ _ _ _ _ _ _ _ _ _ _ _ _ r h => by simp [billetlaw16_Fit.l1] at h, fun _ _ _ _ _ _ _ _ _ _ _ _ _ _ _ _ _ _ _ r h => by simp [billetlaw16_Fit.j2] at h⟩
 | k + 1 => by
  obtain ⟨ih0, ih1, ih2⟩ := billetlaw16_Fit.mono_l k
  refine ⟨?_, ?_, ?_⟩
  ·intro y0 y1 y2 y3 y4 y5 y6 y7 y8
   unfold billetlaw16_Fit.l0
   repeat' first
   | (with_reducible exact ih0 _ _ _ _ _ _ _ _ _)
   | (with_reducible exact ih1 _ _ _ _ _ _ _ _ _ _ _ _ _ _ _)
   | (with_reducible exact ih2 _ _ _ _ _ _ _ _ _ _ _ _ _ _ _ _ _ _ _)
   | (with_reducible exact billetlaw08_Binds.mono _ _)
   | (with_reducible exact LeO.refl _)
   | (with_reducible exact LeO.none _)
   | (with_reducible refine LeO.ite ?_ ?_)
   | (with_reducible refine LeO.bind ?_ (fun _ => ?_))
   | exact ih0 _ _ _ _ _ _ _ _ _
   | exact ih1 _ _ _ _ _ _ _ _ _ _ _ _ _ _ _
   | exact ih2 _ _ _ _ _ _ _ _ _ _ _ _ _ _ _ _ _ _ _
   | exact billetlaw08_Binds.mono _ _
   | exact LeO.none _
   | refine LeO.ite ?_ ?_
   | refine LeO.bind ?_ (fun _ => ?_)
  ·intro y0 y1 y2 y3 y4 y5 y6 y7 y8 y9 y10 y11 y12 y13 y14
   unfold billetlaw16_Fit.l1
   repeat' first
   | (with_reducible exact ih0 _ _ _ _ _ _ _ _ _)
   | (with_reducible exact ih1 _ _ _ _ _ _ _ _ _ _ _ _ _ _ _)
   | (with_reducible exact ih2 _ _ _ _ _ _ _ _ _ _ _ _ _ _ _ _ _ _ _)
   | (with_reducible exact billetlaw08_Binds.mono _ _)
   | (with_reducible exact LeO.refl _)
   | (with_reducible exact LeO.none _)
   | (with_reducible refine LeO.ite ?_ ?_)
   | (with_reducible refine LeO.bind ?_ (fun _ => ?_))
   | exact ih0 _ _ _ _ _ _ _ _ _
   | exact ih1 _ _ _ _ _ _ _ _ _ _ _ _ _ _ _
   | exact ih2 _ _ _ _ _ _ _ _ _ _ _ _ _ _ _ _ _ _ _
   | exact billetlaw08_Binds.mono _ _
   | exact LeO.none _
   | refine LeO.ite ?_ ?_
   | refine LeO.bind ?_ (fun _ => ?_)
  ·intro y0 y1 y2 y3 y4 y5 y6 y7 y8 y9 y10 y11 y12 y13 y14 y15 y16 y17 y18
   unfold billetlaw16_Fit.j2
   repeat' first
   | (with_reducible exact ih0 _ _ _ _ _ _ _ _ _)
   | (with_reducible exact ih1 _ _ _ _ _ _ _ _ _ _ _ _ _ _ _)
   | (with_reducible exact ih2 _ _ _ _ _ _ _ _ _ _ _ _ _ _ _ _ _ _ _)
   | (with_reducible exact billetlaw08_Binds.mono _ _)
   | (with_reducible exact LeO.refl _)
   | (with_reducible exact LeO.none _)
   | (with_reducible refine LeO.ite ?_ ?_)
   | (with_reducible refine LeO.bind ?_ (fun _ => ?_))
   | exact ih0 _ _ _ _ _ _ _ _ _
   | exact ih1 _ _ _ _ _ _ _ _ _ _ _ _ _ _ _
   | exact ih2 _ _ _ _ _ _ _ _ _ _ _ _ _ _ _ _ _ _ _
   | exact billetlaw08_Binds.mono _ _
   | exact LeO.none _
   | refine LeO.ite ?_ ?_
   | refine LeO.bind ?_ (fun _ => ?_)
theorem billetlaw16_Fit.mono : ∀ a0 a1 a2 a3 a4 a5 a6 a7 k, LeO (billetlaw16_Fit.f k a0 a1 a2 a3 a4 a5 a6 a7) (billetlaw16_Fit.f (k + 1) a0 a1 a2 a3 a4 a5 a6 a7) := by
 intro a0 a1 a2 a3 a4 a5 a6 a7 k
 obtain ⟨ih0, ih1, ih2⟩ := billetlaw16_Fit.mono_l k
 unfold billetlaw16_Fit.f
 repeat' first
   | (with_reducible exact ih0 _ _ _ _ _ _ _ _ _)
   | (with_reducible exact ih1 _ _ _ _ _ _ _ _ _ _ _ _ _ _ _)
   | (with_reducible exact ih2 _ _ _ _ _ _ _ _ _ _ _ _ _ _ _ _ _ _ _)
   | (with_reducible exact billetlaw08_Binds.mono _ _)
   | (with_reducible exact LeO.refl _)
   | (with_reducible exact LeO.none _)
   | (with_reducible refine LeO.ite ?_ ?_)
   | (with_reducible refine LeO.bind ?_ (fun _ => ?_))
   | exact ih0 _ _ _ _ _ _ _ _ _
   | exact ih1 _ _ _ _ _ _ _ _ _ _ _ _ _ _ _
   | exact ih2 _ _ _ _ _ _ _ _ _ _ _ _ _ _ _ _ _ _ _
   | exact billetlaw08_Binds.mono _ _
   | exact LeO.none _
   | refine LeO.ite ?_ ?_
   | refine LeO.bind ?_ (fun _ => ?_)
def billetlaw16_Fit.T1 : Bool × List (List Nat × List Nat) := (true, [([], []), ([0], [0]), ([1], [1]), ([2], [2]), ([], []), ([4], [4]), ([5, 2], [5]), ([], []), ([7], [7]), ([8, 6], [8]), ([], []), ([10], [10]), ([11, 9], [11]), ([], []), ([13], [13]), ([14, 12], [14]), ([], []), ([16], [16]), ([17, 15], [17]), ([18], [18]), ([3, 6, 9, 12, 15, 19], [3, 6, 9, 12, 15, 19]), ([], []), ([21, 20, 18, 0, 1, 2, 3, 4, 5, 6, 7, 8, 9, 10, 11, 12, 13, 14, 15, 16, 17, 18, 19, 20, 21], [20, 21])])
def billetlaw16_Fit.B1 : List Nat := [0, 1, 3, 7, 0, 16, 55, 0, 128, 503, 0, 1024, 4087, 0, 8192, 32759, 0, 65536, 262135, 524279, 1048575, 0, 4194303]
theorem billetlaw16_Fit.tab1 : rtab .any (opsOf Tryd.f15 1) = billetlaw16_Fit.T1 := by kernel_rfl
theorem billetlaw16_Fit.bits1 : waitsOk billetlaw16_Fit.T1.2 billetlaw16_Fit.B1 = true := by kernel_rfl
set_option maxHeartbeats 8000000 in
set_option maxRecDepth 100000 in
theorem billetlaw16_Fit.calls (k : Nat) (a0_0 : Int) (a0_1 : Int) (a0_2 : Int) (a0_3 : Int) (a0_4 : Int) (a0_5 : Int) (A0_6 : Option Addr) (c0_6 : Nat) (l0_6 : List (S42)) (A1 : Option Addr) (c1 : Nat) (l1 : List Int) (r1 : Int) (r2 : Int) (r3 : Int) (r4 : Int) (r5 : Int) (r6 : Int) (r7 : List (S42)) (w : World) (hr0_6 : Kd.C k42 w A0_6 l0_6.length l0_6) (hc0_6 : l0_6.length ≤ c0_6) (hr1 : Kd.C (Kd.int .i64) w A1 l1.length l1) (hc1 : l1.length ≤ c1) (h : billetlaw16_Fit.f k a0_0 a0_1 a0_2 a0_3 a0_4 a0_5 l0_6 l1 = some (r1, r2, r3, r4, r5, r6, r7)) :
  Calls Tryd.prog 15 #[.agg #[.int .i64 a0_0, .int .i64 a0_1, .int .i64 a0_2, .int .i64 a0_3, .int .i64 a0_4, .int .i64 a0_5, .slice A0_6 l0_6.length c0_6], .slice A1 l1.length c1] w fun e w' => ∃ v6_ : Value, e = .returned (.agg #[.int .i64 r1, .int .i64 r2, .int .i64 r3, .int .i64 r4, .int .i64 r5, .int .i64 r6, v6_]) ∧ Kd.R k42 42 w' w.heap.size (fun _ => True) v6_ r7 ∧ Below w.heap.size w w' := by
 have hu24 := Tryd.underlying24
 have hu42 := Tryd.underlying42
 have HR0_6 := Aside0.mk hr0_6
 have HC0_6 := Aside0.mk hc0_6
 clear hr0_6 hc0_6
 have HR1 := Aside0.mk hr1
 have HC1 := Aside0.mk hc1
 clear hr1 hc1
 have HB := Aside0.mk (Below.refl w.heap.size w)
 have H : ((billetlaw16_pick.f a0_0 2).bind fun tH => ((billetlaw16_pick.f a0_1 3).bind fun tI => ((billetlaw16_pick.f a0_2 1099511627777).bind fun tJ => ((billetlaw16_pick.f a0_3 1099511627777).bind fun tK => ((billetlaw16_pick.f a0_4 1099511627777).bind fun tL => ((billetlaw16_pick.f a0_5 2199023255552).bind fun tM => ((billetlaw08_Binds.f k l1).bind fun tF => (billetlaw16_Fit.l0 k tF 0 (wrap64 (1 + tH)) tI tJ tK tL (wrap64 (tM - 1000)) ([] : List (S42)))))))))) = some (r1, r2, r3, r4, r5, r6, r7) := h
 clear h
 replace H := Option.bind_eq_some_iff.mp H
 obtain ⟨tH, A30, H⟩ := H
 replace H : ((billetlaw16_pick.f a0_1 3).bind fun tI => ((billetlaw16_pick.f a0_2 1099511627777).bind fun tJ => ((billetlaw16_pick.f a0_3 1099511627777).bind fun tK => ((billetlaw16_pick.f a0_4 1099511627777).bind fun tL => ((billetlaw16_pick.f a0_5 2199023255552).bind fun tM => ((billetlaw08_Binds.f k l1).bind fun tF => (billetlaw16_Fit.l0 k tF 0 (wrap64 (1 + tH)) tI tJ tK tL (wrap64 (tM - 1000)) ([] : List (S42))))))))) = some (r1, r2, r3, r4, r5, r6, r7) := H
 have A3 := Aside0.mk A30
 clear A30
 replace H := Option.bind_eq_some_iff.mp H
 obtain ⟨tI, A40, H⟩ := H
 replace H : ((billetlaw16_pick.f a0_2 1099511627777).bind fun tJ => ((billetlaw16_pick.f a0_3 1099511627777).bind fun tK => ((billetlaw16_pick.f a0_4 1099511627777).bind fun tL => ((billetlaw16_pick.f a0_5 2199023255552).bind fun tM => ((billetlaw08_Binds.f k l1).bind fun tF => (billetlaw16_Fit.l0 k tF 0 (wrap64 (1 + tH)) tI tJ tK tL (wrap64 (tM - 1000)) ([] : List (S42)))))))) = some (r1, r2, r3, r4, r5, r6, r7) := H
 have A4 := Aside0.mk A40
 clear A40
 replace H := Option.bind_eq_some_iff.mp H
 obtain ⟨tJ, A50, H⟩ := H
 replace H : ((billetlaw16_pick.f a0_3 1099511627777).bind fun tK => ((billetlaw16_pick.f a0_4 1099511627777).bind fun tL => ((billetlaw16_pick.f a0_5 2199023255552).bind fun tM => ((billetlaw08_Binds.f k l1).bind fun tF => (billetlaw16_Fit.l0 k tF 0 (wrap64 (1 + tH)) tI tJ tK tL (wrap64 (tM - 1000)) ([] : List (S42))))))) = some (r1, r2, r3, r4, r5, r6, r7) := H
 have A5 := Aside0.mk A50
 clear A50
 replace H := Option.bind_eq_some_iff.mp H
 obtain ⟨tK, A60, H⟩ := H
 replace H : ((billetlaw16_pick.f a0_4 1099511627777).bind fun tL => ((billetlaw16_pick.f a0_5 2199023255552).bind fun tM => ((billetlaw08_Binds.f k l1).bind fun tF => (billetlaw16_Fit.l0 k tF 0 (wrap64 (1 + tH)) tI tJ tK tL (wrap64 (tM - 1000)) ([] : List (S42)))))) = some (r1, r2, r3, r4, r5, r6, r7) := H
 have A6 := Aside0.mk A60
 clear A60
 replace H := Option.bind_eq_some_iff.mp H
 obtain ⟨tL, A70, H⟩ := H
 replace H : ((billetlaw16_pick.f a0_5 2199023255552).bind fun tM => ((billetlaw08_Binds.f k l1).bind fun tF => (billetlaw16_Fit.l0 k tF 0 (wrap64 (1 + tH)) tI tJ tK tL (wrap64 (tM - 1000)) ([] : List (S42))))) = some (r1, r2, r3, r4, r5, r6, r7) := H
 have A7 := Aside0.mk A70
 clear A70
 replace H := Option.bind_eq_some_iff.mp H
 obtain ⟨tM, A80, H⟩ := H
 replace H : ((billetlaw08_Binds.f k l1).bind fun tF => (billetlaw16_Fit.l0 k tF 0 (wrap64 (1 + tH)) tI tJ tK tL (wrap64 (tM - 1000)) ([] : List (S42)))) = some (r1, r2, r3, r4, r5, r6, r7) := H
 have A8 := Aside0.mk A80
 clear A80
 replace H := Option.bind_eq_some_iff.mp H
 obtain ⟨tF, A90, H⟩ := H
 replace H : (billetlaw16_Fit.l0 k tF 0 (wrap64 (1 + tH)) tI tJ tK tL (wrap64 (tM - 1000)) ([] : List (S42))) = some (r1, r2, r3, r4, r5, r6, r7) := H
 have A9 := Aside0.mk A90
 clear A90
 have H' := Aside0.mk H
 clear H
 go_enter Tryd.func15, Tryd.ntmps15
 try go_wp2_with (first | ((with_reducible refine gate_dst (N := 2) rfl ?_); refine box_event ?hg (N := 2) ?hd (cs := #[.int .i64 a0_0, .int .i64 a0_1, .int .i64 a0_2, .int .i64 a0_3, .int .i64 a0_4, .int .i64 a0_5, .slice A0_6 l0_6.length c0_6]) (t := 24) ?hr ?_; (case hd => rfl); (case hg => rfl); (case hr => first | (go_simp; done) | (go_simp; rfl)); intro gbA hg w10 hbox hb; have n0_ := Aside0.mk (below_step (by repeat (first | (with_reducible first | exact HB.out | apply below_alloc | apply pw_below_drewN | apply below_drew1) | exact HB.out)) hb); have n1_ := Aside0.mk (hbox); have n2_ := Aside0.mk ((by rw [hg]; exact (below_size (by repeat (first | (with_reducible first | exact HB.out | apply below_alloc | apply pw_below_drewN | apply below_drew1) | exact HB.out))) : w.heap.size ≤ gbA)); have n3_ := Aside0.mk ((by rw [hg]; exact (below_size (by repeat (first | (with_reducible first | exact HB.out | apply below_alloc | apply pw_below_drewN | apply below_drew1) | exact HB.out))) : w.heap.size ≤ gbA)); clear HB; have HB := n0_; have BKA := n1_; have GWA := n2_; have GEA := n3_; clear n0_ n1_ n2_ n3_; clear hb hbox hg) | ((with_reducible refine gate_dst (N := 4) rfl ?_); refine box_event ?hg (N := 4) ?hd (cs := #[.int .i64 0, .int .i64 0, .int .i64 0, .int .i64 0, .int .i64 0, .int .i64 0, .slice none 0 0]) (t := 24) ?hr ?_; (case hd => rfl); (case hg => rfl); (case hr => first | (go_simp; done) | (go_simp; rfl)); intro gbC hg w11 hbox hb; have n0_ := Aside0.mk (blk_below (g := gbA) (o := .cells #[.int .i64 a0_0, .int .i64 a0_1, .int .i64 a0_2, .int .i64 a0_3, .int .i64 a0_4, .int .i64 a0_5, .slice A0_6 l0_6.length c0_6] 24 (0, 0)) (by (with_reducible repeat (first | refine blk_drewN ?_ _ | refine blk_drew ?_ | refine blk_alloc ?_ _)); exact BKA.out) hb); have n1_ := Aside0.mk (below_step (by repeat (first | (with_reducible first | exact HB.out | apply below_alloc | apply pw_below_drewN | apply below_drew1 | refine below_set ?_ GEA.out) | exact HB.out)) hb); have n2_ := Aside0.mk (hbox); have n3_ := Aside0.mk ((by rw [hg]; exact (below_size (by repeat (first | (with_reducible first | exact HB.out | apply below_alloc | apply pw_below_drewN | apply below_drew1 | refine below_set ?_ GEA.out) | exact HB.out))) : w.heap.size ≤ gbC)); have n4_ := Aside0.mk ((by rw [hg]; exact (below_size (by repeat (first | (with_reducible first | exact HB.out | apply below_alloc | apply pw_below_drewN | apply below_drew1 | refine below_set ?_ GEA.out) | exact HB.out))) : w.heap.size ≤ gbC)); have n5_ := Aside0.mk ((by rw [hg]; exact Nat.ne_of_lt (blk_lt (g := gbA) (o := .cells #[.int .i64 a0_0, .int .i64 a0_1, .int .i64 a0_2, .int .i64 a0_3, .int .i64 a0_4, .int .i64 a0_5, .slice A0_6 l0_6.length c0_6] 24 (0, 0)) (by (with_reducible repeat (first | refine blk_drewN ?_ _ | refine blk_drew ?_ | refine blk_alloc ?_ _)); exact BKA.out)) : gbA ≠ gbC)); have n6_ := Aside0.mk ((by rw [hg]; exact Nat.ne_of_gt (blk_lt (g := gbA) (o := .cells #[.int .i64 a0_0, .int .i64 a0_1, .int .i64 a0_2, .int .i64 a0_3, .int .i64 a0_4, .int .i64 a0_5, .slice A0_6 l0_6.length c0_6] 24 (0, 0)) (by (with_reducible repeat (first | refine blk_drewN ?_ _ | refine blk_drew ?_ | refine blk_alloc ?_ _)); exact BKA.out)) : gbC ≠ gbA)); clear BKA; clear HB; have BKA := n0_; have HB := n1_; have BKC := n2_; have GWC := n3_; have GEC := n4_; have NBA_C := n5_; have NBC_A := n6_; clear n0_ n1_ n2_ n3_ n4_ n5_ n6_; clear hb hbox hg))
 have n0_ := Aside0.mk (blk_drew BKA.out)
 have n1_ := Aside0.mk (blk_drew BKC.out)
 have n2_ := Aside0.mk (below_drew1 HB.out)
 clear BKA
 clear BKC
 clear HB
 have BKA := n0_
 have BKC := n1_
 have HB := n2_
 clear n0_ n1_ n2_
 refine start_ (n := 23) (S := fun w' => w'.cell? ⟨gbA, 0, none⟩ = some (.int .i64 a0_0) ∧ w'.cell? ⟨gbA, 1, none⟩ = some (.int .i64 a0_1) ∧ w'.cell? ⟨gbA, 2, none⟩ = some (.int .i64 a0_2) ∧ w'.cell? ⟨gbA, 3, none⟩ = some (.int .i64 a0_3) ∧ w'.cell? ⟨gbA, 4, none⟩ = some (.int .i64 a0_4) ∧ w'.cell? ⟨gbA, 5, none⟩ = some (.int .i64 a0_5) ∧ w'.cell? ⟨gbA, 6, none⟩ = some (.slice A0_6 l0_6.length c0_6)) (ds := []) #[false, false, false, false, false, false, false, false, false, false, false, false, false, false, false, false, false, false, false, false, false, false, false] (by kernel_rfl) rfl rfl ⟨(blk_cell BKA.out 0).trans rfl, (blk_cell BKA.out 1).trans rfl, (blk_cell BKA.out 2).trans rfl, (blk_cell BKA.out 3).trans rfl, (blk_cell BKA.out 4).trans rfl, (blk_cell BKA.out 5).trans rfl, (blk_cell BKA.out 6).trans rfl⟩ (fun hHeld => ?_); refine with_tabW billetlaw16_Fit.tab1 billetlaw16_Fit.bits1 (fun HT_ HW_ => ?_)
 generalize w11.drew = w12 at BKA BKC HB hHeld ⊢
 refine pure_ (i := 0) (N := some 13) (v := ?_) (a' := ?_) #[true, false, false, false, false, false, false, false, false, false, false, false, false, false, false, false, false, false, false, false, false, false, false] rfl rfl (any_of HT_.out (by kernel_rfl)) (fun _ _ _ h => h) (Or.inl ⟨by rfl, ?_⟩) ?_ ?_
 rotate_left
 ·intro w'
  go_simp
  with_reducible rfl
 rotate_left
 ·simp only [Act.put, List.setIfInBounds_toArray, List.set_cons_zero, List.set_cons_succ, i64_w, i32_w]
  rfl
 refine pure_ (i := 4) (N := some 17) (v := ?_) (a' := ?_) #[true, false, false, false, true, false, false, false, false, false, false, false, false, false, false, false, false, false, false, false, false, false, false] rfl rfl (any_of HT_.out (by kernel_rfl)) (fun _ _ _ h => h) (Or.inl ⟨by rfl, ?_⟩) ?_ ?_
 rotate_left
 ·intro w'
  go_simp
  with_reducible rfl
 rotate_left
 ·simp only [Act.put, List.setIfInBounds_toArray, List.set_cons_zero, List.set_cons_succ, i64_w, i32_w]
  rfl
 refine pure_ (i := 7) (N := some 20) (v := ?_) (a' := ?_) #[true, false, false, false, true, false, false, true, false, false, false, false, false, false, false, false, false, false, false, false, false, false, false] rfl rfl (any_of HT_.out (by kernel_rfl)) (fun _ _ _ h => h) (Or.inl ⟨by rfl, ?_⟩) ?_ ?_
 rotate_left
 ·intro w'
  go_simp
  with_reducible rfl
 rotate_left
 ·simp only [Act.put, List.setIfInBounds_toArray, List.set_cons_zero, List.set_cons_succ, i64_w, i32_w]
  rfl
 refine pure_ (i := 10) (N := some 23) (v := ?_) (a' := ?_) #[true, false, false, false, true, false, false, true, false, false, true, false, false, false, false, false, false, false, false, false, false, false, false] rfl rfl (any_of HT_.out (by kernel_rfl)) (fun _ _ _ h => h) (Or.inl ⟨by rfl, ?_⟩) ?_ ?_
 rotate_left
 ·intro w'
  go_simp
  with_reducible rfl
 rotate_left
 ·simp only [Act.put, List.setIfInBounds_toArray, List.set_cons_zero, List.set_cons_succ, i64_w, i32_w]
  rfl
 refine pure_ (i := 13) (N := some 26) (v := ?_) (a' := ?_) #[true, false, false, false, true, false, false, true, false, false, true, false, false, true, false, false, false, false, false, false, false, false, false] rfl rfl (any_of HT_.out (by kernel_rfl)) (fun _ _ _ h => h) (Or.inl ⟨by rfl, ?_⟩) ?_ ?_
 rotate_left
 ·intro w'
  go_simp
  with_reducible rfl
 rotate_left
 ·simp only [Act.put, List.setIfInBounds_toArray, List.set_cons_zero, List.set_cons_succ, i64_w, i32_w]
  rfl
 refine pure_ (i := 16) (N := some 29) (v := ?_) (a' := ?_) #[true, false, false, false, true, false, false, true, false, false, true, false, false, true, false, false, true, false, false, false, false, false, false] rfl rfl (any_of HT_.out (by kernel_rfl)) (fun _ _ _ h => h) (Or.inl ⟨by rfl, ?_⟩) ?_ ?_
 rotate_left
 ·intro w'
  go_simp
  with_reducible rfl
 rotate_left
 ·simp only [Act.put, List.setIfInBounds_toArray, List.set_cons_zero, List.set_cons_succ, i64_w, i32_w]
  rfl
 refine take_ (i := 1) (N := some 14) (v := ?_) (a' := ?_) #[true, true, false, false, true, false, false, true, false, false, true, false, false, true, false, false, true, false, false, false, false, false, false] rfl rfl (take_ofW HT_.out HW_.out (by kernel_rfl)) (fun _ _ _ h => h) (Or.inl ⟨by rfl, ?_⟩) hHeld ?_ ?_
 rotate_left
 ·rintro w' ⟨s0, s1, s2, s3, s4, s5, s6⟩
  go_simp
  with_reducible rfl
 rotate_left
 ·simp only [Act.put, List.setIfInBounds_toArray, List.set_cons_zero, List.set_cons_succ, i64_w, i32_w]
  rfl
 refine take_ (i := 5) (N := some 18) (v := ?_) (a' := ?_) #[true, true, false, false, true, true, false, true, false, false, true, false, false, true, false, false, true, false, false, false, false, false, false] rfl rfl (take_ofW HT_.out HW_.out (by kernel_rfl)) (fun _ _ _ h => h) (Or.inl ⟨by rfl, ?_⟩) hHeld ?_ ?_
 rotate_left
 ·rintro w' ⟨s0, s1, s2, s3, s4, s5, s6⟩
  go_simp
  with_reducible rfl
 rotate_left
 ·simp only [Act.put, List.setIfInBounds_toArray, List.set_cons_zero, List.set_cons_succ, i64_w, i32_w]
  rfl
 refine take_ (i := 8) (N := some 21) (v := ?_) (a' := ?_) #[true, true, false, false, true, true, false, true, true, false, true, false, false, true, false, false, true, false, false, false, false, false, false] rfl rfl (take_ofW HT_.out HW_.out (by kernel_rfl)) (fun _ _ _ h => h) (Or.inl ⟨by rfl, ?_⟩) hHeld ?_ ?_
 rotate_left
 ·rintro w' ⟨s0, s1, s2, s3, s4, s5, s6⟩
  go_simp
  with_reducible rfl
 rotate_left
 ·simp only [Act.put, List.setIfInBounds_toArray, List.set_cons_zero, List.set_cons_succ, i64_w, i32_w]
  rfl
 refine take_ (i := 11) (N := some 24) (v := ?_) (a' := ?_) #[true, true, false, false, true, true, false, true, true, false, true, true, false, true, false, false, true, false, false, false, false, false, false] rfl rfl (take_ofW HT_.out HW_.out (by kernel_rfl)) (fun _ _ _ h => h) (Or.inl ⟨by rfl, ?_⟩) hHeld ?_ ?_
 rotate_left
 ·rintro w' ⟨s0, s1, s2, s3, s4, s5, s6⟩
  go_simp
  with_reducible rfl
 rotate_left
 ·simp only [Act.put, List.setIfInBounds_toArray, List.set_cons_zero, List.set_cons_succ, i64_w, i32_w]
  rfl
 refine take_ (i := 14) (N := some 27) (v := ?_) (a' := ?_) #[true, true, false, false, true, true, false, true, true, false, true, true, false, true, true, false, true, false, false, false, false, false, false] rfl rfl (take_ofW HT_.out HW_.out (by kernel_rfl)) (fun _ _ _ h => h) (Or.inl ⟨by rfl, ?_⟩) hHeld ?_ ?_
 rotate_left
 ·rintro w' ⟨s0, s1, s2, s3, s4, s5, s6⟩
  go_simp
  with_reducible rfl
 rotate_left
 ·simp only [Act.put, List.setIfInBounds_toArray, List.set_cons_zero, List.set_cons_succ, i64_w, i32_w]
  rfl
 refine take_ (i := 17) (N := some 30) (v := ?_) (a' := ?_) #[true, true, false, false, true, true, false, true, true, false, true, true, false, true, true, false, true, true, false, false, false, false, false] rfl rfl (take_ofW HT_.out HW_.out (by kernel_rfl)) (fun _ _ _ h => h) (Or.inl ⟨by rfl, ?_⟩) hHeld ?_ ?_
 rotate_left
 ·rintro w' ⟨s0, s1, s2, s3, s4, s5, s6⟩
  go_simp
  with_reducible rfl
 rotate_left
 ·simp only [Act.put, List.setIfInBounds_toArray, List.set_cons_zero, List.set_cons_succ, i64_w, i32_w]
  rfl
 refine join_ (σ := Nat) 1 #[true, true, true, true, true, true, true, true, true, true, true, true, true, true, true, true, true, true, true, true, true, true, false] (fun s_ => [(15, .int .i64 tH), (19, .int .i64 tI), (22, .int .i64 tJ), (25, .int .i64 tK), (28, .int .i64 tL), (31, .int .i64 tM), (5, .pointer (some ⟨s_, 0, none⟩)), (16, .int .i64 (wrap64 (1 + tH))), (32, .int .i64 (wrap64 (tM - 1000))), (33, .agg #[.int .i64 (wrap64 (1 + tH)), .int .i64 tI, .int .i64 tJ, .int .i64 tK, .int .i64 tL, .int .i64 (wrap64 (tM - 1000)), .slice none 0 0])]) (fun s_ w' => (w'.cell? ⟨gbA, 0, none⟩ = some (.int .i64 a0_0) ∧ w'.cell? ⟨gbA, 1, none⟩ = some (.int .i64 a0_1) ∧ w'.cell? ⟨gbA, 2, none⟩ = some (.int .i64 a0_2) ∧ w'.cell? ⟨gbA, 3, none⟩ = some (.int .i64 a0_3) ∧ w'.cell? ⟨gbA, 4, none⟩ = some (.int .i64 a0_4) ∧ w'.cell? ⟨gbA, 5, none⟩ = some (.int .i64 a0_5) ∧ w'.cell? ⟨gbA, 6, none⟩ = some (.slice A0_6 l0_6.length c0_6)) ∧ (w'.heap[gbA]? = some (.cells #[.int .i64 a0_0, .int .i64 a0_1, .int .i64 a0_2, .int .i64 a0_3, .int .i64 a0_4, .int .i64 a0_5, .slice A0_6 l0_6.length c0_6] 24 (0, 0))) ∧ (w'.heap[gbC]? = some (.cells #[.int .i64 0, .int .i64 0, .int .i64 0, .int .i64 0, .int .i64 0, .int .i64 0, .slice none 0 0] 24 (0, 0))) ∧ (w'.heap[s_]? = some (.cells #[.int .i64 0, .int .i64 0, .int .i64 0, .int .i64 0, .int .i64 0, .int .i64 0, .slice none 0 0] 24 (0, 0))) ∧ (w.heap.size ≤ s_) ∧ (w.heap.size ≤ s_) ∧ (gbA ≠ s_) ∧ (s_ ≠ gbA) ∧ (gbC ≠ s_) ∧ (s_ ≠ gbC) ∧ (Below w.heap.size w w')) ?_ ?_
 rotate_left
 ·intro hJ2_6_9_12_15_18_21
  refine join_ (σ := Unit) 2 #[true, true, true, true, true, true, true, true, true, true, true, true, true, true, true, true, true, true, true, true, true, false, false] (fun s_ => [(15, .int .i64 tH), (19, .int .i64 tI), (22, .int .i64 tJ), (25, .int .i64 tK), (28, .int .i64 tL), (31, .int .i64 tM), (16, .int .i64 (wrap64 (1 + tH))), (32, .int .i64 (wrap64 (tM - 1000))), (33, .agg #[.int .i64 (wrap64 (1 + tH)), .int .i64 tI, .int .i64 tJ, .int .i64 tK, .int .i64 tL, .int .i64 (wrap64 (tM - 1000)), .slice none 0 0])]) (fun s_ w' => (w'.cell? ⟨gbA, 0, none⟩ = some (.int .i64 a0_0) ∧ w'.cell? ⟨gbA, 1, none⟩ = some (.int .i64 a0_1) ∧ w'.cell? ⟨gbA, 2, none⟩ = some (.int .i64 a0_2) ∧ w'.cell? ⟨gbA, 3, none⟩ = some (.int .i64 a0_3) ∧ w'.cell? ⟨gbA, 4, none⟩ = some (.int .i64 a0_4) ∧ w'.cell? ⟨gbA, 5, none⟩ = some (.int .i64 a0_5) ∧ w'.cell? ⟨gbA, 6, none⟩ = some (.slice A0_6 l0_6.length c0_6)) ∧ (w'.heap[gbA]? = some (.cells #[.int .i64 a0_0, .int .i64 a0_1, .int .i64 a0_2, .int .i64 a0_3, .int .i64 a0_4, .int .i64 a0_5, .slice A0_6 l0_6.length c0_6] 24 (0, 0))) ∧ (w'.heap[gbC]? = some (.cells #[.int .i64 0, .int .i64 0, .int .i64 0, .int .i64 0, .int .i64 0, .int .i64 0, .slice none 0 0] 24 (0, 0))) ∧ (Below w.heap.size w w')) ?_ ?_
  rotate_left
  ·intro hJ2_6_9_12_15_18
   refine join_ (σ := Nat) 4 #[true, true, true, true, true, true, true, true, true, true, true, true, true, true, true, true, true, true, false, false, false, true, false] (fun s_ => [(15, .int .i64 tH), (19, .int .i64 tI), (22, .int .i64 tJ), (25, .int .i64 tK), (28, .int .i64 tL), (5, .pointer (some ⟨s_, 0, none⟩)), (16, .int .i64 (wrap64 (1 + tH)))]) (fun s_ w' => (w'.cell? ⟨gbA, 0, none⟩ = some (.int .i64 a0_0) ∧ w'.cell? ⟨gbA, 1, none⟩ = some (.int .i64 a0_1) ∧ w'.cell? ⟨gbA, 2, none⟩ = some (.int .i64 a0_2) ∧ w'.cell? ⟨gbA, 3, none⟩ = some (.int .i64 a0_3) ∧ w'.cell? ⟨gbA, 4, none⟩ = some (.int .i64 a0_4) ∧ w'.cell? ⟨gbA, 5, none⟩ = some (.int .i64 a0_5) ∧ w'.cell? ⟨gbA, 6, none⟩ = some (.slice A0_6 l0_6.length c0_6)) ∧ (w'.heap[gbA]? = some (.cells #[.int .i64 a0_0, .int .i64 a0_1, .int .i64 a0_2, .int .i64 a0_3, .int .i64 a0_4, .int .i64 a0_5, .slice A0_6 l0_6.length c0_6] 24 (0, 0))) ∧ (w'.heap[gbC]? = some (.cells #[.int .i64 0, .int .i64 0, .int .i64 0, .int .i64 0, .int .i64 0, .int .i64 0, .slice none 0 0] 24 (0, 0))) ∧ (w'.heap[s_]? = some (.cells #[.int .i64 0, .int .i64 0, .int .i64 0, .int .i64 0, .int .i64 0, .int .i64 0, .slice none 0 0] 24 (0, 0))) ∧ (w.heap.size ≤ s_) ∧ (w.heap.size ≤ s_) ∧ (gbA ≠ s_) ∧ (s_ ≠ gbA) ∧ (gbC ≠ s_) ∧ (s_ ≠ gbC) ∧ (Below w.heap.size w w')) ?_ ?_
   rotate_left
   ·intro hJ2_6_9_12_15_21
    refine join_ (σ := Unit) 5 #[true, true, true, true, true, true, true, true, true, true, true, true, true, true, true, true, true, true, false, false, false, false, false] (fun s_ => [(15, .int .i64 tH), (19, .int .i64 tI), (22, .int .i64 tJ), (25, .int .i64 tK), (28, .int .i64 tL), (16, .int .i64 (wrap64 (1 + tH)))]) (fun s_ w' => (w'.cell? ⟨gbA, 0, none⟩ = some (.int .i64 a0_0) ∧ w'.cell? ⟨gbA, 1, none⟩ = some (.int .i64 a0_1) ∧ w'.cell? ⟨gbA, 2, none⟩ = some (.int .i64 a0_2) ∧ w'.cell? ⟨gbA, 3, none⟩ = some (.int .i64 a0_3) ∧ w'.cell? ⟨gbA, 4, none⟩ = some (.int .i64 a0_4) ∧ w'.cell? ⟨gbA, 5, none⟩ = some (.int .i64 a0_5) ∧ w'.cell? ⟨gbA, 6, none⟩ = some (.slice A0_6 l0_6.length c0_6)) ∧ (w'.heap[gbA]? = some (.cells #[.int .i64 a0_0, .int .i64 a0_1, .int .i64 a0_2, .int .i64 a0_3, .int .i64 a0_4, .int .i64 a0_5, .slice A0_6 l0_6.length c0_6] 24 (0, 0))) ∧ (w'.heap[gbC]? = some (.cells #[.int .i64 0, .int .i64 0, .int .i64 0, .int .i64 0, .int .i64 0, .int .i64 0, .slice none 0 0] 24 (0, 0))) ∧ (Below w.heap.size w w')) ?_ ?_
    rotate_left
    ·intro hJ2_6_9_12_15
     refine join_ (σ := Nat) 5 #[true, true, true, true, true, true, true, true, true, true, true, true, true, true, true, false, true, true, false, false, false, true, false] (fun s_ => [(15, .int .i64 tH), (19, .int .i64 tI), (22, .int .i64 tJ), (25, .int .i64 tK), (5, .pointer (some ⟨s_, 0, none⟩)), (16, .int .i64 (wrap64 (1 + tH)))]) (fun s_ w' => (w'.cell? ⟨gbA, 0, none⟩ = some (.int .i64 a0_0) ∧ w'.cell? ⟨gbA, 1, none⟩ = some (.int .i64 a0_1) ∧ w'.cell? ⟨gbA, 2, none⟩ = some (.int .i64 a0_2) ∧ w'.cell? ⟨gbA, 3, none⟩ = some (.int .i64 a0_3) ∧ w'.cell? ⟨gbA, 4, none⟩ = some (.int .i64 a0_4) ∧ w'.cell? ⟨gbA, 5, none⟩ = some (.int .i64 a0_5) ∧ w'.cell? ⟨gbA, 6, none⟩ = some (.slice A0_6 l0_6.length c0_6)) ∧ (w'.heap[gbA]? = some (.cells #[.int .i64 a0_0, .int .i64 a0_1, .int .i64 a0_2, .int .i64 a0_3, .int .i64 a0_4, .int .i64 a0_5, .slice A0_6 l0_6.length c0_6] 24 (0, 0))) ∧ (w'.heap[gbC]? = some (.cells #[.int .i64 0, .int .i64 0, .int .i64 0, .int .i64 0, .int .i64 0, .int .i64 0, .slice none 0 0] 24 (0, 0))) ∧ (w'.heap[s_]? = some (.cells #[.int .i64 0, .int .i64 0, .int .i64 0, .int .i64 0, .int .i64 0, .int .i64 0, .slice none 0 0] 24 (0, 0))) ∧ (w.heap.size ≤ s_) ∧ (w.heap.size ≤ s_) ∧ (gbA ≠ s_) ∧ (s_ ≠ gbA) ∧ (gbC ≠ s_) ∧ (s_ ≠ gbC) ∧ (Below w.heap.size w w')) ?_ ?_
     rotate_left
     ·intro hJ2_6_9_12_21
      refine join_ (σ := Unit) 6 #[true, true, true, true, true, true, true, true, true, true, true, true, true, true, true, false, true, true, false, false, false, false, false] (fun s_ => [(15, .int .i64 tH), (19, .int .i64 tI), (22, .int .i64 tJ), (25, .int .i64 tK), (16, .int .i64 (wrap64 (1 + tH)))]) (fun s_ w' => (w'.cell? ⟨gbA, 0, none⟩ = some (.int .i64 a0_0) ∧ w'.cell? ⟨gbA, 1, none⟩ = some (.int .i64 a0_1) ∧ w'.cell? ⟨gbA, 2, none⟩ = some (.int .i64 a0_2) ∧ w'.cell? ⟨gbA, 3, none⟩ = some (.int .i64 a0_3) ∧ w'.cell? ⟨gbA, 4, none⟩ = some (.int .i64 a0_4) ∧ w'.cell? ⟨gbA, 5, none⟩ = some (.int .i64 a0_5) ∧ w'.cell? ⟨gbA, 6, none⟩ = some (.slice A0_6 l0_6.length c0_6)) ∧ (w'.heap[gbA]? = some (.cells #[.int .i64 a0_0, .int .i64 a0_1, .int .i64 a0_2, .int .i64 a0_3, .int .i64 a0_4, .int .i64 a0_5, .slice A0_6 l0_6.length c0_6] 24 (0, 0))) ∧ (w'.heap[gbC]? = some (.cells #[.int .i64 0, .int .i64 0, .int .i64 0, .int .i64 0, .int .i64 0, .int .i64 0, .slice none 0 0] 24 (0, 0))) ∧ (Below w.heap.size w w')) ?_ ?_
      rotate_left
      ·intro hJ2_6_9_12
       refine join_ (σ := Nat) 6 #[true, true, true, true, true, true, true, true, true, true, true, true, false, true, true, false, true, true, false, false, false, true, false] (fun s_ => [(15, .int .i64 tH), (19, .int .i64 tI), (22, .int .i64 tJ), (5, .pointer (some ⟨s_, 0, none⟩)), (16, .int .i64 (wrap64 (1 + tH)))]) (fun s_ w' => (w'.cell? ⟨gbA, 0, none⟩ = some (.int .i64 a0_0) ∧ w'.cell? ⟨gbA, 1, none⟩ = some (.int .i64 a0_1) ∧ w'.cell? ⟨gbA, 2, none⟩ = some (.int .i64 a0_2) ∧ w'.cell? ⟨gbA, 3, none⟩ = some (.int .i64 a0_3) ∧ w'.cell? ⟨gbA, 4, none⟩ = some (.int .i64 a0_4) ∧ w'.cell? ⟨gbA, 5, none⟩ = some (.int .i64 a0_5) ∧ w'.cell? ⟨gbA, 6, none⟩ = some (.slice A0_6 l0_6.length c0_6)) ∧ (w'.heap[gbA]? = some (.cells #[.int .i64 a0_0, .int .i64 a0_1, .int .i64 a0_2, .int .i64 a0_3, .int .i64 a0_4, .int .i64 a0_5, .slice A0_6 l0_6.length c0_6] 24 (0, 0))) ∧ (w'.heap[gbC]? = some (.cells #[.int .i64 0, .int .i64 0, .int .i64 0, .int .i64 0, .int .i64 0, .int .i64 0, .slice none 0 0] 24 (0, 0))) ∧ (w'.heap[s_]? = some (.cells #[.int .i64 0, .int .i64 0, .int .i64 0, .int .i64 0, .int .i64 0, .int .i64 0, .slice none 0 0] 24 (0, 0))) ∧ (w.heap.size ≤ s_) ∧ (w.heap.size ≤ s_) ∧ (gbA ≠ s_) ∧ (s_ ≠ gbA) ∧ (gbC ≠ s_) ∧ (s_ ≠ gbC) ∧ (Below w.heap.size w w')) ?_ ?_
       rotate_left
       ·intro hJ2_6_9_21
        refine join_ (σ := Unit) 7 #[true, true, true, true, true, true, true, true, true, true, true, true, false, true, true, false, true, true, false, false, false, false, false] (fun s_ => [(15, .int .i64 tH), (19, .int .i64 tI), (22, .int .i64 tJ), (16, .int .i64 (wrap64 (1 + tH)))]) (fun s_ w' => (w'.cell? ⟨gbA, 0, none⟩ = some (.int .i64 a0_0) ∧ w'.cell? ⟨gbA, 1, none⟩ = some (.int .i64 a0_1) ∧ w'.cell? ⟨gbA, 2, none⟩ = some (.int .i64 a0_2) ∧ w'.cell? ⟨gbA, 3, none⟩ = some (.int .i64 a0_3) ∧ w'.cell? ⟨gbA, 4, none⟩ = some (.int .i64 a0_4) ∧ w'.cell? ⟨gbA, 5, none⟩ = some (.int .i64 a0_5) ∧ w'.cell? ⟨gbA, 6, none⟩ = some (.slice A0_6 l0_6.length c0_6)) ∧ (w'.heap[gbA]? = some (.cells #[.int .i64 a0_0, .int .i64 a0_1, .int .i64 a0_2, .int .i64 a0_3, .int .i64 a0_4, .int .i64 a0_5, .slice A0_6 l0_6.length c0_6] 24 (0, 0))) ∧ (w'.heap[gbC]? = some (.cells #[.int .i64 0, .int .i64 0, .int .i64 0, .int .i64 0, .int .i64 0, .int .i64 0, .slice none 0 0] 24 (0, 0))) ∧ (Below w.heap.size w w')) ?_ ?_
        rotate_left
        ·intro hJ2_6_9
         refine join_ (σ := Nat) 7 #[true, true, true, true, true, true, true, true, true, false, true, true, false, true, true, false, true, true, false, false, false, true, false] (fun s_ => [(15, .int .i64 tH), (19, .int .i64 tI), (5, .pointer (some ⟨s_, 0, none⟩)), (16, .int .i64 (wrap64 (1 + tH)))]) (fun s_ w' => (w'.cell? ⟨gbA, 0, none⟩ = some (.int .i64 a0_0) ∧ w'.cell? ⟨gbA, 1, none⟩ = some (.int .i64 a0_1) ∧ w'.cell? ⟨gbA, 2, none⟩ = some (.int .i64 a0_2) ∧ w'.cell? ⟨gbA, 3, none⟩ = some (.int .i64 a0_3) ∧ w'.cell? ⟨gbA, 4, none⟩ = some (.int .i64 a0_4) ∧ w'.cell? ⟨gbA, 5, none⟩ = some (.int .i64 a0_5) ∧ w'.cell? ⟨gbA, 6, none⟩ = some (.slice A0_6 l0_6.length c0_6)) ∧ (w'.heap[gbA]? = some (.cells #[.int .i64 a0_0, .int .i64 a0_1, .int .i64 a0_2, .int .i64 a0_3, .int .i64 a0_4, .int .i64 a0_5, .slice A0_6 l0_6.length c0_6] 24 (0, 0))) ∧ (w'.heap[gbC]? = some (.cells #[.int .i64 0, .int .i64 0, .int .i64 0, .int .i64 0, .int .i64 0, .int .i64 0, .slice none 0 0] 24 (0, 0))) ∧ (w'.heap[s_]? = some (.cells #[.int .i64 0, .int .i64 0, .int .i64 0, .int .i64 0, .int .i64 0, .int .i64 0, .slice none 0 0] 24 (0, 0))) ∧ (w.heap.size ≤ s_) ∧ (w.heap.size ≤ s_) ∧ (gbA ≠ s_) ∧ (s_ ≠ gbA) ∧ (gbC ≠ s_) ∧ (s_ ≠ gbC) ∧ (Below w.heap.size w w')) ?_ ?_
         rotate_left
         ·intro hJ2_6_21
          refine join_ (σ := Unit) 8 #[true, true, true, true, true, true, true, true, true, false, true, true, false, true, true, false, true, true, false, false, false, false, false] (fun s_ => [(15, .int .i64 tH), (19, .int .i64 tI), (16, .int .i64 (wrap64 (1 + tH)))]) (fun s_ w' => (w'.cell? ⟨gbA, 0, none⟩ = some (.int .i64 a0_0) ∧ w'.cell? ⟨gbA, 1, none⟩ = some (.int .i64 a0_1) ∧ w'.cell? ⟨gbA, 2, none⟩ = some (.int .i64 a0_2) ∧ w'.cell? ⟨gbA, 3, none⟩ = some (.int .i64 a0_3) ∧ w'.cell? ⟨gbA, 4, none⟩ = some (.int .i64 a0_4) ∧ w'.cell? ⟨gbA, 5, none⟩ = some (.int .i64 a0_5) ∧ w'.cell? ⟨gbA, 6, none⟩ = some (.slice A0_6 l0_6.length c0_6)) ∧ (w'.heap[gbA]? = some (.cells #[.int .i64 a0_0, .int .i64 a0_1, .int .i64 a0_2, .int .i64 a0_3, .int .i64 a0_4, .int .i64 a0_5, .slice A0_6 l0_6.length c0_6] 24 (0, 0))) ∧ (w'.heap[gbC]? = some (.cells #[.int .i64 0, .int .i64 0, .int .i64 0, .int .i64 0, .int .i64 0, .int .i64 0, .slice none 0 0] 24 (0, 0))) ∧ (Below w.heap.size w w')) ?_ ?_
          rotate_left
          ·intro hJ2_6
           refine join_ (σ := Nat) 8 #[true, true, true, true, true, true, false, true, true, false, true, true, false, true, true, false, true, true, false, false, false, true, false] (fun s_ => [(15, .int .i64 tH), (5, .pointer (some ⟨s_, 0, none⟩)), (16, .int .i64 (wrap64 (1 + tH)))]) (fun s_ w' => (w'.cell? ⟨gbA, 0, none⟩ = some (.int .i64 a0_0) ∧ w'.cell? ⟨gbA, 1, none⟩ = some (.int .i64 a0_1) ∧ w'.cell? ⟨gbA, 2, none⟩ = some (.int .i64 a0_2) ∧ w'.cell? ⟨gbA, 3, none⟩ = some (.int .i64 a0_3) ∧ w'.cell? ⟨gbA, 4, none⟩ = some (.int .i64 a0_4) ∧ w'.cell? ⟨gbA, 5, none⟩ = some (.int .i64 a0_5) ∧ w'.cell? ⟨gbA, 6, none⟩ = some (.slice A0_6 l0_6.length c0_6)) ∧ (w'.heap[gbA]? = some (.cells #[.int .i64 a0_0, .int .i64 a0_1, .int .i64 a0_2, .int .i64 a0_3, .int .i64 a0_4, .int .i64 a0_5, .slice A0_6 l0_6.length c0_6] 24 (0, 0))) ∧ (w'.heap[gbC]? = some (.cells #[.int .i64 0, .int .i64 0, .int .i64 0, .int .i64 0, .int .i64 0, .int .i64 0, .slice none 0 0] 24 (0, 0))) ∧ (w'.heap[s_]? = some (.cells #[.int .i64 0, .int .i64 0, .int .i64 0, .int .i64 0, .int .i64 0, .int .i64 0, .slice none 0 0] 24 (0, 0))) ∧ (w.heap.size ≤ s_) ∧ (w.heap.size ≤ s_) ∧ (gbA ≠ s_) ∧ (s_ ≠ gbA) ∧ (gbC ≠ s_) ∧ (s_ ≠ gbC) ∧ (Below w.heap.size w w')) ?_ ?_
           rotate_left
           ·intro hJ2_21
            refine join_ (σ := Unit) 9 #[true, true, true, true, true, true, false, true, true, false, true, true, false, true, true, false, true, true, false, false, false, false, false] (fun s_ => [(15, .int .i64 tH), (16, .int .i64 (wrap64 (1 + tH)))]) (fun s_ w' => (w'.cell? ⟨gbA, 0, none⟩ = some (.int .i64 a0_0) ∧ w'.cell? ⟨gbA, 1, none⟩ = some (.int .i64 a0_1) ∧ w'.cell? ⟨gbA, 2, none⟩ = some (.int .i64 a0_2) ∧ w'.cell? ⟨gbA, 3, none⟩ = some (.int .i64 a0_3) ∧ w'.cell? ⟨gbA, 4, none⟩ = some (.int .i64 a0_4) ∧ w'.cell? ⟨gbA, 5, none⟩ = some (.int .i64 a0_5) ∧ w'.cell? ⟨gbA, 6, none⟩ = some (.slice A0_6 l0_6.length c0_6)) ∧ (w'.heap[gbA]? = some (.cells #[.int .i64 a0_0, .int .i64 a0_1, .int .i64 a0_2, .int .i64 a0_3, .int .i64 a0_4, .int .i64 a0_5, .slice A0_6 l0_6.length c0_6] 24 (0, 0))) ∧ (w'.heap[gbC]? = some (.cells #[.int .i64 0, .int .i64 0, .int .i64 0, .int .i64 0, .int .i64 0, .int .i64 0, .slice none 0 0] 24 (0, 0))) ∧ (Below w.heap.size w w')) ?_ ?_
            rotate_left
            ·intro hJ2
             refine join_ (σ := Nat) 10 #[true, true, false, false, true, true, false, true, true, false, true, true, false, true, true, false, true, true, false, false, false, true, false] (fun s_ => [(5, .pointer (some ⟨s_, 0, none⟩))]) (fun s_ w' => (w'.cell? ⟨gbA, 0, none⟩ = some (.int .i64 a0_0) ∧ w'.cell? ⟨gbA, 1, none⟩ = some (.int .i64 a0_1) ∧ w'.cell? ⟨gbA, 2, none⟩ = some (.int .i64 a0_2) ∧ w'.cell? ⟨gbA, 3, none⟩ = some (.int .i64 a0_3) ∧ w'.cell? ⟨gbA, 4, none⟩ = some (.int .i64 a0_4) ∧ w'.cell? ⟨gbA, 5, none⟩ = some (.int .i64 a0_5) ∧ w'.cell? ⟨gbA, 6, none⟩ = some (.slice A0_6 l0_6.length c0_6)) ∧ (w'.heap[gbA]? = some (.cells #[.int .i64 a0_0, .int .i64 a0_1, .int .i64 a0_2, .int .i64 a0_3, .int .i64 a0_4, .int .i64 a0_5, .slice A0_6 l0_6.length c0_6] 24 (0, 0))) ∧ (w'.heap[gbC]? = some (.cells #[.int .i64 0, .int .i64 0, .int .i64 0, .int .i64 0, .int .i64 0, .int .i64 0, .slice none 0 0] 24 (0, 0))) ∧ (w'.heap[s_]? = some (.cells #[.int .i64 0, .int .i64 0, .int .i64 0, .int .i64 0, .int .i64 0, .int .i64 0, .slice none 0 0] 24 (0, 0))) ∧ (w.heap.size ≤ s_) ∧ (w.heap.size ≤ s_) ∧ (gbA ≠ s_) ∧ (s_ ≠ gbA) ∧ (gbC ≠ s_) ∧ (s_ ≠ gbC) ∧ (Below w.heap.size w w')) ?_ ?_
             rotate_left
             ·intro hJ21
              refine two_ (i := 2) (j := 21) (Ni := some 15) (Nj := some 5) #[true, true, true, false, true, true, false, true, true, false, true, true, false, true, true, false, true, true, false, false, false, false, false] #[true, true, false, false, true, true, false, true, true, false, true, true, false, true, true, false, true, true, false, false, false, true, false] rfl rfl rfl rfl (two_of HT_.out (by kernel_rfl)) (by decide) (by decide) (fun K hK => ?_) (fun K hK => ?_)
              ·skip
               refine goes_ Tryd.func16 (by kernel_rfl) rfl #[.int .i64 a0_0, .int .i64 2] (by rfl) rfl rfl (by (try simp only [List.map_toArray, List.map_cons, List.map_nil]); first | done | rfl | (simp only [List.length_drop, List.length_take]; rfl)) ?_
               with_reducible refine (billetlaw16_pick.calls a0_0 2 tH _ A3.out).mono ?_
               rintro e w' ⟨rfl, ⟨nd, rfl⟩⟩
               refine ⟨_, rfl, ?_⟩
               refine hK.out _ _ ⟨(blk_cell BKA.out 0).trans rfl, (blk_cell BKA.out 1).trans rfl, (blk_cell BKA.out 2).trans rfl, (blk_cell BKA.out 3).trans rfl, (blk_cell BKA.out 4).trans rfl, (blk_cell BKA.out 5).trans rfl, (blk_cell BKA.out 6).trans rfl⟩ (fun hHeld => ?_)
               clear hK K
               refine norm_ (a' := ?_) ?_ ?_
               rotate_left
               ·show Act.put _ (some 15) _ = _
                simp only [Act.put, List.setIfInBounds_toArray, List.set_cons_zero, List.set_cons_succ, i64_w, i32_w]
                rfl
               refine pure_ (i := 3) (N := some 16) (v := ?_) (a' := ?_) #[true, true, true, true, true, true, false, true, true, false, true, true, false, true, true, false, true, true, false, false, false, false, false] rfl rfl (any_of HT_.out (by kernel_rfl)) (fun _ _ _ h => h) (Or.inl ⟨by rfl, ?_⟩) ?_ ?_
               rotate_left
               ·intro w'
                go_simp
                with_reducible rfl
               rotate_left
               ·simp only [Act.put, List.setIfInBounds_toArray, List.set_cons_zero, List.set_cons_succ, i64_w, i32_w]
                rfl
               exact norm_ (by first | (simp only [putAll, Act.put, List.setIfInBounds_toArray, List.set_cons_zero, List.set_cons_succ]; done) | (simp only [putAll, Act.put, List.setIfInBounds_toArray, List.set_cons_zero, List.set_cons_succ]; rfl)) (hJ2 () _ ⟨hHeld, (by (with_reducible repeat (first | refine blk_drewN ?_ _ | refine blk_drew ?_ | refine blk_alloc ?_ _)); exact BKA.out), (by (with_reducible repeat (first | refine blk_drewN ?_ _ | refine blk_drew ?_ | refine blk_alloc ?_ _)); exact BKC.out), (by repeat (first | (with_reducible first | exact HB.out | apply below_alloc | apply pw_below_drewN | apply below_drew1 | refine below_set ?_ GEA.out | refine below_set ?_ GEC.out) | exact HB.out))⟩)
              ·skip
               refine box_step ?hg (N := 5) ?hd (cs := #[.int .i64 0, .int .i64 0, .int .i64 0, .int .i64 0, .int .i64 0, .int .i64 0, .slice none 0 0]) (t := 24) ?hr ?_; (case hd => rfl); (case hg => rfl); (case hr => first | (go_simp; done) | (go_simp; rfl))
               intro gbB hg w13 hbox hb
               have n0_ := Aside0.mk (blk_below (g := gbA) (o := .cells #[.int .i64 a0_0, .int .i64 a0_1, .int .i64 a0_2, .int .i64 a0_3, .int .i64 a0_4, .int .i64 a0_5, .slice A0_6 l0_6.length c0_6] 24 (0, 0)) (by (with_reducible repeat (first | refine blk_drewN ?_ _ | refine blk_drew ?_ | refine blk_alloc ?_ _)); exact BKA.out) hb)
               have n1_ := Aside0.mk (blk_below (g := gbC) (o := .cells #[.int .i64 0, .int .i64 0, .int .i64 0, .int .i64 0, .int .i64 0, .int .i64 0, .slice none 0 0] 24 (0, 0)) (by (with_reducible repeat (first | refine blk_drewN ?_ _ | refine blk_drew ?_ | refine blk_alloc ?_ _)); exact BKC.out) hb)
               have n2_ := Aside0.mk (below_step (by repeat (first | (with_reducible first | exact HB.out | apply below_alloc | apply pw_below_drewN | apply below_drew1 | refine below_set ?_ GEA.out | refine below_set ?_ GEC.out) | exact HB.out)) hb)
               have n3_ := Aside0.mk (hbox)
               have n4_ := Aside0.mk ((by rw [hg]; exact (below_size (by repeat (first | (with_reducible first | exact HB.out | apply below_alloc | apply pw_below_drewN | apply below_drew1 | refine below_set ?_ GEA.out | refine below_set ?_ GEC.out) | exact HB.out))) : w.heap.size ≤ gbB))
               have n5_ := Aside0.mk ((by rw [hg]; exact (below_size (by repeat (first | (with_reducible first | exact HB.out | apply below_alloc | apply pw_below_drewN | apply below_drew1 | refine below_set ?_ GEA.out | refine below_set ?_ GEC.out) | exact HB.out))) : w.heap.size ≤ gbB))
               have n6_ := Aside0.mk ((by rw [hg]; exact Nat.ne_of_lt (blk_lt (g := gbA) (o := .cells #[.int .i64 a0_0, .int .i64 a0_1, .int .i64 a0_2, .int .i64 a0_3, .int .i64 a0_4, .int .i64 a0_5, .slice A0_6 l0_6.length c0_6] 24 (0, 0)) (by (with_reducible repeat (first | refine blk_drewN ?_ _ | refine blk_drew ?_ | refine blk_alloc ?_ _)); exact BKA.out)) : gbA ≠ gbB))
               have n7_ := Aside0.mk ((by rw [hg]; exact Nat.ne_of_gt (blk_lt (g := gbA) (o := .cells #[.int .i64 a0_0, .int .i64 a0_1, .int .i64 a0_2, .int .i64 a0_3, .int .i64 a0_4, .int .i64 a0_5, .slice A0_6 l0_6.length c0_6] 24 (0, 0)) (by (with_reducible repeat (first | refine blk_drewN ?_ _ | refine blk_drew ?_ | refine blk_alloc ?_ _)); exact BKA.out)) : gbB ≠ gbA))
               have n8_ := Aside0.mk ((by rw [hg]; exact Nat.ne_of_lt (blk_lt (g := gbC) (o := .cells #[.int .i64 0, .int .i64 0, .int .i64 0, .int .i64 0, .int .i64 0, .int .i64 0, .slice none 0 0] 24 (0, 0)) (by (with_reducible repeat (first | refine blk_drewN ?_ _ | refine blk_drew ?_ | refine blk_alloc ?_ _)); exact BKC.out)) : gbC ≠ gbB))
               have n9_ := Aside0.mk ((by rw [hg]; exact Nat.ne_of_gt (blk_lt (g := gbC) (o := .cells #[.int .i64 0, .int .i64 0, .int .i64 0, .int .i64 0, .int .i64 0, .int .i64 0, .slice none 0 0] 24 (0, 0)) (by (with_reducible repeat (first | refine blk_drewN ?_ _ | refine blk_drew ?_ | refine blk_alloc ?_ _)); exact BKC.out)) : gbB ≠ gbC))
               clear BKA
               clear BKC
               clear HB
               have BKA := n0_
               have BKC := n1_
               have HB := n2_
               have BKB := n3_
               have GWB := n4_
               have GEB := n5_
               have NBA_B := n6_
               have NBB_A := n7_
               have NBC_B := n8_
               have NBB_C := n9_
               clear n0_ n1_ n2_ n3_ n4_ n5_ n6_ n7_ n8_ n9_
               clear hb hbox hg
               refine hK.out _ _ ⟨(blk_cell BKA.out 0).trans rfl, (blk_cell BKA.out 1).trans rfl, (blk_cell BKA.out 2).trans rfl, (blk_cell BKA.out 3).trans rfl, (blk_cell BKA.out 4).trans rfl, (blk_cell BKA.out 5).trans rfl, (blk_cell BKA.out 6).trans rfl⟩ (fun hHeld => ?_)
               clear hK K
               refine norm_ (a' := ?_) ?_ ?_
               rotate_left
               ·show Act.put _ (some 5) _ = _
                simp only [Act.put, List.setIfInBounds_toArray, List.set_cons_zero, List.set_cons_succ, i64_w, i32_w]
                rfl
               exact norm_ (by first | (simp only [putAll, Act.put, List.setIfInBounds_toArray, List.set_cons_zero, List.set_cons_succ]; done) | (simp only [putAll, Act.put, List.setIfInBounds_toArray, List.set_cons_zero, List.set_cons_succ]; rfl)) (hJ21 (gbB) _ ⟨hHeld, (by (with_reducible repeat (first | refine blk_drewN ?_ _ | refine blk_drew ?_ | refine blk_alloc ?_ _)); exact BKA.out), (by (with_reducible repeat (first | refine blk_drewN ?_ _ | refine blk_drew ?_ | refine blk_alloc ?_ _)); exact BKC.out), (by (with_reducible repeat (first | refine blk_drewN ?_ _ | refine blk_drew ?_ | refine blk_alloc ?_ _)); exact BKB.out), GWB.out, GEB.out, NBA_B.out, NBB_A.out, NBC_B.out, NBB_C.out, (by repeat (first | (with_reducible first | exact HB.out | apply below_alloc | apply pw_below_drewN | apply below_drew1 | refine below_set ?_ GEA.out | refine below_set ?_ GEC.out | refine below_set ?_ GEB.out) | exact HB.out))⟩)
             ·skip
              rintro gbB w14 ⟨hS_, h0_, h1_, h2_, h3_, h4_, h5_, h6_, h7_, h8_, h9_⟩
              have n0_ : Aside0 (w14.heap[gbA]? = some (.cells #[.int .i64 a0_0, .int .i64 a0_1, .int .i64 a0_2, .int .i64 a0_3, .int .i64 a0_4, .int .i64 a0_5, .slice A0_6 l0_6.length c0_6] 24 (0, 0))) := ⟨h0_⟩
              have n1_ : Aside0 (w14.heap[gbC]? = some (.cells #[.int .i64 0, .int .i64 0, .int .i64 0, .int .i64 0, .int .i64 0, .int .i64 0, .slice none 0 0] 24 (0, 0))) := ⟨h1_⟩
              have n2_ : Aside0 (w14.heap[gbB]? = some (.cells #[.int .i64 0, .int .i64 0, .int .i64 0, .int .i64 0, .int .i64 0, .int .i64 0, .slice none 0 0] 24 (0, 0))) := ⟨h2_⟩
              have n3_ : Aside0 (w.heap.size ≤ gbB) := ⟨h3_⟩
              have n4_ : Aside0 (w.heap.size ≤ gbB) := ⟨h4_⟩
              have n5_ : Aside0 (gbA ≠ gbB) := ⟨h5_⟩
              have n6_ : Aside0 (gbB ≠ gbA) := ⟨h6_⟩
              have n7_ : Aside0 (gbC ≠ gbB) := ⟨h7_⟩
              have n8_ : Aside0 (gbB ≠ gbC) := ⟨h8_⟩
              have n9_ : Aside0 (Below w.heap.size w w14) := ⟨h9_⟩
              clear BKA
              clear BKC
              clear HB
              clear h0_ h1_ h2_ h3_ h4_ h5_ h6_ h7_ h8_ h9_
              have BKA := n0_
              have BKC := n1_
              have BKB := n2_
              have GWB := n3_
              have GEB := n4_
              have NBA_B := n5_
              have NBB_A := n6_
              have NBC_B := n7_
              have NBB_C := n8_
              have HB := n9_
              clear n0_ n1_ n2_ n3_ n4_ n5_ n6_ n7_ n8_ n9_
              have hHeld : w14.cell? ⟨gbA, 0, none⟩ = some (.int .i64 a0_0) ∧ w14.cell? ⟨gbA, 1, none⟩ = some (.int .i64 a0_1) ∧ w14.cell? ⟨gbA, 2, none⟩ = some (.int .i64 a0_2) ∧ w14.cell? ⟨gbA, 3, none⟩ = some (.int .i64 a0_3) ∧ w14.cell? ⟨gbA, 4, none⟩ = some (.int .i64 a0_4) ∧ w14.cell? ⟨gbA, 5, none⟩ = some (.int .i64 a0_5) ∧ w14.cell? ⟨gbA, 6, none⟩ = some (.slice A0_6 l0_6.length c0_6) := hS_
              refine norm_ (a' := ?_) ?_ ?_
              rotate_left
              ·simp only [putAll, Act.put, List.setIfInBounds_toArray, List.set_cons_zero, List.set_cons_succ]
               rfl
              refine one_ (i := 2) (N := some 15) #[true, true, true, false, true, true, false, true, true, false, true, true, false, true, true, false, true, true, false, false, false, true, false] rfl rfl (one_of HT_.out (by kernel_rfl)) (by decide) (fun K hK => ?_)
              refine goes_ Tryd.func16 (by kernel_rfl) rfl #[.int .i64 a0_0, .int .i64 2] (by rfl) rfl rfl (by (try simp only [List.map_toArray, List.map_cons, List.map_nil]); first | done | rfl | (simp only [List.length_drop, List.length_take]; rfl)) ?_
              with_reducible refine (billetlaw16_pick.calls a0_0 2 tH _ A3.out).mono ?_
              rintro e w' ⟨rfl, ⟨nd, rfl⟩⟩
              refine ⟨_, rfl, ?_⟩
              refine hK.out _ _ ⟨(blk_cell BKA.out 0).trans rfl, (blk_cell BKA.out 1).trans rfl, (blk_cell BKA.out 2).trans rfl, (blk_cell BKA.out 3).trans rfl, (blk_cell BKA.out 4).trans rfl, (blk_cell BKA.out 5).trans rfl, (blk_cell BKA.out 6).trans rfl⟩ (fun hHeld => ?_)
              clear hK K
              refine norm_ (a' := ?_) ?_ ?_
              rotate_left
              ·show Act.put _ (some 15) _ = _
               simp only [Act.put, List.setIfInBounds_toArray, List.set_cons_zero, List.set_cons_succ, i64_w, i32_w]
               rfl
              refine pure_ (i := 3) (N := some 16) (v := ?_) (a' := ?_) #[true, true, true, true, true, true, false, true, true, false, true, true, false, true, true, false, true, true, false, false, false, true, false] rfl rfl (any_of HT_.out (by kernel_rfl)) (fun _ _ _ h => h) (Or.inl ⟨by rfl, ?_⟩) ?_ ?_
              rotate_left
              ·intro w'
               go_simp
               with_reducible rfl
              rotate_left
              ·simp only [Act.put, List.setIfInBounds_toArray, List.set_cons_zero, List.set_cons_succ, i64_w, i32_w]
               rfl
              exact norm_ (by first | (simp only [putAll, Act.put, List.setIfInBounds_toArray, List.set_cons_zero, List.set_cons_succ]; done) | (simp only [putAll, Act.put, List.setIfInBounds_toArray, List.set_cons_zero, List.set_cons_succ]; rfl)) (hJ2_21 (gbB) _ ⟨hHeld, (by (with_reducible repeat (first | refine blk_drewN ?_ _ | refine blk_drew ?_ | refine blk_alloc ?_ _)); exact BKA.out), (by (with_reducible repeat (first | refine blk_drewN ?_ _ | refine blk_drew ?_ | refine blk_alloc ?_ _)); exact BKC.out), (by (with_reducible repeat (first | refine blk_drewN ?_ _ | refine blk_drew ?_ | refine blk_alloc ?_ _)); exact BKB.out), GWB.out, GEB.out, NBA_B.out, NBB_A.out, NBC_B.out, NBB_C.out, (by repeat (first | (with_reducible first | exact HB.out | apply below_alloc | apply pw_below_drewN | apply below_drew1 | refine below_set ?_ GEA.out | refine below_set ?_ GEC.out | refine below_set ?_ GEB.out) | exact HB.out))⟩)
            ·skip
             rintro _ w13 ⟨hS_, h0_, h1_, h2_⟩
             have n0_ : Aside0 (w13.heap[gbA]? = some (.cells #[.int .i64 a0_0, .int .i64 a0_1, .int .i64 a0_2, .int .i64 a0_3, .int .i64 a0_4, .int .i64 a0_5, .slice A0_6 l0_6.length c0_6] 24 (0, 0))) := ⟨h0_⟩
             have n1_ : Aside0 (w13.heap[gbC]? = some (.cells #[.int .i64 0, .int .i64 0, .int .i64 0, .int .i64 0, .int .i64 0, .int .i64 0, .slice none 0 0] 24 (0, 0))) := ⟨h1_⟩
             have n2_ : Aside0 (Below w.heap.size w w13) := ⟨h2_⟩
             clear BKA
             clear BKC
             clear HB
             clear h0_ h1_ h2_
             have BKA := n0_
             have BKC := n1_
             have HB := n2_
             clear n0_ n1_ n2_
             have hHeld : w13.cell? ⟨gbA, 0, none⟩ = some (.int .i64 a0_0) ∧ w13.cell? ⟨gbA, 1, none⟩ = some (.int .i64 a0_1) ∧ w13.cell? ⟨gbA, 2, none⟩ = some (.int .i64 a0_2) ∧ w13.cell? ⟨gbA, 3, none⟩ = some (.int .i64 a0_3) ∧ w13.cell? ⟨gbA, 4, none⟩ = some (.int .i64 a0_4) ∧ w13.cell? ⟨gbA, 5, none⟩ = some (.int .i64 a0_5) ∧ w13.cell? ⟨gbA, 6, none⟩ = some (.slice A0_6 l0_6.length c0_6) := hS_
             refine norm_ (a' := ?_) ?_ ?_
             rotate_left
             ·simp only [putAll, Act.put, List.setIfInBounds_toArray, List.set_cons_zero, List.set_cons_succ]
              rfl
             refine two_ (i := 6) (j := 21) (Ni := some 19) (Nj := some 5) #[true, true, true, true, true, true, true, true, true, false, true, true, false, true, true, false, true, true, false, false, false, false, false] #[true, true, true, true, true, true, false, true, true, false, true, true, false, true, true, false, true, true, false, false, false, true, false] rfl rfl rfl rfl (two_of HT_.out (by kernel_rfl)) (by decide) (by decide) (fun K hK => ?_) (fun K hK => ?_)
             ·skip
              refine goes_ Tryd.func16 (by kernel_rfl) rfl #[.int .i64 a0_1, .int .i64 3] (by rfl) rfl rfl (by (try simp only [List.map_toArray, List.map_cons, List.map_nil]); first | done | rfl | (simp only [List.length_drop, List.length_take]; rfl)) ?_
              with_reducible refine (billetlaw16_pick.calls a0_1 3 tI _ A4.out).mono ?_
              rintro e w' ⟨rfl, ⟨nd, rfl⟩⟩
              refine ⟨_, rfl, ?_⟩
              refine hK.out _ _ ⟨(blk_cell BKA.out 0).trans rfl, (blk_cell BKA.out 1).trans rfl, (blk_cell BKA.out 2).trans rfl, (blk_cell BKA.out 3).trans rfl, (blk_cell BKA.out 4).trans rfl, (blk_cell BKA.out 5).trans rfl, (blk_cell BKA.out 6).trans rfl⟩ (fun hHeld => ?_)
              clear hK K
              refine norm_ (a' := ?_) ?_ ?_
              rotate_left
              ·show Act.put _ (some 19) _ = _
               simp only [Act.put, List.setIfInBounds_toArray, List.set_cons_zero, List.set_cons_succ, i64_w, i32_w]
               rfl
              exact norm_ (by first | (simp only [putAll, Act.put, List.setIfInBounds_toArray, List.set_cons_zero, List.set_cons_succ]; done) | (simp only [putAll, Act.put, List.setIfInBounds_toArray, List.set_cons_zero, List.set_cons_succ]; rfl)) (hJ2_6 () _ ⟨hHeld, (by (with_reducible repeat (first | refine blk_drewN ?_ _ | refine blk_drew ?_ | refine blk_alloc ?_ _)); exact BKA.out), (by (with_reducible repeat (first | refine blk_drewN ?_ _ | refine blk_drew ?_ | refine blk_alloc ?_ _)); exact BKC.out), (by repeat (first | (with_reducible first | exact HB.out | apply below_alloc | apply pw_below_drewN | apply below_drew1 | refine below_set ?_ GEA.out | refine below_set ?_ GEC.out) | exact HB.out))⟩)
             ·skip
              refine box_step ?hg (N := 5) ?hd (cs := #[.int .i64 0, .int .i64 0, .int .i64 0, .int .i64 0, .int .i64 0, .int .i64 0, .slice none 0 0]) (t := 24) ?hr ?_; (case hd => rfl); (case hg => rfl); (case hr => first | (go_simp; done) | (go_simp; rfl))
              intro gbB hg w14 hbox hb
              have n0_ := Aside0.mk (blk_below (g := gbA) (o := .cells #[.int .i64 a0_0, .int .i64 a0_1, .int .i64 a0_2, .int .i64 a0_3, .int .i64 a0_4, .int .i64 a0_5, .slice A0_6 l0_6.length c0_6] 24 (0, 0)) (by (with_reducible repeat (first | refine blk_drewN ?_ _ | refine blk_drew ?_ | refine blk_alloc ?_ _)); exact BKA.out) hb)
              have n1_ := Aside0.mk (blk_below (g := gbC) (o := .cells #[.int .i64 0, .int .i64 0, .int .i64 0, .int .i64 0, .int .i64 0, .int .i64 0, .slice none 0 0] 24 (0, 0)) (by (with_reducible repeat (first | refine blk_drewN ?_ _ | refine blk_drew ?_ | refine blk_alloc ?_ _)); exact BKC.out) hb)
              have n2_ := Aside0.mk (below_step (by repeat (first | (with_reducible first | exact HB.out | apply below_alloc | apply pw_below_drewN | apply below_drew1 | refine below_set ?_ GEA.out | refine below_set ?_ GEC.out) | exact HB.out)) hb)
              have n3_ := Aside0.mk (hbox)
              have n4_ := Aside0.mk ((by rw [hg]; exact (below_size (by repeat (first | (with_reducible first | exact HB.out | apply below_alloc | apply pw_below_drewN | apply below_drew1 | refine below_set ?_ GEA.out | refine below_set ?_ GEC.out) | exact HB.out))) : w.heap.size ≤ gbB))
              have n5_ := Aside0.mk ((by rw [hg]; exact (below_size (by repeat (first | (with_reducible first | exact HB.out | apply below_alloc | apply pw_below_drewN | apply below_drew1 | refine below_set ?_ GEA.out | refine below_set ?_ GEC.out) | exact HB.out))) : w.heap.size ≤ gbB))
              have n6_ := Aside0.mk ((by rw [hg]; exact Nat.ne_of_lt (blk_lt (g := gbA) (o := .cells #[.int .i64 a0_0, .int .i64 a0_1, .int .i64 a0_2, .int .i64 a0_3, .int .i64 a0_4, .int .i64 a0_5, .slice A0_6 l0_6.length c0_6] 24 (0, 0)) (by (with_reducible repeat (first | refine blk_drewN ?_ _ | refine blk_drew ?_ | refine blk_alloc ?_ _)); exact BKA.out)) : gbA ≠ gbB))
              have n7_ := Aside0.mk ((by rw [hg]; exact Nat.ne_of_gt (blk_lt (g := gbA) (o := .cells #[.int .i64 a0_0, .int .i64 a0_1, .int .i64 a0_2, .int .i64 a0_3, .int .i64 a0_4, .int .i64 a0_5, .slice A0_6 l0_6.length c0_6] 24 (0, 0)) (by (with_reducible repeat (first | refine blk_drewN ?_ _ | refine blk_drew ?_ | refine blk_alloc ?_ _)); exact BKA.out)) : gbB ≠ gbA))
              have n8_ := Aside0.mk ((by rw [hg]; exact Nat.ne_of_lt (blk_lt (g := gbC) (o := .cells #[.int .i64 0, .int .i64 0, .int .i64 0, .int .i64 0, .int .i64 0, .int .i64 0, .slice none 0 0] 24 (0, 0)) (by (with_reducible repeat (first | refine blk_drewN ?_ _ | refine blk_drew ?_ | refine blk_alloc ?_ _)); exact BKC.out)) : gbC ≠ gbB))
              have n9_ := Aside0.mk ((by rw [hg]; exact Nat.ne_of_gt (blk_lt (g := gbC) (o := .cells #[.int .i64 0, .int .i64 0, .int .i64 0, .int .i64 0, .int .i64 0, .int .i64 0, .slice none 0 0] 24 (0, 0)) (by (with_reducible repeat (first | refine blk_drewN ?_ _ | refine blk_drew ?_ | refine blk_alloc ?_ _)); exact BKC.out)) : gbB ≠ gbC))
              clear BKA
              clear BKC
              clear HB
              have BKA := n0_
              have BKC := n1_
              have HB := n2_
              have BKB := n3_
              have GWB := n4_
              have GEB := n5_
              have NBA_B := n6_
              have NBB_A := n7_
              have NBC_B := n8_
              have NBB_C := n9_
              clear n0_ n1_ n2_ n3_ n4_ n5_ n6_ n7_ n8_ n9_
              clear hb hbox hg
              refine hK.out _ _ ⟨(blk_cell BKA.out 0).trans rfl, (blk_cell BKA.out 1).trans rfl, (blk_cell BKA.out 2).trans rfl, (blk_cell BKA.out 3).trans rfl, (blk_cell BKA.out 4).trans rfl, (blk_cell BKA.out 5).trans rfl, (blk_cell BKA.out 6).trans rfl⟩ (fun hHeld => ?_)
              clear hK K
              refine norm_ (a' := ?_) ?_ ?_
              rotate_left
              ·show Act.put _ (some 5) _ = _
               simp only [Act.put, List.setIfInBounds_toArray, List.set_cons_zero, List.set_cons_succ, i64_w, i32_w]
               rfl
              exact norm_ (by first | (simp only [putAll, Act.put, List.setIfInBounds_toArray, List.set_cons_zero, List.set_cons_succ]; done) | (simp only [putAll, Act.put, List.setIfInBounds_toArray, List.set_cons_zero, List.set_cons_succ]; rfl)) (hJ2_21 (gbB) _ ⟨hHeld, (by (with_reducible repeat (first | refine blk_drewN ?_ _ | refine blk_drew ?_ | refine blk_alloc ?_ _)); exact BKA.out), (by (with_reducible repeat (first | refine blk_drewN ?_ _ | refine blk_drew ?_ | refine blk_alloc ?_ _)); exact BKC.out), (by (with_reducible repeat (first | refine blk_drewN ?_ _ | refine blk_drew ?_ | refine blk_alloc ?_ _)); exact BKB.out), GWB.out, GEB.out, NBA_B.out, NBB_A.out, NBC_B.out, NBB_C.out, (by repeat (first | (with_reducible first | exact HB.out | apply below_alloc | apply pw_below_drewN | apply below_drew1 | refine below_set ?_ GEA.out | refine below_set ?_ GEC.out | refine below_set ?_ GEB.out) | exact HB.out))⟩)
           ·skip
            rintro gbB w14 ⟨hS_, h0_, h1_, h2_, h3_, h4_, h5_, h6_, h7_, h8_, h9_⟩
            have n0_ : Aside0 (w14.heap[gbA]? = some (.cells #[.int .i64 a0_0, .int .i64 a0_1, .int .i64 a0_2, .int .i64 a0_3, .int .i64 a0_4, .int .i64 a0_5, .slice A0_6 l0_6.length c0_6] 24 (0, 0))) := ⟨h0_⟩
            have n1_ : Aside0 (w14.heap[gbC]? = some (.cells #[.int .i64 0, .int .i64 0, .int .i64 0, .int .i64 0, .int .i64 0, .int .i64 0, .slice none 0 0] 24 (0, 0))) := ⟨h1_⟩
            have n2_ : Aside0 (w14.heap[gbB]? = some (.cells #[.int .i64 0, .int .i64 0, .int .i64 0, .int .i64 0, .int .i64 0, .int .i64 0, .slice none 0 0] 24 (0, 0))) := ⟨h2_⟩
            have n3_ : Aside0 (w.heap.size ≤ gbB) := ⟨h3_⟩
            have n4_ : Aside0 (w.heap.size ≤ gbB) := ⟨h4_⟩
            have n5_ : Aside0 (gbA ≠ gbB) := ⟨h5_⟩
            have n6_ : Aside0 (gbB ≠ gbA) := ⟨h6_⟩
            have n7_ : Aside0 (gbC ≠ gbB) := ⟨h7_⟩
            have n8_ : Aside0 (gbB ≠ gbC) := ⟨h8_⟩
            have n9_ : Aside0 (Below w.heap.size w w14) := ⟨h9_⟩
            clear BKA
            clear BKC
            clear HB
            clear h0_ h1_ h2_ h3_ h4_ h5_ h6_ h7_ h8_ h9_
            have BKA := n0_
            have BKC := n1_
            have BKB := n2_
            have GWB := n3_
            have GEB := n4_
            have NBA_B := n5_
            have NBB_A := n6_
            have NBC_B := n7_
            have NBB_C := n8_
            have HB := n9_
            clear n0_ n1_ n2_ n3_ n4_ n5_ n6_ n7_ n8_ n9_
            have hHeld : w14.cell? ⟨gbA, 0, none⟩ = some (.int .i64 a0_0) ∧ w14.cell? ⟨gbA, 1, none⟩ = some (.int .i64 a0_1) ∧ w14.cell? ⟨gbA, 2, none⟩ = some (.int .i64 a0_2) ∧ w14.cell? ⟨gbA, 3, none⟩ = some (.int .i64 a0_3) ∧ w14.cell? ⟨gbA, 4, none⟩ = some (.int .i64 a0_4) ∧ w14.cell? ⟨gbA, 5, none⟩ = some (.int .i64 a0_5) ∧ w14.cell? ⟨gbA, 6, none⟩ = some (.slice A0_6 l0_6.length c0_6) := hS_
            refine norm_ (a' := ?_) ?_ ?_
            rotate_left
            ·simp only [putAll, Act.put, List.setIfInBounds_toArray, List.set_cons_zero, List.set_cons_succ]
             rfl
            refine one_ (i := 6) (N := some 19) #[true, true, true, true, true, true, true, true, true, false, true, true, false, true, true, false, true, true, false, false, false, true, false] rfl rfl (one_of HT_.out (by kernel_rfl)) (by decide) (fun K hK => ?_)
            refine goes_ Tryd.func16 (by kernel_rfl) rfl #[.int .i64 a0_1, .int .i64 3] (by rfl) rfl rfl (by (try simp only [List.map_toArray, List.map_cons, List.map_nil]); first | done | rfl | (simp only [List.length_drop, List.length_take]; rfl)) ?_
            with_reducible refine (billetlaw16_pick.calls a0_1 3 tI _ A4.out).mono ?_
            rintro e w' ⟨rfl, ⟨nd, rfl⟩⟩
            refine ⟨_, rfl, ?_⟩
            refine hK.out _ _ ⟨(blk_cell BKA.out 0).trans rfl, (blk_cell BKA.out 1).trans rfl, (blk_cell BKA.out 2).trans rfl, (blk_cell BKA.out 3).trans rfl, (blk_cell BKA.out 4).trans rfl, (blk_cell BKA.out 5).trans rfl, (blk_cell BKA.out 6).trans rfl⟩ (fun hHeld => ?_)
            clear hK K
            refine norm_ (a' := ?_) ?_ ?_
            rotate_left
            ·show Act.put _ (some 19) _ = _
             simp only [Act.put, List.setIfInBounds_toArray, List.set_cons_zero, List.set_cons_succ, i64_w, i32_w]
             rfl
            exact norm_ (by first | (simp only [putAll, Act.put, List.setIfInBounds_toArray, List.set_cons_zero, List.set_cons_succ]; done) | (simp only [putAll, Act.put, List.setIfInBounds_toArray, List.set_cons_zero, List.set_cons_succ]; rfl)) (hJ2_6_21 (gbB) _ ⟨hHeld, (by (with_reducible repeat (first | refine blk_drewN ?_ _ | refine blk_drew ?_ | refine blk_alloc ?_ _)); exact BKA.out), (by (with_reducible repeat (first | refine blk_drewN ?_ _ | refine blk_drew ?_ | refine blk_alloc ?_ _)); exact BKC.out), (by (with_reducible repeat (first | refine blk_drewN ?_ _ | refine blk_drew ?_ | refine blk_alloc ?_ _)); exact BKB.out), GWB.out, GEB.out, NBA_B.out, NBB_A.out, NBC_B.out, NBB_C.out, (by repeat (first | (with_reducible first | exact HB.out | apply below_alloc | apply pw_below_drewN | apply below_drew1 | refine below_set ?_ GEA.out | refine below_set ?_ GEC.out | refine below_set ?_ GEB.out) | exact HB.out))⟩)
          ·skip
           rintro _ w13 ⟨hS_, h0_, h1_, h2_⟩
           have n0_ : Aside0 (w13.heap[gbA]? = some (.cells #[.int .i64 a0_0, .int .i64 a0_1, .int .i64 a0_2, .int .i64 a0_3, .int .i64 a0_4, .int .i64 a0_5, .slice A0_6 l0_6.length c0_6] 24 (0, 0))) := ⟨h0_⟩
           have n1_ : Aside0 (w13.heap[gbC]? = some (.cells #[.int .i64 0, .int .i64 0, .int .i64 0, .int .i64 0, .int .i64 0, .int .i64 0, .slice none 0 0] 24 (0, 0))) := ⟨h1_⟩
           have n2_ : Aside0 (Below w.heap.size w w13) := ⟨h2_⟩
           clear BKA
           clear BKC
           clear HB
           clear h0_ h1_ h2_
           have BKA := n0_
           have BKC := n1_
           have HB := n2_
           clear n0_ n1_ n2_
           have hHeld : w13.cell? ⟨gbA, 0, none⟩ = some (.int .i64 a0_0) ∧ w13.cell? ⟨gbA, 1, none⟩ = some (.int .i64 a0_1) ∧ w13.cell? ⟨gbA, 2, none⟩ = some (.int .i64 a0_2) ∧ w13.cell? ⟨gbA, 3, none⟩ = some (.int .i64 a0_3) ∧ w13.cell? ⟨gbA, 4, none⟩ = some (.int .i64 a0_4) ∧ w13.cell? ⟨gbA, 5, none⟩ = some (.int .i64 a0_5) ∧ w13.cell? ⟨gbA, 6, none⟩ = some (.slice A0_6 l0_6.length c0_6) := hS_
           refine norm_ (a' := ?_) ?_ ?_
           rotate_left
           ·simp only [putAll, Act.put, List.setIfInBounds_toArray, List.set_cons_zero, List.set_cons_succ]
            rfl
           refine two_ (i := 9) (j := 21) (Ni := some 22) (Nj := some 5) #[true, true, true, true, true, true, true, true, true, true, true, true, false, true, true, false, true, true, false, false, false, false, false] #[true, true, true, true, true, true, true, true, true, false, true, true, false, true, true, false, true, true, false, false, false, true, false] rfl rfl rfl rfl (two_of HT_.out (by kernel_rfl)) (by decide) (by decide) (fun K hK => ?_) (fun K hK => ?_)
           ·skip
            refine goes_ Tryd.func16 (by kernel_rfl) rfl #[.int .i64 a0_2, .int .i64 1099511627777] (by rfl) rfl rfl (by (try simp only [List.map_toArray, List.map_cons, List.map_nil]); first | done | rfl | (simp only [List.length_drop, List.length_take]; rfl)) ?_
            with_reducible refine (billetlaw16_pick.calls a0_2 1099511627777 tJ _ A5.out).mono ?_
            rintro e w' ⟨rfl, ⟨nd, rfl⟩⟩
            refine ⟨_, rfl, ?_⟩
            refine hK.out _ _ ⟨(blk_cell BKA.out 0).trans rfl, (blk_cell BKA.out 1).trans rfl, (blk_cell BKA.out 2).trans rfl, (blk_cell BKA.out 3).trans rfl, (blk_cell BKA.out 4).trans rfl, (blk_cell BKA.out 5).trans rfl, (blk_cell BKA.out 6).trans rfl⟩ (fun hHeld => ?_)
            clear hK K
            refine norm_ (a' := ?_) ?_ ?_
            rotate_left
            ·show Act.put _ (some 22) _ = _
             simp only [Act.put, List.setIfInBounds_toArray, List.set_cons_zero, List.set_cons_succ, i64_w, i32_w]
             rfl
            exact norm_ (by first | (simp only [putAll, Act.put, List.setIfInBounds_toArray, List.set_cons_zero, List.set_cons_succ]; done) | (simp only [putAll, Act.put, List.setIfInBounds_toArray, List.set_cons_zero, List.set_cons_succ]; rfl)) (hJ2_6_9 () _ ⟨hHeld, (by (with_reducible repeat (first | refine blk_drewN ?_ _ | refine blk_drew ?_ | refine blk_alloc ?_ _)); exact BKA.out), (by (with_reducible repeat (first | refine blk_drewN ?_ _ | refine blk_drew ?_ | refine blk_alloc ?_ _)); exact BKC.out), (by repeat (first | (with_reducible first | exact HB.out | apply below_alloc | apply pw_below_drewN | apply below_drew1 | refine below_set ?_ GEA.out | refine below_set ?_ GEC.out) | exact HB.out))⟩)
           ·skip
            refine box_step ?hg (N := 5) ?hd (cs := #[.int .i64 0, .int .i64 0, .int .i64 0, .int .i64 0, .int .i64 0, .int .i64 0, .slice none 0 0]) (t := 24) ?hr ?_; (case hd => rfl); (case hg => rfl); (case hr => first | (go_simp; done) | (go_simp; rfl))
            intro gbB hg w14 hbox hb
            have n0_ := Aside0.mk (blk_below (g := gbA) (o := .cells #[.int .i64 a0_0, .int .i64 a0_1, .int .i64 a0_2, .int .i64 a0_3, .int .i64 a0_4, .int .i64 a0_5, .slice A0_6 l0_6.length c0_6] 24 (0, 0)) (by (with_reducible repeat (first | refine blk_drewN ?_ _ | refine blk_drew ?_ | refine blk_alloc ?_ _)); exact BKA.out) hb)
            have n1_ := Aside0.mk (blk_below (g := gbC) (o := .cells #[.int .i64 0, .int .i64 0, .int .i64 0, .int .i64 0, .int .i64 0, .int .i64 0, .slice none 0 0] 24 (0, 0)) (by (with_reducible repeat (first | refine blk_drewN ?_ _ | refine blk_drew ?_ | refine blk_alloc ?_ _)); exact BKC.out) hb)
            have n2_ := Aside0.mk (below_step (by repeat (first | (with_reducible first | exact HB.out | apply below_alloc | apply pw_below_drewN | apply below_drew1 | refine below_set ?_ GEA.out | refine below_set ?_ GEC.out) | exact HB.out)) hb)
            have n3_ := Aside0.mk (hbox)
            have n4_ := Aside0.mk ((by rw [hg]; exact (below_size (by repeat (first | (with_reducible first | exact HB.out | apply below_alloc | apply pw_below_drewN | apply below_drew1 | refine below_set ?_ GEA.out | refine below_set ?_ GEC.out) | exact HB.out))) : w.heap.size ≤ gbB))
            have n5_ := Aside0.mk ((by rw [hg]; exact (below_size (by repeat (first | (with_reducible first | exact HB.out | apply below_alloc | apply pw_below_drewN | apply below_drew1 | refine below_set ?_ GEA.out | refine below_set ?_ GEC.out) | exact HB.out))) : w.heap.size ≤ gbB))
            have n6_ := Aside0.mk ((by rw [hg]; exact Nat.ne_of_lt (blk_lt (g := gbA) (o := .cells #[.int .i64 a0_0, .int .i64 a0_1, .int .i64 a0_2, .int .i64 a0_3, .int .i64 a0_4, .int .i64 a0_5, .slice A0_6 l0_6.length c0_6] 24 (0, 0)) (by (with_reducible repeat (first | refine blk_drewN ?_ _ | refine blk_drew ?_ | refine blk_alloc ?_ _)); exact BKA.out)) : gbA ≠ gbB))
            have n7_ := Aside0.mk ((by rw [hg]; exact Nat.ne_of_gt (blk_lt (g := gbA) (o := .cells #[.int .i64 a0_0, .int .i64 a0_1, .int .i64 a0_2, .int .i64 a0_3, .int .i64 a0_4, .int .i64 a0_5, .slice A0_6 l0_6.length c0_6] 24 (0, 0)) (by (with_reducible repeat (first | refine blk_drewN ?_ _ | refine blk_drew ?_ | refine blk_alloc ?_ _)); exact BKA.out)) : gbB ≠ gbA))
            have n8_ := Aside0.mk ((by rw [hg]; exact Nat.ne_of_lt (blk_lt (g := gbC) (o := .cells #[.int .i64 0, .int .i64 0, .int .i64 0, .int .i64 0, .int .i64 0, .int .i64 0, .slice none 0 0] 24 (0, 0)) (by (with_reducible repeat (first | refine blk_drewN ?_ _ | refine blk_drew ?_ | refine blk_alloc ?_ _)); exact BKC.out)) : gbC ≠ gbB))
            have n9_ := Aside0.mk ((by rw [hg]; exact Nat.ne_of_gt (blk_lt (g := gbC) (o := .cells #[.int .i64 0, .int .i64 0, .int .i64 0, .int .i64 0, .int .i64 0, .int .i64 0, .slice none 0 0] 24 (0, 0)) (by (with_reducible repeat (first | refine blk_drewN ?_ _ | refine blk_drew ?_ | refine blk_alloc ?_ _)); exact BKC.out)) : gbB ≠ gbC))
            clear BKA
            clear BKC
            clear HB
            have BKA := n0_
            have BKC := n1_
            have HB := n2_
            have BKB := n3_
            have GWB := n4_
            have GEB := n5_
            have NBA_B := n6_
            have NBB_A := n7_
            have NBC_B := n8_
            have NBB_C := n9_
            clear n0_ n1_ n2_ n3_ n4_ n5_ n6_ n7_ n8_ n9_
            clear hb hbox hg
            refine hK.out _ _ ⟨(blk_cell BKA.out 0).trans rfl, (blk_cell BKA.out 1).trans rfl, (blk_cell BKA.out 2).trans rfl, (blk_cell BKA.out 3).trans rfl, (blk_cell BKA.out 4).trans rfl, (blk_cell BKA.out 5).trans rfl, (blk_cell BKA.out 6).trans rfl⟩ (fun hHeld => ?_)
            clear hK K
            refine norm_ (a' := ?_) ?_ ?_
            rotate_left
            ·show Act.put _ (some 5) _ = _
             simp only [Act.put, List.setIfInBounds_toArray, List.set_cons_zero, List.set_cons_succ, i64_w, i32_w]
             rfl
            exact norm_ (by first | (simp only [putAll, Act.put, List.setIfInBounds_toArray, List.set_cons_zero, List.set_cons_succ]; done) | (simp only [putAll, Act.put, List.setIfInBounds_toArray, List.set_cons_zero, List.set_cons_succ]; rfl)) (hJ2_6_21 (gbB) _ ⟨hHeld, (by (with_reducible repeat (first | refine blk_drewN ?_ _ | refine blk_drew ?_ | refine blk_alloc ?_ _)); exact BKA.out), (by (with_reducible repeat (first | refine blk_drewN ?_ _ | refine blk_drew ?_ | refine blk_alloc ?_ _)); exact BKC.out), (by (with_reducible repeat (first | refine blk_drewN ?_ _ | refine blk_drew ?_ | refine blk_alloc ?_ _)); exact BKB.out), GWB.out, GEB.out, NBA_B.out, NBB_A.out, NBC_B.out, NBB_C.out, (by repeat (first | (with_reducible first | exact HB.out | apply below_alloc | apply pw_below_drewN | apply below_drew1 | refine below_set ?_ GEA.out | refine below_set ?_ GEC.out | refine below_set ?_ GEB.out) | exact HB.out))⟩)
         ·skip
          rintro gbB w14 ⟨hS_, h0_, h1_, h2_, h3_, h4_, h5_, h6_, h7_, h8_, h9_⟩
          have n0_ : Aside0 (w14.heap[gbA]? = some (.cells #[.int .i64 a0_0, .int .i64 a0_1, .int .i64 a0_2, .int .i64 a0_3, .int .i64 a0_4, .int .i64 a0_5, .slice A0_6 l0_6.length c0_6] 24 (0, 0))) := ⟨h0_⟩
          have n1_ : Aside0 (w14.heap[gbC]? = some (.cells #[.int .i64 0, .int .i64 0, .int .i64 0, .int .i64 0, .int .i64 0, .int .i64 0, .slice none 0 0] 24 (0, 0))) := ⟨h1_⟩
          have n2_ : Aside0 (w14.heap[gbB]? = some (.cells #[.int .i64 0, .int .i64 0, .int .i64 0, .int .i64 0, .int .i64 0, .int .i64 0, .slice none 0 0] 24 (0, 0))) := ⟨h2_⟩
          have n3_ : Aside0 (w.heap.size ≤ gbB) := ⟨h3_⟩
          have n4_ : Aside0 (w.heap.size ≤ gbB) := ⟨h4_⟩
          have n5_ : Aside0 (gbA ≠ gbB) := ⟨h5_⟩
          have n6_ : Aside0 (gbB ≠ gbA) := ⟨h6_⟩
          have n7_ : Aside0 (gbC ≠ gbB) := ⟨h7_⟩
          have n8_ : Aside0 (gbB ≠ gbC) := ⟨h8_⟩
          have n9_ : Aside0 (Below w.heap.size w w14) := ⟨h9_⟩
          clear BKA
          clear BKC
          clear HB
          clear h0_ h1_ h2_ h3_ h4_ h5_ h6_ h7_ h8_ h9_
          have BKA := n0_
          have BKC := n1_
          have BKB := n2_
          have GWB := n3_
          have GEB := n4_
          have NBA_B := n5_
          have NBB_A := n6_
          have NBC_B := n7_
          have NBB_C := n8_
          have HB := n9_
          clear n0_ n1_ n2_ n3_ n4_ n5_ n6_ n7_ n8_ n9_
          have hHeld : w14.cell? ⟨gbA, 0, none⟩ = some (.int .i64 a0_0) ∧ w14.cell? ⟨gbA, 1, none⟩ = some (.int .i64 a0_1) ∧ w14.cell? ⟨gbA, 2, none⟩ = some (.int .i64 a0_2) ∧ w14.cell? ⟨gbA, 3, none⟩ = some (.int .i64 a0_3) ∧ w14.cell? ⟨gbA, 4, none⟩ = some (.int .i64 a0_4) ∧ w14.cell? ⟨gbA, 5, none⟩ = some (.int .i64 a0_5) ∧ w14.cell? ⟨gbA, 6, none⟩ = some (.slice A0_6 l0_6.length c0_6) := hS_
          refine norm_ (a' := ?_) ?_ ?_
          rotate_left
          ·simp only [putAll, Act.put, List.setIfInBounds_toArray, List.set_cons_zero, List.set_cons_succ]
           rfl
          refine one_ (i := 9) (N := some 22) #[true, true, true, true, true, true, true, true, true, true, true, true, false, true, true, false, true, true, false, false, false, true, false] rfl rfl (one_of HT_.out (by kernel_rfl)) (by decide) (fun K hK => ?_)
          refine goes_ Tryd.func16 (by kernel_rfl) rfl #[.int .i64 a0_2, .int .i64 1099511627777] (by rfl) rfl rfl (by (try simp only [List.map_toArray, List.map_cons, List.map_nil]); first | done | rfl | (simp only [List.length_drop, List.length_take]; rfl)) ?_
          with_reducible refine (billetlaw16_pick.calls a0_2 1099511627777 tJ _ A5.out).mono ?_
          rintro e w' ⟨rfl, ⟨nd, rfl⟩⟩
          refine ⟨_, rfl, ?_⟩
          refine hK.out _ _ ⟨(blk_cell BKA.out 0).trans rfl, (blk_cell BKA.out 1).trans rfl, (blk_cell BKA.out 2).trans rfl, (blk_cell BKA.out 3).trans rfl, (blk_cell BKA.out 4).trans rfl, (blk_cell BKA.out 5).trans rfl, (blk_cell BKA.out 6).trans rfl⟩ (fun hHeld => ?_)
          clear hK K
          refine norm_ (a' := ?_) ?_ ?_
          rotate_left
          ·show Act.put _ (some 22) _ = _
           simp only [Act.put, List.setIfInBounds_toArray, List.set_cons_zero, List.set_cons_succ, i64_w, i32_w]
           rfl
          exact norm_ (by first | (simp only [putAll, Act.put, List.setIfInBounds_toArray, List.set_cons_zero, List.set_cons_succ]; done) | (simp only [putAll, Act.put, List.setIfInBounds_toArray, List.set_cons_zero, List.set_cons_succ]; rfl)) (hJ2_6_9_21 (gbB) _ ⟨hHeld, (by (with_reducible repeat (first | refine blk_drewN ?_ _ | refine blk_drew ?_ | refine blk_alloc ?_ _)); exact BKA.out), (by (with_reducible repeat (first | refine blk_drewN ?_ _ | refine blk_drew ?_ | refine blk_alloc ?_ _)); exact BKC.out), (by (with_reducible repeat (first | refine blk_drewN ?_ _ | refine blk_drew ?_ | refine blk_alloc ?_ _)); exact BKB.out), GWB.out, GEB.out, NBA_B.out, NBB_A.out, NBC_B.out, NBB_C.out, (by repeat (first | (with_reducible first | exact HB.out | apply below_alloc | apply pw_below_drewN | apply below_drew1 | refine below_set ?_ GEA.out | refine below_set ?_ GEC.out | refine below_set ?_ GEB.out) | exact HB.out))⟩)
        ·skip
         rintro _ w13 ⟨hS_, h0_, h1_, h2_⟩
         have n0_ : Aside0 (w13.heap[gbA]? = some (.cells #[.int .i64 a0_0, .int .i64 a0_1, .int .i64 a0_2, .int .i64 a0_3, .int .i64 a0_4, .int .i64 a0_5, .slice A0_6 l0_6.length c0_6] 24 (0, 0))) := ⟨h0_⟩
         have n1_ : Aside0 (w13.heap[gbC]? = some (.cells #[.int .i64 0, .int .i64 0, .int .i64 0, .int .i64 0, .int .i64 0, .int .i64 0, .slice none 0 0] 24 (0, 0))) := ⟨h1_⟩
         have n2_ : Aside0 (Below w.heap.size w w13) := ⟨h2_⟩
         clear BKA
         clear BKC
         clear HB
         clear h0_ h1_ h2_
         have BKA := n0_
         have BKC := n1_
         have HB := n2_
         clear n0_ n1_ n2_
         have hHeld : w13.cell? ⟨gbA, 0, none⟩ = some (.int .i64 a0_0) ∧ w13.cell? ⟨gbA, 1, none⟩ = some (.int .i64 a0_1) ∧ w13.cell? ⟨gbA, 2, none⟩ = some (.int .i64 a0_2) ∧ w13.cell? ⟨gbA, 3, none⟩ = some (.int .i64 a0_3) ∧ w13.cell? ⟨gbA, 4, none⟩ = some (.int .i64 a0_4) ∧ w13.cell? ⟨gbA, 5, none⟩ = some (.int .i64 a0_5) ∧ w13.cell? ⟨gbA, 6, none⟩ = some (.slice A0_6 l0_6.length c0_6) := hS_
         refine norm_ (a' := ?_) ?_ ?_
         rotate_left
         ·simp only [putAll, Act.put, List.setIfInBounds_toArray, List.set_cons_zero, List.set_cons_succ]
          rfl
         refine two_ (i := 12) (j := 21) (Ni := some 25) (Nj := some 5) #[true, true, true, true, true, true, true, true, true, true, true, true, true, true, true, false, true, true, false, false, false, false, false] #[true, true, true, true, true, true, true, true, true, true, true, true, false, true, true, false, true, true, false, false, false, true, false] rfl rfl rfl rfl (two_of HT_.out (by kernel_rfl)) (by decide) (by decide) (fun K hK => ?_) (fun K hK => ?_)
         ·skip
          refine goes_ Tryd.func16 (by kernel_rfl) rfl #[.int .i64 a0_3, .int .i64 1099511627777] (by rfl) rfl rfl (by (try simp only [List.map_toArray, List.map_cons, List.map_nil]); first | done | rfl | (simp only [List.length_drop, List.length_take]; rfl)) ?_
          with_reducible refine (billetlaw16_pick.calls a0_3 1099511627777 tK _ A6.out).mono ?_
          rintro e w' ⟨rfl, ⟨nd, rfl⟩⟩
          refine ⟨_, rfl, ?_⟩
          refine hK.out _ _ ⟨(blk_cell BKA.out 0).trans rfl, (blk_cell BKA.out 1).trans rfl, (blk_cell BKA.out 2).trans rfl, (blk_cell BKA.out 3).trans rfl, (blk_cell BKA.out 4).trans rfl, (blk_cell BKA.out 5).trans rfl, (blk_cell BKA.out 6).trans rfl⟩ (fun hHeld => ?_)
          clear hK K
          refine norm_ (a' := ?_) ?_ ?_
          rotate_left
          ·show Act.put _ (some 25) _ = _
           simp only [Act.put, List.setIfInBounds_toArray, List.set_cons_zero, List.set_cons_succ, i64_w, i32_w]
           rfl
          exact norm_ (by first | (simp only [putAll, Act.put, List.setIfInBounds_toArray, List.set_cons_zero, List.set_cons_succ]; done) | (simp only [putAll, Act.put, List.setIfInBounds_toArray, List.set_cons_zero, List.set_cons_succ]; rfl)) (hJ2_6_9_12 () _ ⟨hHeld, (by (with_reducible repeat (first | refine blk_drewN ?_ _ | refine blk_drew ?_ | refine blk_alloc ?_ _)); exact BKA.out), (by (with_reducible repeat (first | refine blk_drewN ?_ _ | refine blk_drew ?_ | refine blk_alloc ?_ _)); exact BKC.out), (by repeat (first | (with_reducible first | exact HB.out | apply below_alloc | apply pw_below_drewN | apply below_drew1 | refine below_set ?_ GEA.out | refine below_set ?_ GEC.out) | exact HB.out))⟩)
         ·skip
          refine box_step ?hg (N := 5) ?hd (cs := #[.int .i64 0, .int .i64 0, .int .i64 0, .int .i64 0, .int .i64 0, .int .i64 0, .slice none 0 0]) (t := 24) ?hr ?_; (case hd => rfl); (case hg => rfl); (case hr => first | (go_simp; done) | (go_simp; rfl))
          intro gbB hg w14 hbox hb
          have n0_ := Aside0.mk (blk_below (g := gbA) (o := .cells #[.int .i64 a0_0, .int .i64 a0_1, .int .i64 a0_2, .int .i64 a0_3, .int .i64 a0_4, .int .i64 a0_5, .slice A0_6 l0_6.length c0_6] 24 (0, 0)) (by (with_reducible repeat (first | refine blk_drewN ?_ _ | refine blk_drew ?_ | refine blk_alloc ?_ _)); exact BKA.out) hb)
          have n1_ := Aside0.mk (blk_below (g := gbC) (o := .cells #[.int .i64 0, .int .i64 0, .int .i64 0, .int .i64 0, .int .i64 0, .int .i64 0, .slice none 0 0] 24 (0, 0)) (by (with_reducible repeat (first | refine blk_drewN ?_ _ | refine blk_drew ?_ | refine blk_alloc ?_ _)); exact BKC.out) hb)
          have n2_ := Aside0.mk (below_step (by repeat (first | (with_reducible first | exact HB.out | apply below_alloc | apply pw_below_drewN | apply below_drew1 | refine below_set ?_ GEA.out | refine below_set ?_ GEC.out) | exact HB.out)) hb)
          have n3_ := Aside0.mk (hbox)
          have n4_ := Aside0.mk ((by rw [hg]; exact (below_size (by repeat (first | (with_reducible first | exact HB.out | apply below_alloc | apply pw_below_drewN | apply below_drew1 | refine below_set ?_ GEA.out | refine below_set ?_ GEC.out) | exact HB.out))) : w.heap.size ≤ gbB))
          have n5_ := Aside0.mk ((by rw [hg]; exact (below_size (by repeat (first | (with_reducible first | exact HB.out | apply below_alloc | apply pw_below_drewN | apply below_drew1 | refine below_set ?_ GEA.out | refine below_set ?_ GEC.out) | exact HB.out))) : w.heap.size ≤ gbB))
          have n6_ := Aside0.mk ((by rw [hg]; exact Nat.ne_of_lt (blk_lt (g := gbA) (o := .cells #[.int .i64 a0_0, .int .i64 a0_1, .int .i64 a0_2, .int .i64 a0_3, .int .i64 a0_4, .int .i64 a0_5, .slice A0_6 l0_6.length c0_6] 24 (0, 0)) (by (with_reducible repeat (first | refine blk_drewN ?_ _ | refine blk_drew ?_ | refine blk_alloc ?_ _)); exact BKA.out)) : gbA ≠ gbB))
          have n7_ := Aside0.mk ((by rw [hg]; exact Nat.ne_of_gt (blk_lt (g := gbA) (o := .cells #[.int .i64 a0_0, .int .i64 a0_1, .int .i64 a0_2, .int .i64 a0_3, .int .i64 a0_4, .int .i64 a0_5, .slice A0_6 l0_6.length c0_6] 24 (0, 0)) (by (with_reducible repeat (first | refine blk_drewN ?_ _ | refine blk_drew ?_ | refine blk_alloc ?_ _)); exact BKA.out)) : gbB ≠ gbA))
          have n8_ := Aside0.mk ((by rw [hg]; exact Nat.ne_of_lt (blk_lt (g := gbC) (o := .cells #[.int .i64 0, .int .i64 0, .int .i64 0, .int .i64 0, .int .i64 0, .int .i64 0, .slice none 0 0] 24 (0, 0)) (by (with_reducible repeat (first | refine blk_drewN ?_ _ | refine blk_drew ?_ | refine blk_alloc ?_ _)); exact BKC.out)) : gbC ≠ gbB))
          have n9_ := Aside0.mk ((by rw [hg]; exact Nat.ne_of_gt (blk_lt (g := gbC) (o := .cells #[.int .i64 0, .int .i64 0, .int .i64 0, .int .i64 0, .int .i64 0, .int .i64 0, .slice none 0 0] 24 (0, 0)) (by (with_reducible repeat (first | refine blk_drewN ?_ _ | refine blk_drew ?_ | refine blk_alloc ?_ _)); exact BKC.out)) : gbB ≠ gbC))
          clear BKA
          clear BKC
          clear HB
          have BKA := n0_
          have BKC := n1_
          have HB := n2_
          have BKB := n3_
          have GWB := n4_
          have GEB := n5_
          have NBA_B := n6_
          have NBB_A := n7_
          have NBC_B := n8_
          have NBB_C := n9_
          clear n0_ n1_ n2_ n3_ n4_ n5_ n6_ n7_ n8_ n9_
          clear hb hbox hg
          refine hK.out _ _ ⟨(blk_cell BKA.out 0).trans rfl, (blk_cell BKA.out 1).trans rfl, (blk_cell BKA.out 2).trans rfl, (blk_cell BKA.out 3).trans rfl, (blk_cell BKA.out 4).trans rfl, (blk_cell BKA.out 5).trans rfl, (blk_cell BKA.out 6).trans rfl⟩ (fun hHeld => ?_)
          clear hK K
          refine norm_ (a' := ?_) ?_ ?_
          rotate_left
          ·show Act.put _ (some 5) _ = _
           simp only [Act.put, List.setIfInBounds_toArray, List.set_cons_zero, List.set_cons_succ, i64_w, i32_w]
           rfl
          exact norm_ (by first | (simp only [putAll, Act.put, List.setIfInBounds_toArray, List.set_cons_zero, List.set_cons_succ]; done) | (simp only [putAll, Act.put, List.setIfInBounds_toArray, List.set_cons_zero, List.set_cons_succ]; rfl)) (hJ2_6_9_21 (gbB) _ ⟨hHeld, (by (with_reducible repeat (first | refine blk_drewN ?_ _ | refine blk_drew ?_ | refine blk_alloc ?_ _)); exact BKA.out), (by (with_reducible repeat (first | refine blk_drewN ?_ _ | refine blk_drew ?_ | refine blk_alloc ?_ _)); exact BKC.out), (by (with_reducible repeat (first | refine blk_drewN ?_ _ | refine blk_drew ?_ | refine blk_alloc ?_ _)); exact BKB.out), GWB.out, GEB.out, NBA_B.out, NBB_A.out, NBC_B.out, NBB_C.out, (by repeat (first | (with_reducible first | exact HB.out | apply below_alloc | apply pw_below_drewN | apply below_drew1 | refine below_set ?_ GEA.out | refine below_set ?_ GEC.out | refine below_set ?_ GEB.out) | exact HB.out))⟩)
       ·skip
        rintro gbB w14 ⟨hS_, h0_, h1_, h2_, h3_, h4_, h5_, h6_, h7_, h8_, h9_⟩
        have n0_ : Aside0 (w14.heap[gbA]? = some (.cells #[.int .i64 a0_0, .int .i64 a0_1, .int .i64 a0_2, .int .i64 a0_3, .int .i64 a0_4, .int .i64 a0_5, .slice A0_6 l0_6.length c0_6] 24 (0, 0))) := ⟨h0_⟩
        have n1_ : Aside0 (w14.heap[gbC]? = some (.cells #[.int .i64 0, .int .i64 0, .int .i64 0, .int .i64 0, .int .i64 0, .int .i64 0, .slice none 0 0] 24 (0, 0))) := ⟨h1_⟩
        have n2_ : Aside0 (w14.heap[gbB]? = some (.cells #[.int .i64 0, .int .i64 0, .int .i64 0, .int .i64 0, .int .i64 0, .int .i64 0, .slice none 0 0] 24 (0, 0))) := ⟨h2_⟩
        have n3_ : Aside0 (w.heap.size ≤ gbB) := ⟨h3_⟩
        have n4_ : Aside0 (w.heap.size ≤ gbB) := ⟨h4_⟩
        have n5_ : Aside0 (gbA ≠ gbB) := ⟨h5_⟩
        have n6_ : Aside0 (gbB ≠ gbA) := ⟨h6_⟩
        have n7_ : Aside0 (gbC ≠ gbB) := ⟨h7_⟩
        have n8_ : Aside0 (gbB ≠ gbC) := ⟨h8_⟩
        have n9_ : Aside0 (Below w.heap.size w w14) := ⟨h9_⟩
        clear BKA
        clear BKC
        clear HB
        clear h0_ h1_ h2_ h3_ h4_ h5_ h6_ h7_ h8_ h9_
        have BKA := n0_
        have BKC := n1_
        have BKB := n2_
        have GWB := n3_
        have GEB := n4_
        have NBA_B := n5_
        have NBB_A := n6_
        have NBC_B := n7_
        have NBB_C := n8_
        have HB := n9_
        clear n0_ n1_ n2_ n3_ n4_ n5_ n6_ n7_ n8_ n9_
        have hHeld : w14.cell? ⟨gbA, 0, none⟩ = some (.int .i64 a0_0) ∧ w14.cell? ⟨gbA, 1, none⟩ = some (.int .i64 a0_1) ∧ w14.cell? ⟨gbA, 2, none⟩ = some (.int .i64 a0_2) ∧ w14.cell? ⟨gbA, 3, none⟩ = some (.int .i64 a0_3) ∧ w14.cell? ⟨gbA, 4, none⟩ = some (.int .i64 a0_4) ∧ w14.cell? ⟨gbA, 5, none⟩ = some (.int .i64 a0_5) ∧ w14.cell? ⟨gbA, 6, none⟩ = some (.slice A0_6 l0_6.length c0_6) := hS_
        refine norm_ (a' := ?_) ?_ ?_
        rotate_left
        ·simp only [putAll, Act.put, List.setIfInBounds_toArray, List.set_cons_zero, List.set_cons_succ]
         rfl
        refine one_ (i := 12) (N := some 25) #[true, true, true, true, true, true, true, true, true, true, true, true, true, true, true, false, true, true, false, false, false, true, false] rfl rfl (one_of HT_.out (by kernel_rfl)) (by decide) (fun K hK => ?_)
        refine goes_ Tryd.func16 (by kernel_rfl) rfl #[.int .i64 a0_3, .int .i64 1099511627777] (by rfl) rfl rfl (by (try simp only [List.map_toArray, List.map_cons, List.map_nil]); first | done | rfl | (simp only [List.length_drop, List.length_take]; rfl)) ?_
        with_reducible refine (billetlaw16_pick.calls a0_3 1099511627777 tK _ A6.out).mono ?_
        rintro e w' ⟨rfl, ⟨nd, rfl⟩⟩
        refine ⟨_, rfl, ?_⟩
        refine hK.out _ _ ⟨(blk_cell BKA.out 0).trans rfl, (blk_cell BKA.out 1).trans rfl, (blk_cell BKA.out 2).trans rfl, (blk_cell BKA.out 3).trans rfl, (blk_cell BKA.out 4).trans rfl, (blk_cell BKA.out 5).trans rfl, (blk_cell BKA.out 6).trans rfl⟩ (fun hHeld => ?_)
        clear hK K
        refine norm_ (a' := ?_) ?_ ?_
        rotate_left
        ·show Act.put _ (some 25) _ = _
         simp only [Act.put, List.setIfInBounds_toArray, List.set_cons_zero, List.set_cons_succ, i64_w, i32_w]
         rfl
        exact norm_ (by first | (simp only [putAll, Act.put, List.setIfInBounds_toArray, List.set_cons_zero, List.set_cons_succ]; done) | (simp only [putAll, Act.put, List.setIfInBounds_toArray, List.set_cons_zero, List.set_cons_succ]; rfl)) (hJ2_6_9_12_21 (gbB) _ ⟨hHeld, (by (with_reducible repeat (first | refine blk_drewN ?_ _ | refine blk_drew ?_ | refine blk_alloc ?_ _)); exact BKA.out), (by (with_reducible repeat (first | refine blk_drewN ?_ _ | refine blk_drew ?_ | refine blk_alloc ?_ _)); exact BKC.out), (by (with_reducible repeat (first | refine blk_drewN ?_ _ | refine blk_drew ?_ | refine blk_alloc ?_ _)); exact BKB.out), GWB.out, GEB.out, NBA_B.out, NBB_A.out, NBC_B.out, NBB_C.out, (by repeat (first | (with_reducible first | exact HB.out | apply below_alloc | apply pw_below_drewN | apply below_drew1 | refine below_set ?_ GEA.out | refine below_set ?_ GEC.out | refine below_set ?_ GEB.out) | exact HB.out))⟩)
      ·skip
       rintro _ w13 ⟨hS_, h0_, h1_, h2_⟩
       have n0_ : Aside0 (w13.heap[gbA]? = some (.cells #[.int .i64 a0_0, .int .i64 a0_1, .int .i64 a0_2, .int .i64 a0_3, .int .i64 a0_4, .int .i64 a0_5, .slice A0_6 l0_6.length c0_6] 24 (0, 0))) := ⟨h0_⟩
       have n1_ : Aside0 (w13.heap[gbC]? = some (.cells #[.int .i64 0, .int .i64 0, .int .i64 0, .int .i64 0, .int .i64 0, .int .i64 0, .slice none 0 0] 24 (0, 0))) := ⟨h1_⟩
       have n2_ : Aside0 (Below w.heap.size w w13) := ⟨h2_⟩
       clear BKA
       clear BKC
       clear HB
       clear h0_ h1_ h2_
       have BKA := n0_
       have BKC := n1_
       have HB := n2_
       clear n0_ n1_ n2_
       have hHeld : w13.cell? ⟨gbA, 0, none⟩ = some (.int .i64 a0_0) ∧ w13.cell? ⟨gbA, 1, none⟩ = some (.int .i64 a0_1) ∧ w13.cell? ⟨gbA, 2, none⟩ = some (.int .i64 a0_2) ∧ w13.cell? ⟨gbA, 3, none⟩ = some (.int .i64 a0_3) ∧ w13.cell? ⟨gbA, 4, none⟩ = some (.int .i64 a0_4) ∧ w13.cell? ⟨gbA, 5, none⟩ = some (.int .i64 a0_5) ∧ w13.cell? ⟨gbA, 6, none⟩ = some (.slice A0_6 l0_6.length c0_6) := hS_
       refine norm_ (a' := ?_) ?_ ?_
       rotate_left
       ·simp only [putAll, Act.put, List.setIfInBounds_toArray, List.set_cons_zero, List.set_cons_succ]
        rfl
       refine two_ (i := 15) (j := 21) (Ni := some 28) (Nj := some 5) #[true, true, true, true, true, true, true, true, true, true, true, true, true, true, true, true, true, true, false, false, false, false, false] #[true, true, true, true, true, true, true, true, true, true, true, true, true, true, true, false, true, true, false, false, false, true, false] rfl rfl rfl rfl (two_of HT_.out (by kernel_rfl)) (by decide) (by decide) (fun K hK => ?_) (fun K hK => ?_)
       ·skip
        refine goes_ Tryd.func16 (by kernel_rfl) rfl #[.int .i64 a0_4, .int .i64 1099511627777] (by rfl) rfl rfl (by (try simp only [List.map_toArray, List.map_cons, List.map_nil]); first | done | rfl | (simp only [List.length_drop, List.length_take]; rfl)) ?_
        with_reducible refine (billetlaw16_pick.calls a0_4 1099511627777 tL _ A7.out).mono ?_
        rintro e w' ⟨rfl, ⟨nd, rfl⟩⟩
        refine ⟨_, rfl, ?_⟩
        refine hK.out _ _ ⟨(blk_cell BKA.out 0).trans rfl, (blk_cell BKA.out 1).trans rfl, (blk_cell BKA.out 2).trans rfl, (blk_cell BKA.out 3).trans rfl, (blk_cell BKA.out 4).trans rfl, (blk_cell BKA.out 5).trans rfl, (blk_cell BKA.out 6).trans rfl⟩ (fun hHeld => ?_)
        clear hK K
        refine norm_ (a' := ?_) ?_ ?_
        rotate_left
        ·show Act.put _ (some 28) _ = _
         simp only [Act.put, List.setIfInBounds_toArray, List.set_cons_zero, List.set_cons_succ, i64_w, i32_w]
         rfl
        exact norm_ (by first | (simp only [putAll, Act.put, List.setIfInBounds_toArray, List.set_cons_zero, List.set_cons_succ]; done) | (simp only [putAll, Act.put, List.setIfInBounds_toArray, List.set_cons_zero, List.set_cons_succ]; rfl)) (hJ2_6_9_12_15 () _ ⟨hHeld, (by (with_reducible repeat (first | refine blk_drewN ?_ _ | refine blk_drew ?_ | refine blk_alloc ?_ _)); exact BKA.out), (by (with_reducible repeat (first | refine blk_drewN ?_ _ | refine blk_drew ?_ | refine blk_alloc ?_ _)); exact BKC.out), (by repeat (first | (with_reducible first | exact HB.out | apply below_alloc | apply pw_below_drewN | apply below_drew1 | refine below_set ?_ GEA.out | refine below_set ?_ GEC.out) | exact HB.out))⟩)
       ·skip
        refine box_step ?hg (N := 5) ?hd (cs := #[.int .i64 0, .int .i64 0, .int .i64 0, .int .i64 0, .int .i64 0, .int .i64 0, .slice none 0 0]) (t := 24) ?hr ?_; (case hd => rfl); (case hg => rfl); (case hr => first | (go_simp; done) | (go_simp; rfl))
        intro gbB hg w14 hbox hb
        have n0_ := Aside0.mk (blk_below (g := gbA) (o := .cells #[.int .i64 a0_0, .int .i64 a0_1, .int .i64 a0_2, .int .i64 a0_3, .int .i64 a0_4, .int .i64 a0_5, .slice A0_6 l0_6.length c0_6] 24 (0, 0)) (by (with_reducible repeat (first | refine blk_drewN ?_ _ | refine blk_drew ?_ | refine blk_alloc ?_ _)); exact BKA.out) hb)
        have n1_ := Aside0.mk (blk_below (g := gbC) (o := .cells #[.int .i64 0, .int .i64 0, .int .i64 0, .int .i64 0, .int .i64 0, .int .i64 0, .slice none 0 0] 24 (0, 0)) (by (with_reducible repeat (first | refine blk_drewN ?_ _ | refine blk_drew ?_ | refine blk_alloc ?_ _)); exact BKC.out) hb)
        have n2_ := Aside0.mk (below_step (by repeat (first | (with_reducible first | exact HB.out | apply below_alloc | apply pw_below_drewN | apply below_drew1 | refine below_set ?_ GEA.out | refine below_set ?_ GEC.out) | exact HB.out)) hb)
        have n3_ := Aside0.mk (hbox)
        have n4_ := Aside0.mk ((by rw [hg]; exact (below_size (by repeat (first | (with_reducible first | exact HB.out | apply below_alloc | apply pw_below_drewN | apply below_drew1 | refine below_set ?_ GEA.out | refine below_set ?_ GEC.out) | exact HB.out))) : w.heap.size ≤ gbB))
        have n5_ := Aside0.mk ((by rw [hg]; exact (below_size (by repeat (first | (with_reducible first | exact HB.out | apply below_alloc | apply pw_below_drewN | apply below_drew1 | refine below_set ?_ GEA.out | refine below_set ?_ GEC.out) | exact HB.out))) : w.heap.size ≤ gbB))
        have n6_ := Aside0.mk ((by rw [hg]; exact Nat.ne_of_lt (blk_lt (g := gbA) (o := .cells #[.int .i64 a0_0, .int .i64 a0_1, .int .i64 a0_2, .int .i64 a0_3, .int .i64 a0_4, .int .i64 a0_5, .slice A0_6 l0_6.length c0_6] 24 (0, 0)) (by (with_reducible repeat (first | refine blk_drewN ?_ _ | refine blk_drew ?_ | refine blk_alloc ?_ _)); exact BKA.out)) : gbA ≠ gbB))
        have n7_ := Aside0.mk ((by rw [hg]; exact Nat.ne_of_gt (blk_lt (g := gbA) (o := .cells #[.int .i64 a0_0, .int .i64 a0_1, .int .i64 a0_2, .int .i64 a0_3, .int .i64 a0_4, .int .i64 a0_5, .slice A0_6 l0_6.length c0_6] 24 (0, 0)) (by (with_reducible repeat (first | refine blk_drewN ?_ _ | refine blk_drew ?_ | refine blk_alloc ?_ _)); exact BKA.out)) : gbB ≠ gbA))
        have n8_ := Aside0.mk ((by rw [hg]; exact Nat.ne_of_lt (blk_lt (g := gbC) (o := .cells #[.int .i64 0, .int .i64 0, .int .i64 0, .int .i64 0, .int .i64 0, .int .i64 0, .slice none 0 0] 24 (0, 0)) (by (with_reducible repeat (first | refine blk_drewN ?_ _ | refine blk_drew ?_ | refine blk_alloc ?_ _)); exact BKC.out)) : gbC ≠ gbB))
        have n9_ := Aside0.mk ((by rw [hg]; exact Nat.ne_of_gt (blk_lt (g := gbC) (o := .cells #[.int .i64 0, .int .i64 0, .int .i64 0, .int .i64 0, .int .i64 0, .int .i64 0, .slice none 0 0] 24 (0, 0)) (by (with_reducible repeat (first | refine blk_drewN ?_ _ | refine blk_drew ?_ | refine blk_alloc ?_ _)); exact BKC.out)) : gbB ≠ gbC))
        clear BKA
        clear BKC
        clear HB
        have BKA := n0_
        have BKC := n1_
        have HB := n2_
        have BKB := n3_
        have GWB := n4_
        have GEB := n5_
        have NBA_B := n6_
        have NBB_A := n7_
        have NBC_B := n8_
        have NBB_C := n9_
        clear n0_ n1_ n2_ n3_ n4_ n5_ n6_ n7_ n8_ n9_
        clear hb hbox hg
        refine hK.out _ _ ⟨(blk_cell BKA.out 0).trans rfl, (blk_cell BKA.out 1).trans rfl, (blk_cell BKA.out 2).trans rfl, (blk_cell BKA.out 3).trans rfl, (blk_cell BKA.out 4).trans rfl, (blk_cell BKA.out 5).trans rfl, (blk_cell BKA.out 6).trans rfl⟩ (fun hHeld => ?_)
        clear hK K
        refine norm_ (a' := ?_) ?_ ?_
        rotate_left
        ·show Act.put _ (some 5) _ = _
         simp only [Act.put, List.setIfInBounds_toArray, List.set_cons_zero, List.set_cons_succ, i64_w, i32_w]
         rfl
        exact norm_ (by first | (simp only [putAll, Act.put, List.setIfInBounds_toArray, List.set_cons_zero, List.set_cons_succ]; done) | (simp only [putAll, Act.put, List.setIfInBounds_toArray, List.set_cons_zero, List.set_cons_succ]; rfl)) (hJ2_6_9_12_21 (gbB) _ ⟨hHeld, (by (with_reducible repeat (first | refine blk_drewN ?_ _ | refine blk_drew ?_ | refine blk_alloc ?_ _)); exact BKA.out), (by (with_reducible repeat (first | refine blk_drewN ?_ _ | refine blk_drew ?_ | refine blk_alloc ?_ _)); exact BKC.out), (by (with_reducible repeat (first | refine blk_drewN ?_ _ | refine blk_drew ?_ | refine blk_alloc ?_ _)); exact BKB.out), GWB.out, GEB.out, NBA_B.out, NBB_A.out, NBC_B.out, NBB_C.out, (by repeat (first | (with_reducible first | exact HB.out | apply below_alloc | apply pw_below_drewN | apply below_drew1 | refine below_set ?_ GEA.out | refine below_set ?_ GEC.out | refine below_set ?_ GEB.out) | exact HB.out))⟩)
     ·skip
      rintro gbB w14 ⟨hS_, h0_, h1_, h2_, h3_, h4_, h5_, h6_, h7_, h8_, h9_⟩
      have n0_ : Aside0 (w14.heap[gbA]? = some (.cells #[.int .i64 a0_0, .int .i64 a0_1, .int .i64 a0_2, .int .i64 a0_3, .int .i64 a0_4, .int .i64 a0_5, .slice A0_6 l0_6.length c0_6] 24 (0, 0))) := ⟨h0_⟩
      have n1_ : Aside0 (w14.heap[gbC]? = some (.cells #[.int .i64 0, .int .i64 0, .int .i64 0, .int .i64 0, .int .i64 0, .int .i64 0, .slice none 0 0] 24 (0, 0))) := ⟨h1_⟩
      have n2_ : Aside0 (w14.heap[gbB]? = some (.cells #[.int .i64 0, .int .i64 0, .int .i64 0, .int .i64 0, .int .i64 0, .int .i64 0, .slice none 0 0] 24 (0, 0))) := ⟨h2_⟩
      have n3_ : Aside0 (w.heap.size ≤ gbB) := ⟨h3_⟩
      have n4_ : Aside0 (w.heap.size ≤ gbB) := ⟨h4_⟩
      have n5_ : Aside0 (gbA ≠ gbB) := ⟨h5_⟩
      have n6_ : Aside0 (gbB ≠ gbA) := ⟨h6_⟩
      have n7_ : Aside0 (gbC ≠ gbB) := ⟨h7_⟩
      have n8_ : Aside0 (gbB ≠ gbC) := ⟨h8_⟩
      have n9_ : Aside0 (Below w.heap.size w w14) := ⟨h9_⟩
      clear BKA
      clear BKC
      clear HB
      clear h0_ h1_ h2_ h3_ h4_ h5_ h6_ h7_ h8_ h9_
      have BKA := n0_
      have BKC := n1_
      have BKB := n2_
      have GWB := n3_
      have GEB := n4_
      have NBA_B := n5_
      have NBB_A := n6_
      have NBC_B := n7_
      have NBB_C := n8_
      have HB := n9_
      clear n0_ n1_ n2_ n3_ n4_ n5_ n6_ n7_ n8_ n9_
      have hHeld : w14.cell? ⟨gbA, 0, none⟩ = some (.int .i64 a0_0) ∧ w14.cell? ⟨gbA, 1, none⟩ = some (.int .i64 a0_1) ∧ w14.cell? ⟨gbA, 2, none⟩ = some (.int .i64 a0_2) ∧ w14.cell? ⟨gbA, 3, none⟩ = some (.int .i64 a0_3) ∧ w14.cell? ⟨gbA, 4, none⟩ = some (.int .i64 a0_4) ∧ w14.cell? ⟨gbA, 5, none⟩ = some (.int .i64 a0_5) ∧ w14.cell? ⟨gbA, 6, none⟩ = some (.slice A0_6 l0_6.length c0_6) := hS_
      refine norm_ (a' := ?_) ?_ ?_
      rotate_left
      ·simp only [putAll, Act.put, List.setIfInBounds_toArray, List.set_cons_zero, List.set_cons_succ]
       rfl
      refine one_ (i := 15) (N := some 28) #[true, true, true, true, true, true, true, true, true, true, true, true, true, true, true, true, true, true, false, false, false, true, false] rfl rfl (one_of HT_.out (by kernel_rfl)) (by decide) (fun K hK => ?_)
      refine goes_ Tryd.func16 (by kernel_rfl) rfl #[.int .i64 a0_4, .int .i64 1099511627777] (by rfl) rfl rfl (by (try simp only [List.map_toArray, List.map_cons, List.map_nil]); first | done | rfl | (simp only [List.length_drop, List.length_take]; rfl)) ?_
      with_reducible refine (billetlaw16_pick.calls a0_4 1099511627777 tL _ A7.out).mono ?_
      rintro e w' ⟨rfl, ⟨nd, rfl⟩⟩
      refine ⟨_, rfl, ?_⟩
      refine hK.out _ _ ⟨(blk_cell BKA.out 0).trans rfl, (blk_cell BKA.out 1).trans rfl, (blk_cell BKA.out 2).trans rfl, (blk_cell BKA.out 3).trans rfl, (blk_cell BKA.out 4).trans rfl, (blk_cell BKA.out 5).trans rfl, (blk_cell BKA.out 6).trans rfl⟩ (fun hHeld => ?_)
      clear hK K
      refine norm_ (a' := ?_) ?_ ?_
      rotate_left
      ·show Act.put _ (some 28) _ = _
       simp only [Act.put, List.setIfInBounds_toArray, List.set_cons_zero, List.set_cons_succ, i64_w, i32_w]
       rfl
      exact norm_ (by first | (simp only [putAll, Act.put, List.setIfInBounds_toArray, List.set_cons_zero, List.set_cons_succ]; done) | (simp only [putAll, Act.put, List.setIfInBounds_toArray, List.set_cons_zero, List.set_cons_succ]; rfl)) (hJ2_6_9_12_15_21 (gbB) _ ⟨hHeld, (by (with_reducible repeat (first | refine blk_drewN ?_ _ | refine blk_drew ?_ | refine blk_alloc ?_ _)); exact BKA.out), (by (with_reducible repeat (first | refine blk_drewN ?_ _ | refine blk_drew ?_ | refine blk_alloc ?_ _)); exact BKC.out), (by (with_reducible repeat (first | refine blk_drewN ?_ _ | refine blk_drew ?_ | refine blk_alloc ?_ _)); exact BKB.out), GWB.out, GEB.out, NBA_B.out, NBB_A.out, NBC_B.out, NBB_C.out, (by repeat (first | (with_reducible first | exact HB.out | apply below_alloc | apply pw_below_drewN | apply below_drew1 | refine below_set ?_ GEA.out | refine below_set ?_ GEC.out | refine below_set ?_ GEB.out) | exact HB.out))⟩)
    ·skip
     rintro _ w13 ⟨hS_, h0_, h1_, h2_⟩
     have n0_ : Aside0 (w13.heap[gbA]? = some (.cells #[.int .i64 a0_0, .int .i64 a0_1, .int .i64 a0_2, .int .i64 a0_3, .int .i64 a0_4, .int .i64 a0_5, .slice A0_6 l0_6.length c0_6] 24 (0, 0))) := ⟨h0_⟩
     have n1_ : Aside0 (w13.heap[gbC]? = some (.cells #[.int .i64 0, .int .i64 0, .int .i64 0, .int .i64 0, .int .i64 0, .int .i64 0, .slice none 0 0] 24 (0, 0))) := ⟨h1_⟩
     have n2_ : Aside0 (Below w.heap.size w w13) := ⟨h2_⟩
     clear BKA
     clear BKC
     clear HB
     clear h0_ h1_ h2_
     have BKA := n0_
     have BKC := n1_
     have HB := n2_
     clear n0_ n1_ n2_
     have hHeld : w13.cell? ⟨gbA, 0, none⟩ = some (.int .i64 a0_0) ∧ w13.cell? ⟨gbA, 1, none⟩ = some (.int .i64 a0_1) ∧ w13.cell? ⟨gbA, 2, none⟩ = some (.int .i64 a0_2) ∧ w13.cell? ⟨gbA, 3, none⟩ = some (.int .i64 a0_3) ∧ w13.cell? ⟨gbA, 4, none⟩ = some (.int .i64 a0_4) ∧ w13.cell? ⟨gbA, 5, none⟩ = some (.int .i64 a0_5) ∧ w13.cell? ⟨gbA, 6, none⟩ = some (.slice A0_6 l0_6.length c0_6) := hS_
     refine norm_ (a' := ?_) ?_ ?_
     rotate_left
     ·simp only [putAll, Act.put, List.setIfInBounds_toArray, List.set_cons_zero, List.set_cons_succ]
      rfl
     refine two_ (i := 18) (j := 21) (Ni := some 31) (Nj := some 5) #[true, true, true, true, true, true, true, true, true, true, true, true, true, true, true, true, true, true, true, false, false, false, false] #[true, true, true, true, true, true, true, true, true, true, true, true, true, true, true, true, true, true, false, false, false, true, false] rfl rfl rfl rfl (two_of HT_.out (by kernel_rfl)) (by decide) (by decide) (fun K hK => ?_) (fun K hK => ?_)
     ·skip
      refine goes_ Tryd.func16 (by kernel_rfl) rfl #[.int .i64 a0_5, .int .i64 2199023255552] (by rfl) rfl rfl (by (try simp only [List.map_toArray, List.map_cons, List.map_nil]); first | done | rfl | (simp only [List.length_drop, List.length_take]; rfl)) ?_
      with_reducible refine (billetlaw16_pick.calls a0_5 2199023255552 tM _ A8.out).mono ?_
      rintro e w' ⟨rfl, ⟨nd, rfl⟩⟩
      refine ⟨_, rfl, ?_⟩
      refine hK.out _ _ ⟨(blk_cell BKA.out 0).trans rfl, (blk_cell BKA.out 1).trans rfl, (blk_cell BKA.out 2).trans rfl, (blk_cell BKA.out 3).trans rfl, (blk_cell BKA.out 4).trans rfl, (blk_cell BKA.out 5).trans rfl, (blk_cell BKA.out 6).trans rfl⟩ (fun hHeld => ?_)
      clear hK K
      refine norm_ (a' := ?_) ?_ ?_
      rotate_left
      ·show Act.put _ (some 31) _ = _
       simp only [Act.put, List.setIfInBounds_toArray, List.set_cons_zero, List.set_cons_succ, i64_w, i32_w]
       rfl
      refine pure_ (i := 19) (N := some 32) (v := ?_) (a' := ?_) #[true, true, true, true, true, true, true, true, true, true, true, true, true, true, true, true, true, true, true, true, false, false, false] rfl rfl (any_of HT_.out (by kernel_rfl)) (fun _ _ _ h => h) (Or.inl ⟨by rfl, ?_⟩) ?_ ?_
      rotate_left
      ·intro w'
       go_simp
       with_reducible rfl
      rotate_left
      ·simp only [Act.put, List.setIfInBounds_toArray, List.set_cons_zero, List.set_cons_succ, i64_w, i32_w]
       rfl
      refine pure_ (i := 20) (N := some 33) (v := ?_) (a' := ?_) #[true, true, true, true, true, true, true, true, true, true, true, true, true, true, true, true, true, true, true, true, true, false, false] rfl rfl (any_of HT_.out (by kernel_rfl)) (fun _ _ _ h => h) (Or.inl ⟨by rfl, ?_⟩) ?_ ?_
      rotate_left
      ·intro w'
       go_simp
       with_reducible rfl
      rotate_left
      ·simp only [Act.put, List.setIfInBounds_toArray, List.set_cons_zero, List.set_cons_succ, i64_w, i32_w]
       rfl
      exact norm_ (by first | (simp only [putAll, Act.put, List.setIfInBounds_toArray, List.set_cons_zero, List.set_cons_succ]; done) | (simp only [putAll, Act.put, List.setIfInBounds_toArray, List.set_cons_zero, List.set_cons_succ]; rfl)) (hJ2_6_9_12_15_18 () _ ⟨hHeld, (by (with_reducible repeat (first | refine blk_drewN ?_ _ | refine blk_drew ?_ | refine blk_alloc ?_ _)); exact BKA.out), (by (with_reducible repeat (first | refine blk_drewN ?_ _ | refine blk_drew ?_ | refine blk_alloc ?_ _)); exact BKC.out), (by repeat (first | (with_reducible first | exact HB.out | apply below_alloc | apply pw_below_drewN | apply below_drew1 | refine below_set ?_ GEA.out | refine below_set ?_ GEC.out) | exact HB.out))⟩)
     ·skip
      refine box_step ?hg (N := 5) ?hd (cs := #[.int .i64 0, .int .i64 0, .int .i64 0, .int .i64 0, .int .i64 0, .int .i64 0, .slice none 0 0]) (t := 24) ?hr ?_; (case hd => rfl); (case hg => rfl); (case hr => first | (go_simp; done) | (go_simp; rfl))
      intro gbB hg w14 hbox hb
      have n0_ := Aside0.mk (blk_below (g := gbA) (o := .cells #[.int .i64 a0_0, .int .i64 a0_1, .int .i64 a0_2, .int .i64 a0_3, .int .i64 a0_4, .int .i64 a0_5, .slice A0_6 l0_6.length c0_6] 24 (0, 0)) (by (with_reducible repeat (first | refine blk_drewN ?_ _ | refine blk_drew ?_ | refine blk_alloc ?_ _)); exact BKA.out) hb)
      have n1_ := Aside0.mk (blk_below (g := gbC) (o := .cells #[.int .i64 0, .int .i64 0, .int .i64 0, .int .i64 0, .int .i64 0, .int .i64 0, .slice none 0 0] 24 (0, 0)) (by (with_reducible repeat (first | refine blk_drewN ?_ _ | refine blk_drew ?_ | refine blk_alloc ?_ _)); exact BKC.out) hb)
      have n2_ := Aside0.mk (below_step (by repeat (first | (with_reducible first | exact HB.out | apply below_alloc | apply pw_below_drewN | apply below_drew1 | refine below_set ?_ GEA.out | refine below_set ?_ GEC.out) | exact HB.out)) hb)
      have n3_ := Aside0.mk (hbox)
      have n4_ := Aside0.mk ((by rw [hg]; exact (below_size (by repeat (first | (with_reducible first | exact HB.out | apply below_alloc | apply pw_below_drewN | apply below_drew1 | refine below_set ?_ GEA.out | refine below_set ?_ GEC.out) | exact HB.out))) : w.heap.size ≤ gbB))
      have n5_ := Aside0.mk ((by rw [hg]; exact (below_size (by repeat (first | (with_reducible first | exact HB.out | apply below_alloc | apply pw_below_drewN | apply below_drew1 | refine below_set ?_ GEA.out | refine below_set ?_ GEC.out) | exact HB.out))) : w.heap.size ≤ gbB))
      have n6_ := Aside0.mk ((by rw [hg]; exact Nat.ne_of_lt (blk_lt (g := gbA) (o := .cells #[.int .i64 a0_0, .int .i64 a0_1, .int .i64 a0_2, .int .i64 a0_3, .int .i64 a0_4, .int .i64 a0_5, .slice A0_6 l0_6.length c0_6] 24 (0, 0)) (by (with_reducible repeat (first | refine blk_drewN ?_ _ | refine blk_drew ?_ | refine blk_alloc ?_ _)); exact BKA.out)) : gbA ≠ gbB))
      have n7_ := Aside0.mk ((by rw [hg]; exact Nat.ne_of_gt (blk_lt (g := gbA) (o := .cells #[.int .i64 a0_0, .int .i64 a0_1, .int .i64 a0_2, .int .i64 a0_3, .int .i64 a0_4, .int .i64 a0_5, .slice A0_6 l0_6.length c0_6] 24 (0, 0)) (by (with_reducible repeat (first | refine blk_drewN ?_ _ | refine blk_drew ?_ | refine blk_alloc ?_ _)); exact BKA.out)) : gbB ≠ gbA))
      have n8_ := Aside0.mk ((by rw [hg]; exact Nat.ne_of_lt (blk_lt (g := gbC) (o := .cells #[.int .i64 0, .int .i64 0, .int .i64 0, .int .i64 0, .int .i64 0, .int .i64 0, .slice none 0 0] 24 (0, 0)) (by (with_reducible repeat (first | refine blk_drewN ?_ _ | refine blk_drew ?_ | refine blk_alloc ?_ _)); exact BKC.out)) : gbC ≠ gbB))
      have n9_ := Aside0.mk ((by rw [hg]; exact Nat.ne_of_gt (blk_lt (g := gbC) (o := .cells #[.int .i64 0, .int .i64 0, .int .i64 0, .int .i64 0, .int .i64 0, .int .i64 0, .slice none 0 0] 24 (0, 0)) (by (with_reducible repeat (first | refine blk_drewN ?_ _ | refine blk_drew ?_ | refine blk_alloc ?_ _)); exact BKC.out)) : gbB ≠ gbC))
      clear BKA
      clear BKC
      clear HB
      have BKA := n0_
      have BKC := n1_
      have HB := n2_
      have BKB := n3_
      have GWB := n4_
      have GEB := n5_
      have NBA_B := n6_
      have NBB_A := n7_
      have NBC_B := n8_
      have NBB_C := n9_
      clear n0_ n1_ n2_ n3_ n4_ n5_ n6_ n7_ n8_ n9_
      clear hb hbox hg
      refine hK.out _ _ ⟨(blk_cell BKA.out 0).trans rfl, (blk_cell BKA.out 1).trans rfl, (blk_cell BKA.out 2).trans rfl, (blk_cell BKA.out 3).trans rfl, (blk_cell BKA.out 4).trans rfl, (blk_cell BKA.out 5).trans rfl, (blk_cell BKA.out 6).trans rfl⟩ (fun hHeld => ?_)
      clear hK K
      refine norm_ (a' := ?_) ?_ ?_
      rotate_left
      ·show Act.put _ (some 5) _ = _
       simp only [Act.put, List.setIfInBounds_toArray, List.set_cons_zero, List.set_cons_succ, i64_w, i32_w]
       rfl
      exact norm_ (by first | (simp only [putAll, Act.put, List.setIfInBounds_toArray, List.set_cons_zero, List.set_cons_succ]; done) | (simp only [putAll, Act.put, List.setIfInBounds_toArray, List.set_cons_zero, List.set_cons_succ]; rfl)) (hJ2_6_9_12_15_21 (gbB) _ ⟨hHeld, (by (with_reducible repeat (first | refine blk_drewN ?_ _ | refine blk_drew ?_ | refine blk_alloc ?_ _)); exact BKA.out), (by (with_reducible repeat (first | refine blk_drewN ?_ _ | refine blk_drew ?_ | refine blk_alloc ?_ _)); exact BKC.out), (by (with_reducible repeat (first | refine blk_drewN ?_ _ | refine blk_drew ?_ | refine blk_alloc ?_ _)); exact BKB.out), GWB.out, GEB.out, NBA_B.out, NBB_A.out, NBC_B.out, NBB_C.out, (by repeat (first | (with_reducible first | exact HB.out | apply below_alloc | apply pw_below_drewN | apply below_drew1 | refine below_set ?_ GEA.out | refine below_set ?_ GEC.out | refine below_set ?_ GEB.out) | exact HB.out))⟩)
   ·skip
    rintro gbB w14 ⟨hS_, h0_, h1_, h2_, h3_, h4_, h5_, h6_, h7_, h8_, h9_⟩
    have n0_ : Aside0 (w14.heap[gbA]? = some (.cells #[.int .i64 a0_0, .int .i64 a0_1, .int .i64 a0_2, .int .i64 a0_3, .int .i64 a0_4, .int .i64 a0_5, .slice A0_6 l0_6.length c0_6] 24 (0, 0))) := ⟨h0_⟩
    have n1_ : Aside0 (w14.heap[gbC]? = some (.cells #[.int .i64 0, .int .i64 0, .int .i64 0, .int .i64 0, .int .i64 0, .int .i64 0, .slice none 0 0] 24 (0, 0))) := ⟨h1_⟩
    have n2_ : Aside0 (w14.heap[gbB]? = some (.cells #[.int .i64 0, .int .i64 0, .int .i64 0, .int .i64 0, .int .i64 0, .int .i64 0, .slice none 0 0] 24 (0, 0))) := ⟨h2_⟩
    have n3_ : Aside0 (w.heap.size ≤ gbB) := ⟨h3_⟩
    have n4_ : Aside0 (w.heap.size ≤ gbB) := ⟨h4_⟩
    have n5_ : Aside0 (gbA ≠ gbB) := ⟨h5_⟩
    have n6_ : Aside0 (gbB ≠ gbA) := ⟨h6_⟩
    have n7_ : Aside0 (gbC ≠ gbB) := ⟨h7_⟩
    have n8_ : Aside0 (gbB ≠ gbC) := ⟨h8_⟩
    have n9_ : Aside0 (Below w.heap.size w w14) := ⟨h9_⟩
    clear BKA
    clear BKC
    clear HB
    clear h0_ h1_ h2_ h3_ h4_ h5_ h6_ h7_ h8_ h9_
    have BKA := n0_
    have BKC := n1_
    have BKB := n2_
    have GWB := n3_
    have GEB := n4_
    have NBA_B := n5_
    have NBB_A := n6_
    have NBC_B := n7_
    have NBB_C := n8_
    have HB := n9_
    clear n0_ n1_ n2_ n3_ n4_ n5_ n6_ n7_ n8_ n9_
    have hHeld : w14.cell? ⟨gbA, 0, none⟩ = some (.int .i64 a0_0) ∧ w14.cell? ⟨gbA, 1, none⟩ = some (.int .i64 a0_1) ∧ w14.cell? ⟨gbA, 2, none⟩ = some (.int .i64 a0_2) ∧ w14.cell? ⟨gbA, 3, none⟩ = some (.int .i64 a0_3) ∧ w14.cell? ⟨gbA, 4, none⟩ = some (.int .i64 a0_4) ∧ w14.cell? ⟨gbA, 5, none⟩ = some (.int .i64 a0_5) ∧ w14.cell? ⟨gbA, 6, none⟩ = some (.slice A0_6 l0_6.length c0_6) := hS_
    refine norm_ (a' := ?_) ?_ ?_
    rotate_left
    ·simp only [putAll, Act.put, List.setIfInBounds_toArray, List.set_cons_zero, List.set_cons_succ]
     rfl
    refine one_ (i := 18) (N := some 31) #[true, true, true, true, true, true, true, true, true, true, true, true, true, true, true, true, true, true, true, false, false, true, false] rfl rfl (one_of HT_.out (by kernel_rfl)) (by decide) (fun K hK => ?_)
    refine goes_ Tryd.func16 (by kernel_rfl) rfl #[.int .i64 a0_5, .int .i64 2199023255552] (by rfl) rfl rfl (by (try simp only [List.map_toArray, List.map_cons, List.map_nil]); first | done | rfl | (simp only [List.length_drop, List.length_take]; rfl)) ?_
    with_reducible refine (billetlaw16_pick.calls a0_5 2199023255552 tM _ A8.out).mono ?_
    rintro e w' ⟨rfl, ⟨nd, rfl⟩⟩
    refine ⟨_, rfl, ?_⟩
    refine hK.out _ _ ⟨(blk_cell BKA.out 0).trans rfl, (blk_cell BKA.out 1).trans rfl, (blk_cell BKA.out 2).trans rfl, (blk_cell BKA.out 3).trans rfl, (blk_cell BKA.out 4).trans rfl, (blk_cell BKA.out 5).trans rfl, (blk_cell BKA.out 6).trans rfl⟩ (fun hHeld => ?_)
    clear hK K
    refine norm_ (a' := ?_) ?_ ?_
    rotate_left
    ·show Act.put _ (some 31) _ = _
     simp only [Act.put, List.setIfInBounds_toArray, List.set_cons_zero, List.set_cons_succ, i64_w, i32_w]
     rfl
    refine pure_ (i := 19) (N := some 32) (v := ?_) (a' := ?_) #[true, true, true, true, true, true, true, true, true, true, true, true, true, true, true, true, true, true, true, true, false, true, false] rfl rfl (any_of HT_.out (by kernel_rfl)) (fun _ _ _ h => h) (Or.inl ⟨by rfl, ?_⟩) ?_ ?_
    rotate_left
    ·intro w'
     go_simp
     with_reducible rfl
    rotate_left
    ·simp only [Act.put, List.setIfInBounds_toArray, List.set_cons_zero, List.set_cons_succ, i64_w, i32_w]
     rfl
    refine pure_ (i := 20) (N := some 33) (v := ?_) (a' := ?_) #[true, true, true, true, true, true, true, true, true, true, true, true, true, true, true, true, true, true, true, true, true, true, false] rfl rfl (any_of HT_.out (by kernel_rfl)) (fun _ _ _ h => h) (Or.inl ⟨by rfl, ?_⟩) ?_ ?_
    rotate_left
    ·intro w'
     go_simp
     with_reducible rfl
    rotate_left
    ·simp only [Act.put, List.setIfInBounds_toArray, List.set_cons_zero, List.set_cons_succ, i64_w, i32_w]
     rfl
    exact norm_ (by first | (simp only [putAll, Act.put, List.setIfInBounds_toArray, List.set_cons_zero, List.set_cons_succ]; done) | (simp only [putAll, Act.put, List.setIfInBounds_toArray, List.set_cons_zero, List.set_cons_succ]; rfl)) (hJ2_6_9_12_15_18_21 (gbB) _ ⟨hHeld, (by (with_reducible repeat (first | refine blk_drewN ?_ _ | refine blk_drew ?_ | refine blk_alloc ?_ _)); exact BKA.out), (by (with_reducible repeat (first | refine blk_drewN ?_ _ | refine blk_drew ?_ | refine blk_alloc ?_ _)); exact BKC.out), (by (with_reducible repeat (first | refine blk_drewN ?_ _ | refine blk_drew ?_ | refine blk_alloc ?_ _)); exact BKB.out), GWB.out, GEB.out, NBA_B.out, NBB_A.out, NBC_B.out, NBB_C.out, (by repeat (first | (with_reducible first | exact HB.out | apply below_alloc | apply pw_below_drewN | apply below_drew1 | refine below_set ?_ GEA.out | refine below_set ?_ GEC.out | refine below_set ?_ GEB.out) | exact HB.out))⟩)
  ·skip
   rintro _ w13 ⟨hS_, h0_, h1_, h2_⟩
   have n0_ : Aside0 (w13.heap[gbA]? = some (.cells #[.int .i64 a0_0, .int .i64 a0_1, .int .i64 a0_2, .int .i64 a0_3, .int .i64 a0_4, .int .i64 a0_5, .slice A0_6 l0_6.length c0_6] 24 (0, 0))) := ⟨h0_⟩
   have n1_ : Aside0 (w13.heap[gbC]? = some (.cells #[.int .i64 0, .int .i64 0, .int .i64 0, .int .i64 0, .int .i64 0, .int .i64 0, .slice none 0 0] 24 (0, 0))) := ⟨h1_⟩
   have n2_ : Aside0 (Below w.heap.size w w13) := ⟨h2_⟩
   clear BKA
   clear BKC
   clear HB
   clear h0_ h1_ h2_
   have BKA := n0_
   have BKC := n1_
   have HB := n2_
   clear n0_ n1_ n2_
   have hHeld : w13.cell? ⟨gbA, 0, none⟩ = some (.int .i64 a0_0) ∧ w13.cell? ⟨gbA, 1, none⟩ = some (.int .i64 a0_1) ∧ w13.cell? ⟨gbA, 2, none⟩ = some (.int .i64 a0_2) ∧ w13.cell? ⟨gbA, 3, none⟩ = some (.int .i64 a0_3) ∧ w13.cell? ⟨gbA, 4, none⟩ = some (.int .i64 a0_4) ∧ w13.cell? ⟨gbA, 5, none⟩ = some (.int .i64 a0_5) ∧ w13.cell? ⟨gbA, 6, none⟩ = some (.slice A0_6 l0_6.length c0_6) := hS_
   refine norm_ (a' := ?_) ?_ ?_
   rotate_left
   ·simp only [putAll, Act.put, List.setIfInBounds_toArray, List.set_cons_zero, List.set_cons_succ]
    rfl
   refine one_ (i := 21) (N := some 5) #[true, true, true, true, true, true, true, true, true, true, true, true, true, true, true, true, true, true, true, true, true, true, false] rfl rfl (one_of HT_.out (by kernel_rfl)) (by decide) (fun K hK => ?_)
   refine box_step ?hg (N := 5) ?hd (cs := #[.int .i64 0, .int .i64 0, .int .i64 0, .int .i64 0, .int .i64 0, .int .i64 0, .slice none 0 0]) (t := 24) ?hr ?_; (case hd => rfl); (case hg => rfl); (case hr => first | (go_simp; done) | (go_simp; rfl))
   intro gbB hg w14 hbox hb
   have n0_ := Aside0.mk (blk_below (g := gbA) (o := .cells #[.int .i64 a0_0, .int .i64 a0_1, .int .i64 a0_2, .int .i64 a0_3, .int .i64 a0_4, .int .i64 a0_5, .slice A0_6 l0_6.length c0_6] 24 (0, 0)) (by (with_reducible repeat (first | refine blk_drewN ?_ _ | refine blk_drew ?_ | refine blk_alloc ?_ _)); exact BKA.out) hb)
   have n1_ := Aside0.mk (blk_below (g := gbC) (o := .cells #[.int .i64 0, .int .i64 0, .int .i64 0, .int .i64 0, .int .i64 0, .int .i64 0, .slice none 0 0] 24 (0, 0)) (by (with_reducible repeat (first | refine blk_drewN ?_ _ | refine blk_drew ?_ | refine blk_alloc ?_ _)); exact BKC.out) hb)
   have n2_ := Aside0.mk (below_step (by repeat (first | (with_reducible first | exact HB.out | apply below_alloc | apply pw_below_drewN | apply below_drew1 | refine below_set ?_ GEA.out | refine below_set ?_ GEC.out) | exact HB.out)) hb)
   have n3_ := Aside0.mk (hbox)
   have n4_ := Aside0.mk ((by rw [hg]; exact (below_size (by repeat (first | (with_reducible first | exact HB.out | apply below_alloc | apply pw_below_drewN | apply below_drew1 | refine below_set ?_ GEA.out | refine below_set ?_ GEC.out) | exact HB.out))) : w.heap.size ≤ gbB))
   have n5_ := Aside0.mk ((by rw [hg]; exact (below_size (by repeat (first | (with_reducible first | exact HB.out | apply below_alloc | apply pw_below_drewN | apply below_drew1 | refine below_set ?_ GEA.out | refine below_set ?_ GEC.out) | exact HB.out))) : w.heap.size ≤ gbB))
   have n6_ := Aside0.mk ((by rw [hg]; exact Nat.ne_of_lt (blk_lt (g := gbA) (o := .cells #[.int .i64 a0_0, .int .i64 a0_1, .int .i64 a0_2, .int .i64 a0_3, .int .i64 a0_4, .int .i64 a0_5, .slice A0_6 l0_6.length c0_6] 24 (0, 0)) (by (with_reducible repeat (first | refine blk_drewN ?_ _ | refine blk_drew ?_ | refine blk_alloc ?_ _)); exact BKA.out)) : gbA ≠ gbB))
   have n7_ := Aside0.mk ((by rw [hg]; exact Nat.ne_of_gt (blk_lt (g := gbA) (o := .cells #[.int .i64 a0_0, .int .i64 a0_1, .int .i64 a0_2, .int .i64 a0_3, .int .i64 a0_4, .int .i64 a0_5, .slice A0_6 l0_6.length c0_6] 24 (0, 0)) (by (with_reducible repeat (first | refine blk_drewN ?_ _ | refine blk_drew ?_ | refine blk_alloc ?_ _)); exact BKA.out)) : gbB ≠ gbA))
   have n8_ := Aside0.mk ((by rw [hg]; exact Nat.ne_of_lt (blk_lt (g := gbC) (o := .cells #[.int .i64 0, .int .i64 0, .int .i64 0, .int .i64 0, .int .i64 0, .int .i64 0, .slice none 0 0] 24 (0, 0)) (by (with_reducible repeat (first | refine blk_drewN ?_ _ | refine blk_drew ?_ | refine blk_alloc ?_ _)); exact BKC.out)) : gbC ≠ gbB))
   have n9_ := Aside0.mk ((by rw [hg]; exact Nat.ne_of_gt (blk_lt (g := gbC) (o := .cells #[.int .i64 0, .int .i64 0, .int .i64 0, .int .i64 0, .int .i64 0, .int .i64 0, .slice none 0 0] 24 (0, 0)) (by (with_reducible repeat (first | refine blk_drewN ?_ _ | refine blk_drew ?_ | refine blk_alloc ?_ _)); exact BKC.out)) : gbB ≠ gbC))
   clear BKA
   clear BKC
   clear HB
   have BKA := n0_
   have BKC := n1_
   have HB := n2_
   have BKB := n3_
   have GWB := n4_
   have GEB := n5_
   have NBA_B := n6_
   have NBB_A := n7_
   have NBC_B := n8_
   have NBB_C := n9_
   clear n0_ n1_ n2_ n3_ n4_ n5_ n6_ n7_ n8_ n9_
   clear hb hbox hg
   refine hK.out _ _ ⟨(blk_cell BKA.out 0).trans rfl, (blk_cell BKA.out 1).trans rfl, (blk_cell BKA.out 2).trans rfl, (blk_cell BKA.out 3).trans rfl, (blk_cell BKA.out 4).trans rfl, (blk_cell BKA.out 5).trans rfl, (blk_cell BKA.out 6).trans rfl⟩ (fun hHeld => ?_)
   clear hK K
   refine norm_ (a' := ?_) ?_ ?_
   rotate_left
   ·show Act.put _ (some 5) _ = _
    simp only [Act.put, List.setIfInBounds_toArray, List.set_cons_zero, List.set_cons_succ, i64_w, i32_w]
    rfl
   exact norm_ (by first | (simp only [putAll, Act.put, List.setIfInBounds_toArray, List.set_cons_zero, List.set_cons_succ]; done) | (simp only [putAll, Act.put, List.setIfInBounds_toArray, List.set_cons_zero, List.set_cons_succ]; rfl)) (hJ2_6_9_12_15_18_21 (gbB) _ ⟨hHeld, (by (with_reducible repeat (first | refine blk_drewN ?_ _ | refine blk_drew ?_ | refine blk_alloc ?_ _)); exact BKA.out), (by (with_reducible repeat (first | refine blk_drewN ?_ _ | refine blk_drew ?_ | refine blk_alloc ?_ _)); exact BKC.out), (by (with_reducible repeat (first | refine blk_drewN ?_ _ | refine blk_drew ?_ | refine blk_alloc ?_ _)); exact BKB.out), GWB.out, GEB.out, NBA_B.out, NBB_A.out, NBC_B.out, NBB_C.out, (by repeat (first | (with_reducible first | exact HB.out | apply below_alloc | apply pw_below_drewN | apply below_drew1 | refine below_set ?_ GEA.out | refine below_set ?_ GEC.out | refine below_set ?_ GEB.out) | exact HB.out))⟩)
 rintro gbB w14 ⟨hS_, h0_, h1_, h2_, h3_, h4_, h5_, h6_, h7_, h8_, h9_⟩
 have n0_ : Aside0 (w14.heap[gbA]? = some (.cells #[.int .i64 a0_0, .int .i64 a0_1, .int .i64 a0_2, .int .i64 a0_3, .int .i64 a0_4, .int .i64 a0_5, .slice A0_6 l0_6.length c0_6] 24 (0, 0))) := ⟨h0_⟩
 have n1_ : Aside0 (w14.heap[gbC]? = some (.cells #[.int .i64 0, .int .i64 0, .int .i64 0, .int .i64 0, .int .i64 0, .int .i64 0, .slice none 0 0] 24 (0, 0))) := ⟨h1_⟩
 have n2_ : Aside0 (w14.heap[gbB]? = some (.cells #[.int .i64 0, .int .i64 0, .int .i64 0, .int .i64 0, .int .i64 0, .int .i64 0, .slice none 0 0] 24 (0, 0))) := ⟨h2_⟩
 have n3_ : Aside0 (w.heap.size ≤ gbB) := ⟨h3_⟩
 have n4_ : Aside0 (w.heap.size ≤ gbB) := ⟨h4_⟩
 have n5_ : Aside0 (gbA ≠ gbB) := ⟨h5_⟩
 have n6_ : Aside0 (gbB ≠ gbA) := ⟨h6_⟩
 have n7_ : Aside0 (gbC ≠ gbB) := ⟨h7_⟩
 have n8_ : Aside0 (gbB ≠ gbC) := ⟨h8_⟩
 have n9_ : Aside0 (Below w.heap.size w w14) := ⟨h9_⟩
 clear BKA
 clear BKC
 clear HB
 clear h0_ h1_ h2_ h3_ h4_ h5_ h6_ h7_ h8_ h9_
 have BKA := n0_
 have BKC := n1_
 have BKB := n2_
 have GWB := n3_
 have GEB := n4_
 have NBA_B := n5_
 have NBB_A := n6_
 have NBC_B := n7_
 have NBB_C := n8_
 have HB := n9_
 clear n0_ n1_ n2_ n3_ n4_ n5_ n6_ n7_ n8_ n9_
 have hHeld : w14.cell? ⟨gbA, 0, none⟩ = some (.int .i64 a0_0) ∧ w14.cell? ⟨gbA, 1, none⟩ = some (.int .i64 a0_1) ∧ w14.cell? ⟨gbA, 2, none⟩ = some (.int .i64 a0_2) ∧ w14.cell? ⟨gbA, 3, none⟩ = some (.int .i64 a0_3) ∧ w14.cell? ⟨gbA, 4, none⟩ = some (.int .i64 a0_4) ∧ w14.cell? ⟨gbA, 5, none⟩ = some (.int .i64 a0_5) ∧ w14.cell? ⟨gbA, 6, none⟩ = some (.slice A0_6 l0_6.length c0_6) := hS_
 refine norm_ (a' := ?_) ?_ ?_
 rotate_left
 ·simp only [putAll, Act.put, List.setIfInBounds_toArray, List.set_cons_zero, List.set_cons_succ]
  rfl
 refine one_ (i := 22) (N := none) #[true, true, true, true, true, true, true, true, true, true, true, true, true, true, true, true, true, true, true, true, true, true, true] rfl rfl (one_of HT_.out (by kernel_rfl)) (by decide) (fun K hK => ?_)
 have hs15 : w14.cell? ⟨gbB, 0, none⟩ = some (.int .i64 0) := (blk_cell BKB.out 0).trans rfl
 have hfs15 := blk_frozen BKB.out 0
 have hns15_0 := NBA_B.out
 have hns15_1 := NBC_B.out
 have hms15_0 := NBB_A.out
 have hms15_1 := NBB_C.out
 have hs16 : w14.cell? ⟨gbB, 1, none⟩ = some (.int .i64 0) := (blk_cell BKB.out 1).trans rfl
 have hfs16 := blk_frozen BKB.out 1
 have hns16_0 := NBA_B.out
 have hns16_1 := NBC_B.out
 have hms16_0 := NBB_A.out
 have hms16_1 := NBB_C.out
 have hs17 : w14.cell? ⟨gbB, 2, none⟩ = some (.int .i64 0) := (blk_cell BKB.out 2).trans rfl
 have hfs17 := blk_frozen BKB.out 2
 have hns17_0 := NBA_B.out
 have hns17_1 := NBC_B.out
 have hms17_0 := NBB_A.out
 have hms17_1 := NBB_C.out
 have hs18 : w14.cell? ⟨gbB, 3, none⟩ = some (.int .i64 0) := (blk_cell BKB.out 3).trans rfl
 have hfs18 := blk_frozen BKB.out 3
 have hns18_0 := NBA_B.out
 have hns18_1 := NBC_B.out
 have hms18_0 := NBB_A.out
 have hms18_1 := NBB_C.out
 have hs19 : w14.cell? ⟨gbB, 4, none⟩ = some (.int .i64 0) := (blk_cell BKB.out 4).trans rfl
 have hfs19 := blk_frozen BKB.out 4
 have hns19_0 := NBA_B.out
 have hns19_1 := NBC_B.out
 have hms19_0 := NBB_A.out
 have hms19_1 := NBB_C.out
 have hs20 : w14.cell? ⟨gbB, 5, none⟩ = some (.int .i64 0) := (blk_cell BKB.out 5).trans rfl
 have hfs20 := blk_frozen BKB.out 5
 have hns20_0 := NBA_B.out
 have hns20_1 := NBC_B.out
 have hms20_0 := NBB_A.out
 have hms20_1 := NBB_C.out
 have hs21 : w14.cell? ⟨gbB, 6, none⟩ = some (.slice none 0 0) := (blk_cell BKB.out 6).trans rfl
 have hfs21 := blk_frozen BKB.out 6
 have hns21_0 := NBA_B.out
 have hns21_1 := NBC_B.out
 have hms21_0 := NBB_A.out
 have hms21_1 := NBB_C.out
 refine skip_ (w1 := ?_) (by rfl) rfl ?_ ?_
 rotate_left
 ·go_simp
  rfl
 refine hK.out _ _ ⟨((cell_far (p := ⟨gbB, _, none⟩) NBA_B.out _).trans (((cell_far (p := ⟨gbB, _, none⟩) NBA_B.out _).trans (((cell_far (p := ⟨gbB, _, none⟩) NBA_B.out _).trans (((cell_far (p := ⟨gbB, _, none⟩) NBA_B.out _).trans (((cell_far (p := ⟨gbB, _, none⟩) NBA_B.out _).trans (((cell_far (p := ⟨gbB, _, none⟩) NBA_B.out _).trans (((cell_far (p := ⟨gbB, _, none⟩) NBA_B.out _).trans (hHeld.1)))))))))))))), ((cell_far (p := ⟨gbB, _, none⟩) NBA_B.out _).trans (((cell_far (p := ⟨gbB, _, none⟩) NBA_B.out _).trans (((cell_far (p := ⟨gbB, _, none⟩) NBA_B.out _).trans (((cell_far (p := ⟨gbB, _, none⟩) NBA_B.out _).trans (((cell_far (p := ⟨gbB, _, none⟩) NBA_B.out _).trans (((cell_far (p := ⟨gbB, _, none⟩) NBA_B.out _).trans (((cell_far (p := ⟨gbB, _, none⟩) NBA_B.out _).trans (hHeld.2.1)))))))))))))), ((cell_far (p := ⟨gbB, _, none⟩) NBA_B.out _).trans (((cell_far (p := ⟨gbB, _, none⟩) NBA_B.out _).trans (((cell_far (p := ⟨gbB, _, none⟩) NBA_B.out _).trans (((cell_far (p := ⟨gbB, _, none⟩) NBA_B.out _).trans (((cell_far (p := ⟨gbB, _, none⟩) NBA_B.out _).trans (((cell_far (p := ⟨gbB, _, none⟩) NBA_B.out _).trans (((cell_far (p := ⟨gbB, _, none⟩) NBA_B.out _).trans (hHeld.2.2.1)))))))))))))), ((cell_far (p := ⟨gbB, _, none⟩) NBA_B.out _).trans (((cell_far (p := ⟨gbB, _, none⟩) NBA_B.out _).trans (((cell_far (p := ⟨gbB, _, none⟩) NBA_B.out _).trans (((cell_far (p := ⟨gbB, _, none⟩) NBA_B.out _).trans (((cell_far (p := ⟨gbB, _, none⟩) NBA_B.out _).trans (((cell_far (p := ⟨gbB, _, none⟩) NBA_B.out _).trans (((cell_far (p := ⟨gbB, _, none⟩) NBA_B.out _).trans (hHeld.2.2.2.1)))))))))))))), ((cell_far (p := ⟨gbB, _, none⟩) NBA_B.out _).trans (((cell_far (p := ⟨gbB, _, none⟩) NBA_B.out _).trans (((cell_far (p := ⟨gbB, _, none⟩) NBA_B.out _).trans (((cell_far (p := ⟨gbB, _, none⟩) NBA_B.out _).trans (((cell_far (p := ⟨gbB, _, none⟩) NBA_B.out _).trans (((cell_far (p := ⟨gbB, _, none⟩) NBA_B.out _).trans (((cell_far (p := ⟨gbB, _, none⟩) NBA_B.out _).trans (hHeld.2.2.2.2.1)))))))))))))), ((cell_far (p := ⟨gbB, _, none⟩) NBA_B.out _).trans (((cell_far (p := ⟨gbB, _, none⟩) NBA_B.out _).trans (((cell_far (p := ⟨gbB, _, none⟩) NBA_B.out _).trans (((cell_far (p := ⟨gbB, _, none⟩) NBA_B.out _).trans (((cell_far (p := ⟨gbB, _, none⟩) NBA_B.out _).trans (((cell_far (p := ⟨gbB, _, none⟩) NBA_B.out _).trans (((cell_far (p := ⟨gbB, _, none⟩) NBA_B.out _).trans (hHeld.2.2.2.2.2.1)))))))))))))), ((cell_far (p := ⟨gbB, _, none⟩) NBA_B.out _).trans (((cell_far (p := ⟨gbB, _, none⟩) NBA_B.out _).trans (((cell_far (p := ⟨gbB, _, none⟩) NBA_B.out _).trans (((cell_far (p := ⟨gbB, _, none⟩) NBA_B.out _).trans (((cell_far (p := ⟨gbB, _, none⟩) NBA_B.out _).trans (((cell_far (p := ⟨gbB, _, none⟩) NBA_B.out _).trans (((cell_far (p := ⟨gbB, _, none⟩) NBA_B.out _).trans (hHeld.2.2.2.2.2.2))))))))))))))⟩ (fun hHeld => ?_)
 clear hK K
 refine done_ (done_of HT_.out (by kernel_rfl)) ?_
 try go_wp2_with (first | ((with_reducible refine gate_callee (f := 40) rfl ?_); refine goesL_ (some 35) rfl rfl Tryd.func40 (by kernel_rfl) rfl #[.slice A1 l1.length c1] rfl (by (try simp only [List.map_toArray, List.map_cons, List.map_nil]); first | done | rfl | (simp only [List.length_drop, List.length_take]; rfl)) ?_; (with_reducible refine (billetlaw08_Binds.calls k _ _ l1 tF _ ?side1 ?side2 A9.out).mono ?_); (case side1 => exact Kd.C_below HR1.out (by repeat (first | (with_reducible first | exact HB.out | apply below_alloc | apply pw_below_drewN | apply below_drew1 | refine below_set ?_ GEA.out | refine below_set ?_ GEC.out | refine below_set ?_ GEB.out) | exact HB.out))); (case side2 => exact HC1.out); rintro e w22 ⟨vBP, rfl, ho0, hb⟩; refine ⟨_, rfl, ?_⟩; have n0_ := Aside0.mk (Kd.R_lower ho0 (below_size (by repeat (first | (with_reducible first | exact HB.out | apply below_alloc | apply pw_below_drewN | apply below_drew1 | refine below_set ?_ GEA.out | refine below_set ?_ GEC.out | refine below_set ?_ GEB.out) | exact HB.out)))); have n1_ := Aside0.mk (blk_below (g := gbA) (o := .cells #[.int .i64 a0_0, .int .i64 a0_1, .int .i64 a0_2, .int .i64 a0_3, .int .i64 a0_4, .int .i64 a0_5, .slice A0_6 l0_6.length c0_6] 24 (0, 0)) (by (with_reducible repeat (first | refine blk_drewN ?_ _ | refine blk_drew ?_ | refine blk_alloc ?_ _)); refine blk_far ?_ NBA_B.out _; (with_reducible repeat (first | refine blk_drewN ?_ _ | refine blk_drew ?_ | refine blk_alloc ?_ _)); refine blk_far ?_ NBA_B.out _; (with_reducible repeat (first | refine blk_drewN ?_ _ | refine blk_drew ?_ | refine blk_alloc ?_ _)); refine blk_far ?_ NBA_B.out _; (with_reducible repeat (first | refine blk_drewN ?_ _ | refine blk_drew ?_ | refine blk_alloc ?_ _)); refine blk_far ?_ NBA_B.out _; (with_reducible repeat (first | refine blk_drewN ?_ _ | refine blk_drew ?_ | refine blk_alloc ?_ _)); refine blk_far ?_ NBA_B.out _; (with_reducible repeat (first | refine blk_drewN ?_ _ | refine blk_drew ?_ | refine blk_alloc ?_ _)); refine blk_far ?_ NBA_B.out _; (with_reducible repeat (first | refine blk_drewN ?_ _ | refine blk_drew ?_ | refine blk_alloc ?_ _)); refine blk_far ?_ NBA_B.out _; (with_reducible repeat (first | refine blk_drewN ?_ _ | refine blk_drew ?_ | refine blk_alloc ?_ _)); exact BKA.out) hb); have n2_ := Aside0.mk (blk_below (g := gbC) (o := .cells #[.int .i64 0, .int .i64 0, .int .i64 0, .int .i64 0, .int .i64 0, .int .i64 0, .slice none 0 0] 24 (0, 0)) (by (with_reducible repeat (first | refine blk_drewN ?_ _ | refine blk_drew ?_ | refine blk_alloc ?_ _)); refine blk_far ?_ NBC_B.out _; (with_reducible repeat (first | refine blk_drewN ?_ _ | refine blk_drew ?_ | refine blk_alloc ?_ _)); refine blk_far ?_ NBC_B.out _; (with_reducible repeat (first | refine blk_drewN ?_ _ | refine blk_drew ?_ | refine blk_alloc ?_ _)); refine blk_far ?_ NBC_B.out _; (with_reducible repeat (first | refine blk_drewN ?_ _ | refine blk_drew ?_ | refine blk_alloc ?_ _)); refine blk_far ?_ NBC_B.out _; (with_reducible repeat (first | refine blk_drewN ?_ _ | refine blk_drew ?_ | refine blk_alloc ?_ _)); refine blk_far ?_ NBC_B.out _; (with_reducible repeat (first | refine blk_drewN ?_ _ | refine blk_drew ?_ | refine blk_alloc ?_ _)); refine blk_far ?_ NBC_B.out _; (with_reducible repeat (first | refine blk_drewN ?_ _ | refine blk_drew ?_ | refine blk_alloc ?_ _)); refine blk_far ?_ NBC_B.out _; (with_reducible repeat (first | refine blk_drewN ?_ _ | refine blk_drew ?_ | refine blk_alloc ?_ _)); exact BKC.out) hb); have n3_ := Aside0.mk (blk_below (g := gbB) (o := .cells #[.int .i64 (wrap64 (1 + tH)), .int .i64 tI, .int .i64 tJ, .int .i64 tK, .int .i64 tL, .int .i64 (wrap64 (tM - 1000)), .slice none 0 0] 24 (0, 0)) (by (with_reducible repeat (first | refine blk_drewN ?_ _ | refine blk_drew ?_ | refine blk_alloc ?_ _)); refine blk_put (cs := #[.int .i64 (wrap64 (1 + tH)), .int .i64 tI, .int .i64 tJ, .int .i64 tK, .int .i64 tL, .int .i64 (wrap64 (tM - 1000)), .slice none 0 0]) ?_ 6 _ rfl; (with_reducible repeat (first | refine blk_drewN ?_ _ | refine blk_drew ?_ | refine blk_alloc ?_ _)); refine blk_put (cs := #[.int .i64 (wrap64 (1 + tH)), .int .i64 tI, .int .i64 tJ, .int .i64 tK, .int .i64 tL, .int .i64 0, .slice none 0 0]) ?_ 5 _ rfl; (with_reducible repeat (first | refine blk_drewN ?_ _ | refine blk_drew ?_ | refine blk_alloc ?_ _)); refine blk_put (cs := #[.int .i64 (wrap64 (1 + tH)), .int .i64 tI, .int .i64 tJ, .int .i64 tK, .int .i64 0, .int .i64 0, .slice none 0 0]) ?_ 4 _ rfl; (with_reducible repeat (first | refine blk_drewN ?_ _ | refine blk_drew ?_ | refine blk_alloc ?_ _)); refine blk_put (cs := #[.int .i64 (wrap64 (1 + tH)), .int .i64 tI, .int .i64 tJ, .int .i64 0, .int .i64 0, .int .i64 0, .slice none 0 0]) ?_ 3 _ rfl; (with_reducible repeat (first | refine blk_drewN ?_ _ | refine blk_drew ?_ | refine blk_alloc ?_ _)); refine blk_put (cs := #[.int .i64 (wrap64 (1 + tH)), .int .i64 tI, .int .i64 0, .int .i64 0, .int .i64 0, .int .i64 0, .slice none 0 0]) ?_ 2 _ rfl; (with_reducible repeat (first | refine blk_drewN ?_ _ | refine blk_drew ?_ | refine blk_alloc ?_ _)); refine blk_put (cs := #[.int .i64 (wrap64 (1 + tH)), .int .i64 0, .int .i64 0, .int .i64 0, .int .i64 0, .int .i64 0, .slice none 0 0]) ?_ 1 _ rfl; (with_reducible repeat (first | refine blk_drewN ?_ _ | refine blk_drew ?_ | refine blk_alloc ?_ _)); refine blk_put (cs := #[.int .i64 0, .int .i64 0, .int .i64 0, .int .i64 0, .int .i64 0, .int .i64 0, .slice none 0 0]) ?_ 0 _ rfl; (with_reducible repeat (first | refine blk_drewN ?_ _ | refine blk_drew ?_ | refine blk_alloc ?_ _)); exact BKB.out) hb); have n4_ := Aside0.mk (below_step (by repeat (first | (with_reducible first | exact HB.out | apply below_alloc | apply pw_below_drewN | apply below_drew1 | refine below_set ?_ GEA.out | refine below_set ?_ GEC.out | refine below_set ?_ GEB.out) | exact HB.out)) hb); clear BKA; clear BKC; clear BKB; clear HB; have HOBR := n0_; have BKA := n1_; have BKC := n2_; have BKB := n3_; have HB := n4_; clear n0_ n1_ n2_ n3_ n4_; (try clear hb); (try clear hb2); (try clear hk); (try clear hi); (try clear hge); (try clear ho0)))
 go_loopg [7] k (fun kq v7 w' => ∃ (x7_1 : Int) (xE_1 : List (S42)) (uE : Value), v7 = .int .i64 x7_1 ∧ Aside0 (billetlaw16_Fit.l0 kq tF x7_1 (wrap64 (1 + tH)) tI tJ tK tL (wrap64 (tM - 1000)) xE_1 = some (r1, r2, r3, r4, r5, r6, r7)) ∧ Aside0 (kq ≤ k) ∧ Aside0 (Kd.R k42 42 w' w.heap.size (fun k_ => some k_ ≠ (uE : Value).ownBlock) vBP tF) ∧ Aside0 (Kd.R k42 42 w' w.heap.size (fun k_ => some k_ ≠ (vBP : Value).ownBlock) uE xE_1) ∧ Aside0 (w'.heap[gbA]? = some (.cells #[.int .i64 a0_0, .int .i64 a0_1, .int .i64 a0_2, .int .i64 a0_3, .int .i64 a0_4, .int .i64 a0_5, (.slice A0_6 l0_6.length c0_6)] 24 (0, 0))) ∧ Aside0 (w'.heap[gbC]? = some (.cells #[.int .i64 0, .int .i64 0, .int .i64 0, .int .i64 0, .int .i64 0, .int .i64 0, (.slice none 0 0)] 24 (0, 0))) ∧ Aside0 (w'.heap[gbB]? = some (.cells #[.int .i64 (wrap64 (1 + tH)), .int .i64 tI, .int .i64 tJ, .int .i64 tK, .int .i64 tL, .int .i64 (wrap64 (tM - 1000)), uE] 24 (0, 0))) ∧ Aside0 (Below w.heap.size w w'))
 case atStart => exact ⟨(0), (([] : List (S42))), (.slice none 0 0), (by first | rfl | (simp; done) | (simp [*]; done)), H', ⟨Nat.le_refl _⟩, ⟨by (with_reducible repeat (first | apply Kd.R_alloc | apply Kd.R_drewN | apply Kd.R_drew)); exact Kd.R_mono HOBR.out (fun _ hk => (by simp [Value.ownBlock]))⟩, ⟨by first | exact Kd.R_nil _ _ _ _ _ | exact Kd.N_nil _ _ _ _ _ | exact Kd.V_nil _ _ _ _ _ | exact Kd.Q_nil _ _ _ _ _ | exact Kd.S_nil _ _ _ _ _⟩, ⟨by (with_reducible repeat (first | refine blk_drewN ?_ _ | refine blk_drew ?_ | refine blk_alloc ?_ _)); exact BKA.out⟩, ⟨by (with_reducible repeat (first | refine blk_drewN ?_ _ | refine blk_drew ?_ | refine blk_alloc ?_ _)); exact BKC.out⟩, ⟨by (with_reducible repeat (first | refine blk_drewN ?_ _ | refine blk_drew ?_ | refine blk_alloc ?_ _)); exact BKB.out⟩, ⟨by repeat (first | (with_reducible first | exact HB.out | apply below_alloc | apply pw_below_drewN | apply below_drew1 | refine below_set ?_ GEA.out | refine below_set ?_ GEC.out | refine below_set ?_ GEB.out) | exact HB.out)⟩⟩
 case round =>
  clear H'
  try clear c1
  try clear p2
  try clear c4
  try clear p6
  try clear c16
  obtain ⟨x7_1, xE_1, uE, rfl, HA, HK1, HO_6, HO_E, BKA, BKC, BKB, HB⟩ := hrel
  cases gk with
  | zero => exact absurd HA.out (by simp [billetlaw16_Fit.l0])
  | succ k1 =>
   have H := HA.out
   clear HA
   simp only [billetlaw16_Fit.l0] at H
   by_cases c23 : x7_1 < (tF.length : Int)
   ·rw [if_pos c23] at H
    have c23b0 : decide (x7_1 < (tF.length : Int)) = true := decide_eq_true c23
    clear c23
    by_cases c24 : 0 ≤ x7_1
    ·rw [if_pos c24] at H
     have c24b0 : decide (0 ≤ x7_1) = true := decide_eq_true c24
     clear c24
     have H' := Aside0.mk H
     clear H
     obtain ⟨Ao25, co25, eo25⟩ := Kd.R_slice HO_6.out
     subst eo25
     have pO : 0 ≤ (x7_1 : Int) := of_decide_eq_true (by first | (with_reducible assumption) | assumption)
     have qO : x7_1 < (tF.length : Int) := of_decide_eq_true (by first | (with_reducible assumption) | assumption)
     obtain ⟨adO, eO, hxO_0, hxO_1, hxO_2⟩ := at_T42 (Kd.R_reads' HO_6.out).2.2 x7_1 pO qO
     cases eO
     replace pO := eq_true pO
     (try replace pOz := eq_true pOz)
     replace qO := eq_true qO
     (try replace qOz := eq_true qOz)
     go_wp2_with (first | ((with_reducible refine gate_dst (N := 8) rfl ?_); refine box_event ?hg (N := 8) ?hd (cs := #[.string (⟨#[]⟩ : ByteArray), .string (⟨#[]⟩ : ByteArray), .int .i64 0]) (t := 42) ?hr ?_; (case hd => rfl); (case hg => rfl); (case hr => first | (go_simp; done) | (go_simp; rfl)); intro gbD hg w26 hbox hb; have n0_ := Aside0.mk (Kd.R_below (Kd.R_elderB (by (with_reducible repeat (first | apply Kd.R_alloc | apply Kd.R_drewN | apply Kd.R_drew)); exact HO_6.out) gbD (Nat.le_of_eq hg.symm)) hb); have n1_ := Aside0.mk (Kd.R_below (Kd.R_elderB (by (with_reducible repeat (first | apply Kd.R_alloc | apply Kd.R_drewN | apply Kd.R_drew)); exact HO_E.out) gbD (Nat.le_of_eq hg.symm)) hb); have n2_ := Aside0.mk (blk_below (g := gbA) (o := .cells #[.int .i64 a0_0, .int .i64 a0_1, .int .i64 a0_2, .int .i64 a0_3, .int .i64 a0_4, .int .i64 a0_5, .slice A0_6 l0_6.length c0_6] 24 (0, 0)) (by (with_reducible repeat (first | refine blk_drewN ?_ _ | refine blk_drew ?_ | refine blk_alloc ?_ _)); exact BKA.out) hb); have n3_ := Aside0.mk (blk_below (g := gbC) (o := .cells #[.int .i64 0, .int .i64 0, .int .i64 0, .int .i64 0, .int .i64 0, .int .i64 0, .slice none 0 0] 24 (0, 0)) (by (with_reducible repeat (first | refine blk_drewN ?_ _ | refine blk_drew ?_ | refine blk_alloc ?_ _)); exact BKC.out) hb); have n4_ := Aside0.mk (blk_below (g := gbB) (o := .cells #[.int .i64 (wrap64 (1 + tH)), .int .i64 tI, .int .i64 tJ, .int .i64 tK, .int .i64 tL, .int .i64 (wrap64 (tM - 1000)), uE] 24 (0, 0)) (by (with_reducible repeat (first | refine blk_drewN ?_ _ | refine blk_drew ?_ | refine blk_alloc ?_ _)); exact BKB.out) hb); have n5_ := Aside0.mk (below_step (by repeat (first | (with_reducible first | exact HB.out | apply below_alloc | apply pw_below_drewN | apply below_drew1 | refine below_set ?_ GEA.out | refine below_set ?_ GEC.out | refine below_set ?_ GEB.out) | exact HB.out)) hb); have n6_ := Aside0.mk (hbox); have n7_ := Aside0.mk ((by rw [hg]; exact (below_size (by repeat (first | (with_reducible first | exact HB.out | apply below_alloc | apply pw_below_drewN | apply below_drew1 | refine below_set ?_ GEA.out | refine below_set ?_ GEC.out | refine below_set ?_ GEB.out) | exact HB.out))) : w.heap.size ≤ gbD)); have n8_ := Aside0.mk ((by rw [hg]; exact (below_size (by repeat (first | (with_reducible first | exact HB.out | apply below_alloc | apply pw_below_drewN | apply below_drew1 | refine below_set ?_ GEA.out | refine below_set ?_ GEC.out | refine below_set ?_ GEB.out) | exact HB.out))) : w.heap.size ≤ gbD)); have n9_ := Aside0.mk ((by rw [hg]; exact Nat.ne_of_lt (blk_lt (g := gbA) (o := .cells #[.int .i64 a0_0, .int .i64 a0_1, .int .i64 a0_2, .int .i64 a0_3, .int .i64 a0_4, .int .i64 a0_5, .slice A0_6 l0_6.length c0_6] 24 (0, 0)) (by (with_reducible repeat (first | refine blk_drewN ?_ _ | refine blk_drew ?_ | refine blk_alloc ?_ _)); exact BKA.out)) : gbA ≠ gbD)); have n10_ := Aside0.mk ((by rw [hg]; exact Nat.ne_of_gt (blk_lt (g := gbA) (o := .cells #[.int .i64 a0_0, .int .i64 a0_1, .int .i64 a0_2, .int .i64 a0_3, .int .i64 a0_4, .int .i64 a0_5, .slice A0_6 l0_6.length c0_6] 24 (0, 0)) (by (with_reducible repeat (first | refine blk_drewN ?_ _ | refine blk_drew ?_ | refine blk_alloc ?_ _)); exact BKA.out)) : gbD ≠ gbA)); have n11_ := Aside0.mk ((by rw [hg]; exact Nat.ne_of_lt (blk_lt (g := gbC) (o := .cells #[.int .i64 0, .int .i64 0, .int .i64 0, .int .i64 0, .int .i64 0, .int .i64 0, .slice none 0 0] 24 (0, 0)) (by (with_reducible repeat (first | refine blk_drewN ?_ _ | refine blk_drew ?_ | refine blk_alloc ?_ _)); exact BKC.out)) : gbC ≠ gbD)); have n12_ := Aside0.mk ((by rw [hg]; exact Nat.ne_of_gt (blk_lt (g := gbC) (o := .cells #[.int .i64 0, .int .i64 0, .int .i64 0, .int .i64 0, .int .i64 0, .int .i64 0, .slice none 0 0] 24 (0, 0)) (by (with_reducible repeat (first | refine blk_drewN ?_ _ | refine blk_drew ?_ | refine blk_alloc ?_ _)); exact BKC.out)) : gbD ≠ gbC)); have n13_ := Aside0.mk ((by rw [hg]; exact Nat.ne_of_lt (blk_lt (g := gbB) (o := .cells #[.int .i64 (wrap64 (1 + tH)), .int .i64 tI, .int .i64 tJ, .int .i64 tK, .int .i64 tL, .int .i64 (wrap64 (tM - 1000)), uE] 24 (0, 0)) (by (with_reducible repeat (first | refine blk_drewN ?_ _ | refine blk_drew ?_ | refine blk_alloc ?_ _)); exact BKB.out)) : gbB ≠ gbD)); have n14_ := Aside0.mk ((by rw [hg]; exact Nat.ne_of_gt (blk_lt (g := gbB) (o := .cells #[.int .i64 (wrap64 (1 + tH)), .int .i64 tI, .int .i64 tJ, .int .i64 tK, .int .i64 tL, .int .i64 (wrap64 (tM - 1000)), uE] 24 (0, 0)) (by (with_reducible repeat (first | refine blk_drewN ?_ _ | refine blk_drew ?_ | refine blk_alloc ?_ _)); exact BKB.out)) : gbD ≠ gbB)); clear HO_6; clear HO_E; clear BKA; clear BKC; clear BKB; clear HB; have HO_6 := n0_; have HO_E := n1_; have BKA := n2_; have BKC := n3_; have BKB := n4_; have HB := n5_; have BKD := n6_; have GWD := n7_; have GED := n8_; have NBA_D := n9_; have NBD_A := n10_; have NBC_D := n11_; have NBD_C := n12_; have NBB_D := n13_; have NBD_B := n14_; clear n0_ n1_ n2_ n3_ n4_ n5_ n6_ n7_ n8_ n9_ n10_ n11_ n12_ n13_ n14_; clear hb hbox hg; have hnb27 := NBD_A.out; have hnc27 := NBA_D.out; have hnb28 := NBD_C.out; have hnc28 := NBC_D.out; have hnb29 := NBD_B.out; have hnc29 := NBB_D.out; have hcz30_0 : w26.cell? ⟨gbD, 0, none⟩ = some (.string (⟨#[]⟩ : ByteArray)) := (blk_cell BKD.out 0).trans rfl; have hcz30_1 : w26.cell? ⟨gbD, 1, none⟩ = some (.string (⟨#[]⟩ : ByteArray)) := (blk_cell BKD.out 1).trans rfl; have hcz30_2 : w26.cell? ⟨gbD, 2, none⟩ = some (.int .i64 0) := (blk_cell BKD.out 2).trans rfl; have hfz30_0 := blk_frozen BKD.out 0; have hfz30_1 := blk_frozen BKD.out 1; have hfz30_2 := blk_frozen BKD.out 2))
     go_loopg [9, 10, 11] k1 (fun kq v9 v10 v11 w' => ∃ (x9_2 : List (S42)) (x10_2 : Bool) (x11_2 : Int), v10 = .bool x10_2 ∧ v11 = .int .i64 x11_2 ∧ Aside0 (billetlaw16_Fit.l1 kq tF x7_1 x9_2 x10_2 x11_2 (wrap64 (1 + tH)) tI tJ tK tL (wrap64 (tM - 1000)) xE_1 ((rd_T42 tF x7_1).f0) ((rd_T42 tF x7_1).f1) (wrap64 (((rd_T42 tF x7_1).f2) + 1)) = some (r1, r2, r3, r4, r5, r6, r7)) ∧ Aside0 (kq ≤ k1) ∧ Aside0 (Kd.R k42 42 w' w.heap.size (fun k_ => some k_ ≠ (v9 : Value).ownBlock ∧ some k_ ≠ (uE : Value).ownBlock ∧ k_ ≠ gbD) (.slice (some adO) tF.length co25) tF) ∧ Aside0 (Kd.R k42 42 w' w.heap.size (fun k_ => some k_ ≠ ((.slice (some adO) tF.length co25) : Value).ownBlock ∧ some k_ ≠ (uE : Value).ownBlock ∧ k_ ≠ gbD) v9 x9_2) ∧ Aside0 (Kd.R k42 42 w' w.heap.size (fun k_ => some k_ ≠ ((.slice (some adO) tF.length co25) : Value).ownBlock ∧ some k_ ≠ (v9 : Value).ownBlock ∧ k_ ≠ gbD) uE xE_1) ∧ Aside0 (w'.heap[gbA]? = some (.cells #[.int .i64 a0_0, .int .i64 a0_1, .int .i64 a0_2, .int .i64 a0_3, .int .i64 a0_4, .int .i64 a0_5, (.slice A0_6 l0_6.length c0_6)] 24 (0, 0))) ∧ Aside0 (w'.heap[gbC]? = some (.cells #[.int .i64 0, .int .i64 0, .int .i64 0, .int .i64 0, .int .i64 0, .int .i64 0, (.slice none 0 0)] 24 (0, 0))) ∧ Aside0 (w'.heap[gbB]? = some (.cells #[.int .i64 (wrap64 (1 + tH)), .int .i64 tI, .int .i64 tJ, .int .i64 tK, .int .i64 tL, .int .i64 (wrap64 (tM - 1000)), uE] 24 (0, 0))) ∧ Aside0 (w'.heap[gbD]? = some (.cells #[.string ((rd_T42 tF x7_1).f0), .string ((rd_T42 tF x7_1).f1), .int .i64 (wrap64 (((rd_T42 tF x7_1).f2) + 1))] 42 (0, 0))) ∧ Aside0 (Below w.heap.size w w'))
     case atStart => exact ⟨(([] : List (S42))), (false), (0), (by first | rfl | (simp; done) | (simp [*]; done)), (by first | rfl | (simp; done) | (simp [*]; done)), H', ⟨Nat.le_refl _⟩, ⟨by (with_reducible repeat (first | apply Kd.R_alloc | apply Kd.R_drewN | apply Kd.R_drew)); exact Kd.R_mono (Kd.R_far (p := ⟨gbD, 2, none⟩) (Kd.R_far (p := ⟨gbD, 2, none⟩) (Kd.R_far (p := ⟨gbD, 1, none⟩) (Kd.R_far (p := ⟨gbD, 0, none⟩) (Kd.R_mono HO_6.out (fun k_ hk => (⟨hk, hk.2⟩ : _ ∧ k_ ≠ gbD))) (fun _ hk => hk.2) (.string ((rd_T42 tF x7_1).f0))) (fun _ hk => hk.2) (.string ((rd_T42 tF x7_1).f1))) (fun _ hk => hk.2) (.int .i64 ((rd_T42 tF x7_1).f2))) (fun _ hk => hk.2) (.int .i64 (wrap64 (((rd_T42 tF x7_1).f2) + 1)))) (fun _ hk => ⟨(by simp [Value.ownBlock]), ⟨hk.1.1, hk.1.2⟩⟩)⟩, ⟨by first | exact Kd.R_nil _ _ _ _ _ | exact Kd.N_nil _ _ _ _ _ | exact Kd.V_nil _ _ _ _ _ | exact Kd.Q_nil _ _ _ _ _ | exact Kd.S_nil _ _ _ _ _⟩, ⟨by (with_reducible repeat (first | apply Kd.R_alloc | apply Kd.R_drewN | apply Kd.R_drew)); exact Kd.R_mono (Kd.R_far (p := ⟨gbD, 2, none⟩) (Kd.R_far (p := ⟨gbD, 2, none⟩) (Kd.R_far (p := ⟨gbD, 1, none⟩) (Kd.R_far (p := ⟨gbD, 0, none⟩) (Kd.R_mono HO_E.out (fun k_ hk => (⟨hk, hk.2⟩ : _ ∧ k_ ≠ gbD))) (fun _ hk => hk.2) (.string ((rd_T42 tF x7_1).f0))) (fun _ hk => hk.2) (.string ((rd_T42 tF x7_1).f1))) (fun _ hk => hk.2) (.int .i64 ((rd_T42 tF x7_1).f2))) (fun _ hk => hk.2) (.int .i64 (wrap64 (((rd_T42 tF x7_1).f2) + 1)))) (fun _ hk => ⟨hk.1.1, ⟨(by simp [Value.ownBlock]), hk.1.2⟩⟩)⟩, ⟨by (with_reducible repeat (first | refine blk_drewN ?_ _ | refine blk_drew ?_ | refine blk_alloc ?_ _)); refine blk_far ?_ NBA_D.out _; (with_reducible repeat (first | refine blk_drewN ?_ _ | refine blk_drew ?_ | refine blk_alloc ?_ _)); refine blk_far ?_ NBA_D.out _; (with_reducible repeat (first | refine blk_drewN ?_ _ | refine blk_drew ?_ | refine blk_alloc ?_ _)); refine blk_far ?_ NBA_D.out _; (with_reducible repeat (first | refine blk_drewN ?_ _ | refine blk_drew ?_ | refine blk_alloc ?_ _)); refine blk_far ?_ NBA_D.out _; (with_reducible repeat (first | refine blk_drewN ?_ _ | refine blk_drew ?_ | refine blk_alloc ?_ _)); exact BKA.out⟩, ⟨by (with_reducible repeat (first | refine blk_drewN ?_ _ | refine blk_drew ?_ | refine blk_alloc ?_ _)); refine blk_far ?_ NBC_D.out _; (with_reducible repeat (first | refine blk_drewN ?_ _ | refine blk_drew ?_ | refine blk_alloc ?_ _)); refine blk_far ?_ NBC_D.out _; (with_reducible repeat (first | refine blk_drewN ?_ _ | refine blk_drew ?_ | refine blk_alloc ?_ _)); refine blk_far ?_ NBC_D.out _; (with_reducible repeat (first | refine blk_drewN ?_ _ | refine blk_drew ?_ | refine blk_alloc ?_ _)); refine blk_far ?_ NBC_D.out _; (with_reducible repeat (first | refine blk_drewN ?_ _ | refine blk_drew ?_ | refine blk_alloc ?_ _)); exact BKC.out⟩, ⟨by (with_reducible repeat (first | refine blk_drewN ?_ _ | refine blk_drew ?_ | refine blk_alloc ?_ _)); refine blk_far ?_ NBB_D.out _; (with_reducible repeat (first | refine blk_drewN ?_ _ | refine blk_drew ?_ | refine blk_alloc ?_ _)); refine blk_far ?_ NBB_D.out _; (with_reducible repeat (first | refine blk_drewN ?_ _ | refine blk_drew ?_ | refine blk_alloc ?_ _)); refine blk_far ?_ NBB_D.out _; (with_reducible repeat (first | refine blk_drewN ?_ _ | refine blk_drew ?_ | refine blk_alloc ?_ _)); refine blk_far ?_ NBB_D.out _; (with_reducible repeat (first | refine blk_drewN ?_ _ | refine blk_drew ?_ | refine blk_alloc ?_ _)); exact BKB.out⟩, ⟨by (with_reducible repeat (first | refine blk_drewN ?_ _ | refine blk_drew ?_ | refine blk_alloc ?_ _)); refine blk_put (cs := #[.string ((rd_T42 tF x7_1).f0), .string ((rd_T42 tF x7_1).f1), .int .i64 ((rd_T42 tF x7_1).f2)]) ?_ 2 _ rfl; (with_reducible repeat (first | refine blk_drewN ?_ _ | refine blk_drew ?_ | refine blk_alloc ?_ _)); refine blk_put (cs := #[.string ((rd_T42 tF x7_1).f0), .string ((rd_T42 tF x7_1).f1), .int .i64 0]) ?_ 2 _ rfl; (with_reducible repeat (first | refine blk_drewN ?_ _ | refine blk_drew ?_ | refine blk_alloc ?_ _)); refine blk_put (cs := #[.string ((rd_T42 tF x7_1).f0), .string (⟨#[]⟩ : ByteArray), .int .i64 0]) ?_ 1 _ rfl; (with_reducible repeat (first | refine blk_drewN ?_ _ | refine blk_drew ?_ | refine blk_alloc ?_ _)); refine blk_put (cs := #[.string (⟨#[]⟩ : ByteArray), .string (⟨#[]⟩ : ByteArray), .int .i64 0]) ?_ 0 _ rfl; (with_reducible repeat (first | refine blk_drewN ?_ _ | refine blk_drew ?_ | refine blk_alloc ?_ _)); exact BKD.out⟩, ⟨by repeat (first | (with_reducible first | exact HB.out | apply below_alloc | apply pw_below_drewN | apply below_drew1 | refine below_set ?_ GEA.out | refine below_set ?_ GEC.out | refine below_set ?_ GEB.out | refine below_set ?_ GED.out) | exact HB.out)⟩⟩
     case round =>
      clear H'
      try clear c1
      try clear c2
      try clear p2
      try clear p3
      try clear q3
      try clear hx3
      try clear c4
      try clear p6
      try clear c16
      try clear c23
      try clear c23b0
      try clear c24
      try clear c24b0
      try clear c27
      try clear c28
      try clear c29
      try clear hcz30_0
      try clear hcz30_1
      try clear hcz30_2
      try clear hfz30_0
      try clear hfz30_1
      try clear hfz30_2
      try clear hxO_0
      try clear hxO_1
      try clear hxO_2
      try clear p2
      try clear pO
      try clear p6
      try clear qO
      obtain ⟨x9_2, x10_2, x11_2, rfl, rfl, HA, HK2, HO_6, HO_9, HO_E, BKA, BKC, BKB, BKD, HB⟩ := hrel
      cases gk with
      | zero => exact absurd HA.out (by simp [billetlaw16_Fit.l1])
      | succ k2 =>
       have H := HA.out
       clear HA
       simp only [billetlaw16_Fit.l1] at H
       by_cases c31 : x11_2 < (xE_1.length : Int)
       ·rw [if_pos c31] at H
        have c31b0 : decide (x11_2 < (xE_1.length : Int)) = true := decide_eq_true c31
        clear c31
        by_cases c32 : 0 ≤ x11_2
        ·rw [if_pos c32] at H
         have c32b0 : decide (0 ≤ x11_2) = true := decide_eq_true c32
         clear c32
         have HC33 := Aside0.mk H
         clear H
         have hnb34 := NBB_A.out
         have hnc34 := NBA_B.out
         have hnb35 := NBB_C.out
         have hnc35 := NBC_B.out
         have hnb36 := NBB_D.out
         have hnc36 := NBD_B.out
         have hcz37_0 : wr.cell? ⟨gbB, 0, none⟩ = some (.int .i64 (wrap64 (1 + tH))) := (blk_cell BKB.out 0).trans rfl
         have hcz37_1 : wr.cell? ⟨gbB, 1, none⟩ = some (.int .i64 tI) := (blk_cell BKB.out 1).trans rfl
         have hcz37_2 : wr.cell? ⟨gbB, 2, none⟩ = some (.int .i64 tJ) := (blk_cell BKB.out 2).trans rfl
         have hcz37_3 : wr.cell? ⟨gbB, 3, none⟩ = some (.int .i64 tK) := (blk_cell BKB.out 3).trans rfl
         have hcz37_4 : wr.cell? ⟨gbB, 4, none⟩ = some (.int .i64 tL) := (blk_cell BKB.out 4).trans rfl
         have hcz37_5 : wr.cell? ⟨gbB, 5, none⟩ = some (.int .i64 (wrap64 (tM - 1000))) := (blk_cell BKB.out 5).trans rfl
         have hcz37_6 : wr.cell? ⟨gbB, 6, none⟩ = some (uE) := (blk_cell BKB.out 6).trans rfl
         have hfz37_0 := blk_frozen BKB.out 0
         have hfz37_1 := blk_frozen BKB.out 1
         have hfz37_2 := blk_frozen BKB.out 2
         have hfz37_3 := blk_frozen BKB.out 3
         have hfz37_4 := blk_frozen BKB.out 4
         have hfz37_5 := blk_frozen BKB.out 5
         have hfz37_6 := blk_frozen BKB.out 6
         obtain ⟨Ao38, co38, eo38⟩ := Kd.R_slice HO_E.out
         subst eo38
         have pN : 0 ≤ (x11_2 : Int) := of_decide_eq_true (by first | (with_reducible assumption) | assumption)
         have qN : x11_2 < (xE_1.length : Int) := of_decide_eq_true (by first | (with_reducible assumption) | assumption)
         obtain ⟨adN, eN, hxN_0, hxN_1, hxN_2⟩ := at_T42 (Kd.R_reads' HO_E.out).2.2 x11_2 pN qN
         cases eN
         replace pN := eq_true pN
         (try replace pNz := eq_true pNz)
         replace qN := eq_true qN
         (try replace qNz := eq_true qNz)
         go_upto_region 14 with (first | ((with_reducible refine gate_dst (N := 12) rfl ?_); refine box_event ?hg (N := 12) ?hd (cs := #[.string (⟨#[]⟩ : ByteArray), .string (⟨#[]⟩ : ByteArray), .int .i64 0]) (t := 42) ?hr ?_; (case hd => rfl); (case hg => rfl); (case hr => first | (go_simp; done) | (go_simp; rfl)); intro gbG hg w39 hbox hb; have n0_ := Aside0.mk (Kd.R_below (Kd.R_elderB (by (with_reducible repeat (first | apply Kd.R_alloc | apply Kd.R_drewN | apply Kd.R_drew)); exact HO_6.out) gbG (Nat.le_of_eq hg.symm)) hb); have n1_ := Aside0.mk (Kd.R_below (Kd.R_elderB (by (with_reducible repeat (first | apply Kd.R_alloc | apply Kd.R_drewN | apply Kd.R_drew)); exact HO_9.out) gbG (Nat.le_of_eq hg.symm)) hb); have n2_ := Aside0.mk (Kd.R_below (Kd.R_elderB (by (with_reducible repeat (first | apply Kd.R_alloc | apply Kd.R_drewN | apply Kd.R_drew)); exact HO_E.out) gbG (Nat.le_of_eq hg.symm)) hb); have n3_ := Aside0.mk (blk_below (g := gbA) (o := .cells #[.int .i64 a0_0, .int .i64 a0_1, .int .i64 a0_2, .int .i64 a0_3, .int .i64 a0_4, .int .i64 a0_5, .slice A0_6 l0_6.length c0_6] 24 (0, 0)) (by (with_reducible repeat (first | refine blk_drewN ?_ _ | refine blk_drew ?_ | refine blk_alloc ?_ _)); exact BKA.out) hb); have n4_ := Aside0.mk (blk_below (g := gbC) (o := .cells #[.int .i64 0, .int .i64 0, .int .i64 0, .int .i64 0, .int .i64 0, .int .i64 0, .slice none 0 0] 24 (0, 0)) (by (with_reducible repeat (first | refine blk_drewN ?_ _ | refine blk_drew ?_ | refine blk_alloc ?_ _)); exact BKC.out) hb); have n5_ := Aside0.mk (blk_below (g := gbB) (o := .cells #[.int .i64 (wrap64 (1 + tH)), .int .i64 tI, .int .i64 tJ, .int .i64 tK, .int .i64 tL, .int .i64 (wrap64 (tM - 1000)), .slice (some adN) xE_1.length co38] 24 (0, 0)) (by (with_reducible repeat (first | refine blk_drewN ?_ _ | refine blk_drew ?_ | refine blk_alloc ?_ _)); exact BKB.out) hb); have n6_ := Aside0.mk (blk_below (g := gbD) (o := .cells #[.string ((rd_T42 tF x7_1).f0), .string ((rd_T42 tF x7_1).f1), .int .i64 (wrap64 (((rd_T42 tF x7_1).f2) + 1))] 42 (0, 0)) (by (with_reducible repeat (first | refine blk_drewN ?_ _ | refine blk_drew ?_ | refine blk_alloc ?_ _)); exact BKD.out) hb); have n7_ := Aside0.mk (below_step (by repeat (first | (with_reducible first | exact HB.out | apply below_alloc | apply pw_below_drewN | apply below_drew1 | refine below_set ?_ GEA.out | refine below_set ?_ GEC.out | refine below_set ?_ GEB.out | refine below_set ?_ GED.out) | exact HB.out)) hb); have n8_ := Aside0.mk (hbox); have n9_ := Aside0.mk ((by rw [hg]; exact (below_size (by repeat (first | (with_reducible first | exact HB.out | apply below_alloc | apply pw_below_drewN | apply below_drew1 | refine below_set ?_ GEA.out | refine below_set ?_ GEC.out | refine below_set ?_ GEB.out | refine below_set ?_ GED.out) | exact HB.out))) : w.heap.size ≤ gbG)); have n10_ := Aside0.mk ((by rw [hg]; exact (below_size (by repeat (first | (with_reducible first | exact HB.out | apply below_alloc | apply pw_below_drewN | apply below_drew1 | refine below_set ?_ GEA.out | refine below_set ?_ GEC.out | refine below_set ?_ GEB.out | refine below_set ?_ GED.out) | exact HB.out))) : w.heap.size ≤ gbG)); have n11_ := Aside0.mk ((by rw [hg]; exact Nat.ne_of_lt (blk_lt (g := gbA) (o := .cells #[.int .i64 a0_0, .int .i64 a0_1, .int .i64 a0_2, .int .i64 a0_3, .int .i64 a0_4, .int .i64 a0_5, .slice A0_6 l0_6.length c0_6] 24 (0, 0)) (by (with_reducible repeat (first | refine blk_drewN ?_ _ | refine blk_drew ?_ | refine blk_alloc ?_ _)); exact BKA.out)) : gbA ≠ gbG)); have n12_ := Aside0.mk ((by rw [hg]; exact Nat.ne_of_gt (blk_lt (g := gbA) (o := .cells #[.int .i64 a0_0, .int .i64 a0_1, .int .i64 a0_2, .int .i64 a0_3, .int .i64 a0_4, .int .i64 a0_5, .slice A0_6 l0_6.length c0_6] 24 (0, 0)) (by (with_reducible repeat (first | refine blk_drewN ?_ _ | refine blk_drew ?_ | refine blk_alloc ?_ _)); exact BKA.out)) : gbG ≠ gbA)); have n13_ := Aside0.mk ((by rw [hg]; exact Nat.ne_of_lt (blk_lt (g := gbC) (o := .cells #[.int .i64 0, .int .i64 0, .int .i64 0, .int .i64 0, .int .i64 0, .int .i64 0, .slice none 0 0] 24 (0, 0)) (by (with_reducible repeat (first | refine blk_drewN ?_ _ | refine blk_drew ?_ | refine blk_alloc ?_ _)); exact BKC.out)) : gbC ≠ gbG)); have n14_ := Aside0.mk ((by rw [hg]; exact Nat.ne_of_gt (blk_lt (g := gbC) (o := .cells #[.int .i64 0, .int .i64 0, .int .i64 0, .int .i64 0, .int .i64 0, .int .i64 0, .slice none 0 0] 24 (0, 0)) (by (with_reducible repeat (first | refine blk_drewN ?_ _ | refine blk_drew ?_ | refine blk_alloc ?_ _)); exact BKC.out)) : gbG ≠ gbC)); have n15_ := Aside0.mk ((by rw [hg]; exact Nat.ne_of_lt (blk_lt (g := gbB) (o := .cells #[.int .i64 (wrap64 (1 + tH)), .int .i64 tI, .int .i64 tJ, .int .i64 tK, .int .i64 tL, .int .i64 (wrap64 (tM - 1000)), .slice (some adN) xE_1.length co38] 24 (0, 0)) (by (with_reducible repeat (first | refine blk_drewN ?_ _ | refine blk_drew ?_ | refine blk_alloc ?_ _)); exact BKB.out)) : gbB ≠ gbG)); have n16_ := Aside0.mk ((by rw [hg]; exact Nat.ne_of_gt (blk_lt (g := gbB) (o := .cells #[.int .i64 (wrap64 (1 + tH)), .int .i64 tI, .int .i64 tJ, .int .i64 tK, .int .i64 tL, .int .i64 (wrap64 (tM - 1000)), .slice (some adN) xE_1.length co38] 24 (0, 0)) (by (with_reducible repeat (first | refine blk_drewN ?_ _ | refine blk_drew ?_ | refine blk_alloc ?_ _)); exact BKB.out)) : gbG ≠ gbB)); have n17_ := Aside0.mk ((by rw [hg]; exact Nat.ne_of_lt (blk_lt (g := gbD) (o := .cells #[.string ((rd_T42 tF x7_1).f0), .string ((rd_T42 tF x7_1).f1), .int .i64 (wrap64 (((rd_T42 tF x7_1).f2) + 1))] 42 (0, 0)) (by (with_reducible repeat (first | refine blk_drewN ?_ _ | refine blk_drew ?_ | refine blk_alloc ?_ _)); exact BKD.out)) : gbD ≠ gbG)); have n18_ := Aside0.mk ((by rw [hg]; exact Nat.ne_of_gt (blk_lt (g := gbD) (o := .cells #[.string ((rd_T42 tF x7_1).f0), .string ((rd_T42 tF x7_1).f1), .int .i64 (wrap64 (((rd_T42 tF x7_1).f2) + 1))] 42 (0, 0)) (by (with_reducible repeat (first | refine blk_drewN ?_ _ | refine blk_drew ?_ | refine blk_alloc ?_ _)); exact BKD.out)) : gbG ≠ gbD)); clear HO_6; clear HO_9; clear HO_E; clear BKA; clear BKC; clear BKB; clear BKD; clear HB; have HO_6 := n0_; have HO_9 := n1_; have HO_E := n2_; have BKA := n3_; have BKC := n4_; have BKB := n5_; have BKD := n6_; have HB := n7_; have BKG := n8_; have GWG := n9_; have GEG := n10_; have NBA_G := n11_; have NBG_A := n12_; have NBC_G := n13_; have NBG_C := n14_; have NBB_G := n15_; have NBG_B := n16_; have NBD_G := n17_; have NBG_D := n18_; clear n0_ n1_ n2_ n3_ n4_ n5_ n6_ n7_ n8_ n9_ n10_ n11_ n12_ n13_ n14_ n15_ n16_ n17_ n18_; clear hb hbox hg; have hnb40 := NBG_A.out; have hnc40 := NBA_G.out; have hnb41 := NBG_C.out; have hnc41 := NBC_G.out; have hnb42 := NBG_B.out; have hnc42 := NBB_G.out; have hnb43 := NBG_D.out; have hnc43 := NBD_G.out; have hcz44_0 : w39.cell? ⟨gbG, 0, none⟩ = some (.string (⟨#[]⟩ : ByteArray)) := (blk_cell BKG.out 0).trans rfl; have hcz44_1 : w39.cell? ⟨gbG, 1, none⟩ = some (.string (⟨#[]⟩ : ByteArray)) := (blk_cell BKG.out 1).trans rfl; have hcz44_2 : w39.cell? ⟨gbG, 2, none⟩ = some (.int .i64 0) := (blk_cell BKG.out 2).trans rfl; have hfz44_0 := blk_frozen BKG.out 0; have hfz44_1 := blk_frozen BKG.out 1; have hfz44_2 := blk_frozen BKG.out 2))
         (try simp only [Act.put, List.setIfInBounds_toArray, List.set_cons_zero, List.set_cons_succ])
         go_cut [84] (fun v84 wc => ∃ (kq : Nat) (x84_32 : Bool), v84 = .bool x84_32 ∧ Aside0 (billetlaw16_Fit.j2 kq tF x7_1 x9_2 x10_2 x11_2 x84_32 (wrap64 (1 + tH)) tI tJ tK tL (wrap64 (tM - 1000)) xE_1 ((rd_T42 tF x7_1).f0) ((rd_T42 tF x7_1).f1) (wrap64 (((rd_T42 tF x7_1).f2) + 1)) ((rd_T42 xE_1 x11_2).f0) ((rd_T42 xE_1 x11_2).f1) ((rd_T42 xE_1 x11_2).f2) = some (r1, r2, r3, r4, r5, r6, r7)) ∧ Aside0 (kq ≤ k2) ∧ Aside0 (Kd.R k42 42 wc w.heap.size (fun k_ => some k_ ≠ (u9 : Value).ownBlock ∧ some k_ ≠ ((.slice (some adN) xE_1.length co38) : Value).ownBlock ∧ k_ ≠ gbD ∧ k_ ≠ gbG) (.slice (some adO) tF.length co25) tF) ∧ Aside0 (Kd.R k42 42 wc w.heap.size (fun k_ => some k_ ≠ ((.slice (some adO) tF.length co25) : Value).ownBlock ∧ some k_ ≠ ((.slice (some adN) xE_1.length co38) : Value).ownBlock ∧ k_ ≠ gbD ∧ k_ ≠ gbG) u9 x9_2) ∧ Aside0 (Kd.R k42 42 wc w.heap.size (fun k_ => some k_ ≠ ((.slice (some adO) tF.length co25) : Value).ownBlock ∧ some k_ ≠ (u9 : Value).ownBlock ∧ k_ ≠ gbD ∧ k_ ≠ gbG) (.slice (some adN) xE_1.length co38) xE_1) ∧ Aside0 (wc.heap[gbA]? = some (.cells #[.int .i64 a0_0, .int .i64 a0_1, .int .i64 a0_2, .int .i64 a0_3, .int .i64 a0_4, .int .i64 a0_5, (.slice A0_6 l0_6.length c0_6)] 24 (0, 0))) ∧ Aside0 (wc.heap[gbC]? = some (.cells #[.int .i64 0, .int .i64 0, .int .i64 0, .int .i64 0, .int .i64 0, .int .i64 0, (.slice none 0 0)] 24 (0, 0))) ∧ Aside0 (wc.heap[gbB]? = some (.cells #[.int .i64 (wrap64 (1 + tH)), .int .i64 tI, .int .i64 tJ, .int .i64 tK, .int .i64 tL, .int .i64 (wrap64 (tM - 1000)), (.slice (some adN) xE_1.length co38)] 24 (0, 0))) ∧ Aside0 (wc.heap[gbD]? = some (.cells #[.string ((rd_T42 tF x7_1).f0), .string ((rd_T42 tF x7_1).f1), .int .i64 (wrap64 (((rd_T42 tF x7_1).f2) + 1))] 42 (0, 0))) ∧ Aside0 (wc.heap[gbG]? = some (.cells #[.string ((rd_T42 xE_1 x11_2).f0), .string ((rd_T42 xE_1 x11_2).f1), .int .i64 ((rd_T42 xE_1 x11_2).f2)] 42 (0, 0))) ∧ Aside0 (Below w.heap.size w wc))
         case first =>
          have H := HC33.out
          clear HC33
          by_cases c45 : x10_2 = true
          ·subst c45
           have H1 : (billetlaw16_Fit.j2 k2 tF x7_1 x9_2 true x11_2 false (wrap64 (1 + tH)) tI tJ tK tL (wrap64 (tM - 1000)) xE_1 ((rd_T42 tF x7_1).f0) ((rd_T42 tF x7_1).f1) (wrap64 (((rd_T42 tF x7_1).f2) + 1)) ((rd_T42 xE_1 x11_2).f0) ((rd_T42 xE_1 x11_2).f1) ((rd_T42 xE_1 x11_2).f2)) = some (r1, r2, r3, r4, r5, r6, r7) := by rw [if_pos rfl] at H; exact H
           clear H
           have H := H1
           clear H1
           have H' := Aside0.mk H
           clear H
           go_wp2
           go_meet
           case rel => exact ⟨_, (false), (by first | rfl | (simp; done) | (simp [*]; done)), H', ⟨by have := HK1.out; have := HK2.out; first | omega | exact Nat.le_refl _⟩, ⟨by (with_reducible repeat (first | apply Kd.R_alloc | apply Kd.R_drewN | apply Kd.R_drew)); exact Kd.R_mono (Kd.R_far (p := ⟨gbG, 2, none⟩) (Kd.R_far (p := ⟨gbG, 1, none⟩) (Kd.R_far (p := ⟨gbG, 0, none⟩) (Kd.R_mono HO_6.out (fun k_ hk => (⟨hk, hk.2⟩ : _ ∧ k_ ≠ gbG))) (fun _ hk => hk.2) (.string ((rd_T42 xE_1 x11_2).f0))) (fun _ hk => hk.2) (.string ((rd_T42 xE_1 x11_2).f1))) (fun _ hk => hk.2) (.int .i64 ((rd_T42 xE_1 x11_2).f2))) (fun _ hk => ⟨hk.1.1.1, ⟨hk.1.1.2.1, ⟨hk.1.1.2.2, hk.1.2⟩⟩⟩)⟩, ⟨by (with_reducible repeat (first | apply Kd.R_alloc | apply Kd.R_drewN | apply Kd.R_drew)); exact Kd.R_mono (Kd.R_far (p := ⟨gbG, 2, none⟩) (Kd.R_far (p := ⟨gbG, 1, none⟩) (Kd.R_far (p := ⟨gbG, 0, none⟩) (Kd.R_mono HO_9.out (fun k_ hk => (⟨hk, hk.2⟩ : _ ∧ k_ ≠ gbG))) (fun _ hk => hk.2) (.string ((rd_T42 xE_1 x11_2).f0))) (fun _ hk => hk.2) (.string ((rd_T42 xE_1 x11_2).f1))) (fun _ hk => hk.2) (.int .i64 ((rd_T42 xE_1 x11_2).f2))) (fun _ hk => ⟨hk.1.1.1, ⟨hk.1.1.2.1, ⟨hk.1.1.2.2, hk.1.2⟩⟩⟩)⟩, ⟨by (with_reducible repeat (first | apply Kd.R_alloc | apply Kd.R_drewN | apply Kd.R_drew)); exact Kd.R_mono (Kd.R_far (p := ⟨gbG, 2, none⟩) (Kd.R_far (p := ⟨gbG, 1, none⟩) (Kd.R_far (p := ⟨gbG, 0, none⟩) (Kd.R_mono HO_E.out (fun k_ hk => (⟨hk, hk.2⟩ : _ ∧ k_ ≠ gbG))) (fun _ hk => hk.2) (.string ((rd_T42 xE_1 x11_2).f0))) (fun _ hk => hk.2) (.string ((rd_T42 xE_1 x11_2).f1))) (fun _ hk => hk.2) (.int .i64 ((rd_T42 xE_1 x11_2).f2))) (fun _ hk => ⟨hk.1.1.1, ⟨hk.1.1.2.1, ⟨hk.1.1.2.2, hk.1.2⟩⟩⟩)⟩, ⟨by (with_reducible repeat (first | refine blk_drewN ?_ _ | refine blk_drew ?_ | refine blk_alloc ?_ _)); refine blk_far ?_ NBA_G.out _; (with_reducible repeat (first | refine blk_drewN ?_ _ | refine blk_drew ?_ | refine blk_alloc ?_ _)); refine blk_far ?_ NBA_G.out _; (with_reducible repeat (first | refine blk_drewN ?_ _ | refine blk_drew ?_ | refine blk_alloc ?_ _)); refine blk_far ?_ NBA_G.out _; (with_reducible repeat (first | refine blk_drewN ?_ _ | refine blk_drew ?_ | refine blk_alloc ?_ _)); exact BKA.out⟩, ⟨by (with_reducible repeat (first | refine blk_drewN ?_ _ | refine blk_drew ?_ | refine blk_alloc ?_ _)); refine blk_far ?_ NBC_G.out _; (with_reducible repeat (first | refine blk_drewN ?_ _ | refine blk_drew ?_ | refine blk_alloc ?_ _)); refine blk_far ?_ NBC_G.out _; (with_reducible repeat (first | refine blk_drewN ?_ _ | refine blk_drew ?_ | refine blk_alloc ?_ _)); refine blk_far ?_ NBC_G.out _; (with_reducible repeat (first | refine blk_drewN ?_ _ | refine blk_drew ?_ | refine blk_alloc ?_ _)); exact BKC.out⟩, ⟨by (with_reducible repeat (first | refine blk_drewN ?_ _ | refine blk_drew ?_ | refine blk_alloc ?_ _)); refine blk_far ?_ NBB_G.out _; (with_reducible repeat (first | refine blk_drewN ?_ _ | refine blk_drew ?_ | refine blk_alloc ?_ _)); refine blk_far ?_ NBB_G.out _; (with_reducible repeat (first | refine blk_drewN ?_ _ | refine blk_drew ?_ | refine blk_alloc ?_ _)); refine blk_far ?_ NBB_G.out _; (with_reducible repeat (first | refine blk_drewN ?_ _ | refine blk_drew ?_ | refine blk_alloc ?_ _)); exact BKB.out⟩, ⟨by (with_reducible repeat (first | refine blk_drewN ?_ _ | refine blk_drew ?_ | refine blk_alloc ?_ _)); refine blk_far ?_ NBD_G.out _; (with_reducible repeat (first | refine blk_drewN ?_ _ | refine blk_drew ?_ | refine blk_alloc ?_ _)); refine blk_far ?_ NBD_G.out _; (with_reducible repeat (first | refine blk_drewN ?_ _ | refine blk_drew ?_ | refine blk_alloc ?_ _)); refine blk_far ?_ NBD_G.out _; (with_reducible repeat (first | refine blk_drewN ?_ _ | refine blk_drew ?_ | refine blk_alloc ?_ _)); exact BKD.out⟩, ⟨by (with_reducible repeat (first | refine blk_drewN ?_ _ | refine blk_drew ?_ | refine blk_alloc ?_ _)); refine blk_put (cs := #[.string ((rd_T42 xE_1 x11_2).f0), .string ((rd_T42 xE_1 x11_2).f1), .int .i64 0]) ?_ 2 _ rfl; (with_reducible repeat (first | refine blk_drewN ?_ _ | refine blk_drew ?_ | refine blk_alloc ?_ _)); refine blk_put (cs := #[.string ((rd_T42 xE_1 x11_2).f0), .string (⟨#[]⟩ : ByteArray), .int .i64 0]) ?_ 1 _ rfl; (with_reducible repeat (first | refine blk_drewN ?_ _ | refine blk_drew ?_ | refine blk_alloc ?_ _)); refine blk_put (cs := #[.string (⟨#[]⟩ : ByteArray), .string (⟨#[]⟩ : ByteArray), .int .i64 0]) ?_ 0 _ rfl; (with_reducible repeat (first | refine blk_drewN ?_ _ | refine blk_drew ?_ | refine blk_alloc ?_ _)); exact BKG.out⟩, ⟨by repeat (first | (with_reducible first | exact HB.out | apply below_alloc | apply pw_below_drewN | apply below_drew1 | refine below_set ?_ GEA.out | refine below_set ?_ GEC.out | refine below_set ?_ GEB.out | refine below_set ?_ GED.out | refine below_set ?_ GEG.out) | exact HB.out)⟩⟩
          ·replace c45 := Bool.eq_false_iff.mpr c45
           subst c45
           have H1 : (if (Op.bytesLess ((rd_T42 tF x7_1).f0).toList (((rd_T42 xE_1 x11_2).f0).toList)) = true then (billetlaw16_Fit.j2 k2 tF x7_1 x9_2 false x11_2 true (wrap64 (1 + tH)) tI tJ tK tL (wrap64 (tM - 1000)) xE_1 ((rd_T42 tF x7_1).f0) ((rd_T42 tF x7_1).f1) (wrap64 (((rd_T42 tF x7_1).f2) + 1)) ((rd_T42 xE_1 x11_2).f0) ((rd_T42 xE_1 x11_2).f1) ((rd_T42 xE_1 x11_2).f2)) else (if ((rd_T42 xE_1 x11_2).f0).toList = ((rd_T42 tF x7_1).f0).toList then (billetlaw16_Fit.j2 k2 tF x7_1 x9_2 false x11_2 (!(Op.bytesLess (((rd_T42 xE_1 x11_2).f1).toList) ((rd_T42 tF x7_1).f1).toList)) (wrap64 (1 + tH)) tI tJ tK tL (wrap64 (tM - 1000)) xE_1 ((rd_T42 tF x7_1).f0) ((rd_T42 tF x7_1).f1) (wrap64 (((rd_T42 tF x7_1).f2) + 1)) ((rd_T42 xE_1 x11_2).f0) ((rd_T42 xE_1 x11_2).f1) ((rd_T42 xE_1 x11_2).f2)) else (billetlaw16_Fit.j2 k2 tF x7_1 x9_2 false x11_2 false (wrap64 (1 + tH)) tI tJ tK tL (wrap64 (tM - 1000)) xE_1 ((rd_T42 tF x7_1).f0) ((rd_T42 tF x7_1).f1) (wrap64 (((rd_T42 tF x7_1).f2) + 1)) ((rd_T42 xE_1 x11_2).f0) ((rd_T42 xE_1 x11_2).f1) ((rd_T42 xE_1 x11_2).f2)))) = some (r1, r2, r3, r4, r5, r6, r7) := by rw [if_neg (show ¬ (false = true) by decide)] at H; exact H
           clear H
           have H := H1
           clear H1
           by_cases c46 : (Op.bytesLess ((rd_T42 tF x7_1).f0).toList (((rd_T42 xE_1 x11_2).f0).toList)) = true
           ·rw [if_pos c46] at H
            have c46b0 : (Op.bytesLess ((rd_T42 tF x7_1).f0).toList (((rd_T42 xE_1 x11_2).f0).toList)) = true := c46
            clear c46
            (first | rw [c46b0] | (simp only [i64_w, i32_w]; rw [c46b0]) | skip)
            have H' := Aside0.mk H
            clear H
            have hnb47 := NBG_A.out
            have hnc47 := NBA_G.out
            have hnb48 := NBG_C.out
            have hnc48 := NBC_G.out
            have hnb49 := NBG_B.out
            have hnc49 := NBB_G.out
            have hnb50 := NBG_D.out
            have hnc50 := NBD_G.out
            have hcz51_0 : w39.cell? ⟨gbG, 0, none⟩ = some (.string (⟨#[]⟩ : ByteArray)) := (blk_cell BKG.out 0).trans rfl
            have hcz51_1 : w39.cell? ⟨gbG, 1, none⟩ = some (.string (⟨#[]⟩ : ByteArray)) := (blk_cell BKG.out 1).trans rfl
            have hcz51_2 : w39.cell? ⟨gbG, 2, none⟩ = some (.int .i64 0) := (blk_cell BKG.out 2).trans rfl
            have hfz51_0 := blk_frozen BKG.out 0
            have hfz51_1 := blk_frozen BKG.out 1
            have hfz51_2 := blk_frozen BKG.out 2
            have hnb52 := NBD_A.out
            have hnc52 := NBA_D.out
            have hnb53 := NBD_C.out
            have hnc53 := NBC_D.out
            have hnb54 := NBD_B.out
            have hnc54 := NBB_D.out
            have hcz55_0 : w39.cell? ⟨gbD, 0, none⟩ = some (.string ((rd_T42 tF x7_1).f0)) := (blk_cell BKD.out 0).trans rfl
            have hcz55_1 : w39.cell? ⟨gbD, 1, none⟩ = some (.string ((rd_T42 tF x7_1).f1)) := (blk_cell BKD.out 1).trans rfl
            have hcz55_2 : w39.cell? ⟨gbD, 2, none⟩ = some (.int .i64 (wrap64 (((rd_T42 tF x7_1).f2) + 1))) := (blk_cell BKD.out 2).trans rfl
            have hfz55_0 := blk_frozen BKD.out 0
            have hfz55_1 := blk_frozen BKD.out 1
            have hfz55_2 := blk_frozen BKD.out 2
            go_wp2
            go_meet
            case rel => exact ⟨_, (true), (by first | rfl | (simp; done) | (simp [*]; done)), H', ⟨by have := HK1.out; have := HK2.out; first | omega | exact Nat.le_refl _⟩, ⟨by (with_reducible repeat (first | apply Kd.R_alloc | apply Kd.R_drewN | apply Kd.R_drew)); exact Kd.R_mono (Kd.R_far (p := ⟨gbG, 2, none⟩) (Kd.R_far (p := ⟨gbG, 1, none⟩) (Kd.R_far (p := ⟨gbG, 0, none⟩) (Kd.R_mono HO_6.out (fun k_ hk => (⟨hk, hk.2⟩ : _ ∧ k_ ≠ gbG))) (fun _ hk => hk.2) (.string ((rd_T42 xE_1 x11_2).f0))) (fun _ hk => hk.2) (.string ((rd_T42 xE_1 x11_2).f1))) (fun _ hk => hk.2) (.int .i64 ((rd_T42 xE_1 x11_2).f2))) (fun _ hk => ⟨hk.1.1.1, ⟨hk.1.1.2.1, ⟨hk.1.1.2.2, hk.1.2⟩⟩⟩)⟩, ⟨by (with_reducible repeat (first | apply Kd.R_alloc | apply Kd.R_drewN | apply Kd.R_drew)); exact Kd.R_mono (Kd.R_far (p := ⟨gbG, 2, none⟩) (Kd.R_far (p := ⟨gbG, 1, none⟩) (Kd.R_far (p := ⟨gbG, 0, none⟩) (Kd.R_mono HO_9.out (fun k_ hk => (⟨hk, hk.2⟩ : _ ∧ k_ ≠ gbG))) (fun _ hk => hk.2) (.string ((rd_T42 xE_1 x11_2).f0))) (fun _ hk => hk.2) (.string ((rd_T42 xE_1 x11_2).f1))) (fun _ hk => hk.2) (.int .i64 ((rd_T42 xE_1 x11_2).f2))) (fun _ hk => ⟨hk.1.1.1, ⟨hk.1.1.2.1, ⟨hk.1.1.2.2, hk.1.2⟩⟩⟩)⟩, ⟨by (with_reducible repeat (first | apply Kd.R_alloc | apply Kd.R_drewN | apply Kd.R_drew)); exact Kd.R_mono (Kd.R_far (p := ⟨gbG, 2, none⟩) (Kd.R_far (p := ⟨gbG, 1, none⟩) (Kd.R_far (p := ⟨gbG, 0, none⟩) (Kd.R_mono HO_E.out (fun k_ hk => (⟨hk, hk.2⟩ : _ ∧ k_ ≠ gbG))) (fun _ hk => hk.2) (.string ((rd_T42 xE_1 x11_2).f0))) (fun _ hk => hk.2) (.string ((rd_T42 xE_1 x11_2).f1))) (fun _ hk => hk.2) (.int .i64 ((rd_T42 xE_1 x11_2).f2))) (fun _ hk => ⟨hk.1.1.1, ⟨hk.1.1.2.1, ⟨hk.1.1.2.2, hk.1.2⟩⟩⟩)⟩, ⟨by (with_reducible repeat (first | refine blk_drewN ?_ _ | refine blk_drew ?_ | refine blk_alloc ?_ _)); refine blk_far ?_ NBA_G.out _; (with_reducible repeat (first | refine blk_drewN ?_ _ | refine blk_drew ?_ | refine blk_alloc ?_ _)); refine blk_far ?_ NBA_G.out _; (with_reducible repeat (first | refine blk_drewN ?_ _ | refine blk_drew ?_ | refine blk_alloc ?_ _)); refine blk_far ?_ NBA_G.out _; (with_reducible repeat (first | refine blk_drewN ?_ _ | refine blk_drew ?_ | refine blk_alloc ?_ _)); exact BKA.out⟩, ⟨by (with_reducible repeat (first | refine blk_drewN ?_ _ | refine blk_drew ?_ | refine blk_alloc ?_ _)); refine blk_far ?_ NBC_G.out _; (with_reducible repeat (first | refine blk_drewN ?_ _ | refine blk_drew ?_ | refine blk_alloc ?_ _)); refine blk_far ?_ NBC_G.out _; (with_reducible repeat (first | refine blk_drewN ?_ _ | refine blk_drew ?_ | refine blk_alloc ?_ _)); refine blk_far ?_ NBC_G.out _; (with_reducible repeat (first | refine blk_drewN ?_ _ | refine blk_drew ?_ | refine blk_alloc ?_ _)); exact BKC.out⟩, ⟨by (with_reducible repeat (first | refine blk_drewN ?_ _ | refine blk_drew ?_ | refine blk_alloc ?_ _)); refine blk_far ?_ NBB_G.out _; (with_reducible repeat (first | refine blk_drewN ?_ _ | refine blk_drew ?_ | refine blk_alloc ?_ _)); refine blk_far ?_ NBB_G.out _; (with_reducible repeat (first | refine blk_drewN ?_ _ | refine blk_drew ?_ | refine blk_alloc ?_ _)); refine blk_far ?_ NBB_G.out _; (with_reducible repeat (first | refine blk_drewN ?_ _ | refine blk_drew ?_ | refine blk_alloc ?_ _)); exact BKB.out⟩, ⟨by (with_reducible repeat (first | refine blk_drewN ?_ _ | refine blk_drew ?_ | refine blk_alloc ?_ _)); refine blk_far ?_ NBD_G.out _; (with_reducible repeat (first | refine blk_drewN ?_ _ | refine blk_drew ?_ | refine blk_alloc ?_ _)); refine blk_far ?_ NBD_G.out _; (with_reducible repeat (first | refine blk_drewN ?_ _ | refine blk_drew ?_ | refine blk_alloc ?_ _)); refine blk_far ?_ NBD_G.out _; (with_reducible repeat (first | refine blk_drewN ?_ _ | refine blk_drew ?_ | refine blk_alloc ?_ _)); exact BKD.out⟩, ⟨by (with_reducible repeat (first | refine blk_drewN ?_ _ | refine blk_drew ?_ | refine blk_alloc ?_ _)); refine blk_put (cs := #[.string ((rd_T42 xE_1 x11_2).f0), .string ((rd_T42 xE_1 x11_2).f1), .int .i64 0]) ?_ 2 _ rfl; (with_reducible repeat (first | refine blk_drewN ?_ _ | refine blk_drew ?_ | refine blk_alloc ?_ _)); refine blk_put (cs := #[.string ((rd_T42 xE_1 x11_2).f0), .string (⟨#[]⟩ : ByteArray), .int .i64 0]) ?_ 1 _ rfl; (with_reducible repeat (first | refine blk_drewN ?_ _ | refine blk_drew ?_ | refine blk_alloc ?_ _)); refine blk_put (cs := #[.string (⟨#[]⟩ : ByteArray), .string (⟨#[]⟩ : ByteArray), .int .i64 0]) ?_ 0 _ rfl; (with_reducible repeat (first | refine blk_drewN ?_ _ | refine blk_drew ?_ | refine blk_alloc ?_ _)); exact BKG.out⟩, ⟨by repeat (first | (with_reducible first | exact HB.out | apply below_alloc | apply pw_below_drewN | apply below_drew1 | refine below_set ?_ GEA.out | refine below_set ?_ GEC.out | refine below_set ?_ GEB.out | refine below_set ?_ GED.out | refine below_set ?_ GEG.out) | exact HB.out)⟩⟩
           ·rw [if_neg c46] at H
            have c46b0 : (Op.bytesLess ((rd_T42 tF x7_1).f0).toList (((rd_T42 xE_1 x11_2).f0).toList)) = false := by simpa using c46
            clear c46
            (first | rw [c46b0] | (simp only [i64_w, i32_w]; rw [c46b0]) | skip)
            by_cases c56 : ((rd_T42 xE_1 x11_2).f0).toList = ((rd_T42 tF x7_1).f0).toList
            ·rw [if_pos c56] at H
             have c56b0 : (((rd_T42 xE_1 x11_2).f0).toList == ((rd_T42 tF x7_1).f0).toList) = true := beq_iff_eq.mpr c56
             have c56b1 : (((rd_T42 xE_1 x11_2).f0).toList != ((rd_T42 tF x7_1).f0).toList) = false := bne_eq_false_iff_eq.mpr c56
             clear c56
             have H' := Aside0.mk H
             clear H
             have hnb57 := NBG_A.out
             have hnc57 := NBA_G.out
             have hnb58 := NBG_C.out
             have hnc58 := NBC_G.out
             have hnb59 := NBG_B.out
             have hnc59 := NBB_G.out
             have hnb60 := NBG_D.out
             have hnc60 := NBD_G.out
             have hcz61_0 : w39.cell? ⟨gbG, 0, none⟩ = some (.string (⟨#[]⟩ : ByteArray)) := (blk_cell BKG.out 0).trans rfl
             have hcz61_1 : w39.cell? ⟨gbG, 1, none⟩ = some (.string (⟨#[]⟩ : ByteArray)) := (blk_cell BKG.out 1).trans rfl
             have hcz61_2 : w39.cell? ⟨gbG, 2, none⟩ = some (.int .i64 0) := (blk_cell BKG.out 2).trans rfl
             have hfz61_0 := blk_frozen BKG.out 0
             have hfz61_1 := blk_frozen BKG.out 1
             have hfz61_2 := blk_frozen BKG.out 2
             have hnb62 := NBD_A.out
             have hnc62 := NBA_D.out
             have hnb63 := NBD_C.out
             have hnc63 := NBC_D.out
             have hnb64 := NBD_B.out
             have hnc64 := NBB_D.out
             have hcz65_0 : w39.cell? ⟨gbD, 0, none⟩ = some (.string ((rd_T42 tF x7_1).f0)) := (blk_cell BKD.out 0).trans rfl
             have hcz65_1 : w39.cell? ⟨gbD, 1, none⟩ = some (.string ((rd_T42 tF x7_1).f1)) := (blk_cell BKD.out 1).trans rfl
             have hcz65_2 : w39.cell? ⟨gbD, 2, none⟩ = some (.int .i64 (wrap64 (((rd_T42 tF x7_1).f2) + 1))) := (blk_cell BKD.out 2).trans rfl
             have hfz65_0 := blk_frozen BKD.out 0
             have hfz65_1 := blk_frozen BKD.out 1
             have hfz65_2 := blk_frozen BKD.out 2
             go_wp2
             go_meet
             case rel => exact ⟨_, (!(Op.bytesLess (((rd_T42 xE_1 x11_2).f1).toList) ((rd_T42 tF x7_1).f1).toList)), (by first | rfl | (simp; done) | (simp [*]; done)), H', ⟨by have := HK1.out; have := HK2.out; first | omega | exact Nat.le_refl _⟩, ⟨by (with_reducible repeat (first | apply Kd.R_alloc | apply Kd.R_drewN | apply Kd.R_drew)); exact Kd.R_mono (Kd.R_far (p := ⟨gbG, 2, none⟩) (Kd.R_far (p := ⟨gbG, 1, none⟩) (Kd.R_far (p := ⟨gbG, 0, none⟩) (Kd.R_mono HO_6.out (fun k_ hk => (⟨hk, hk.2⟩ : _ ∧ k_ ≠ gbG))) (fun _ hk => hk.2) (.string ((rd_T42 xE_1 x11_2).f0))) (fun _ hk => hk.2) (.string ((rd_T42 xE_1 x11_2).f1))) (fun _ hk => hk.2) (.int .i64 ((rd_T42 xE_1 x11_2).f2))) (fun _ hk => ⟨hk.1.1.1, ⟨hk.1.1.2.1, ⟨hk.1.1.2.2, hk.1.2⟩⟩⟩)⟩, ⟨by (with_reducible repeat (first | apply Kd.R_alloc | apply Kd.R_drewN | apply Kd.R_drew)); exact Kd.R_mono (Kd.R_far (p := ⟨gbG, 2, none⟩) (Kd.R_far (p := ⟨gbG, 1, none⟩) (Kd.R_far (p := ⟨gbG, 0, none⟩) (Kd.R_mono HO_9.out (fun k_ hk => (⟨hk, hk.2⟩ : _ ∧ k_ ≠ gbG))) (fun _ hk => hk.2) (.string ((rd_T42 xE_1 x11_2).f0))) (fun _ hk => hk.2) (.string ((rd_T42 xE_1 x11_2).f1))) (fun _ hk => hk.2) (.int .i64 ((rd_T42 xE_1 x11_2).f2))) (fun _ hk => ⟨hk.1.1.1, ⟨hk.1.1.2.1, ⟨hk.1.1.2.2, hk.1.2⟩⟩⟩)⟩, ⟨by (with_reducible repeat (first | apply Kd.R_alloc | apply Kd.R_drewN | apply Kd.R_drew)); exact Kd.R_mono (Kd.R_far (p := ⟨gbG, 2, none⟩) (Kd.R_far (p := ⟨gbG, 1, none⟩) (Kd.R_far (p := ⟨gbG, 0, none⟩) (Kd.R_mono HO_E.out (fun k_ hk => (⟨hk, hk.2⟩ : _ ∧ k_ ≠ gbG))) (fun _ hk => hk.2) (.string ((rd_T42 xE_1 x11_2).f0))) (fun _ hk => hk.2) (.string ((rd_T42 xE_1 x11_2).f1))) (fun _ hk => hk.2) (.int .i64 ((rd_T42 xE_1 x11_2).f2))) (fun _ hk => ⟨hk.1.1.1, ⟨hk.1.1.2.1, ⟨hk.1.1.2.2, hk.1.2⟩⟩⟩)⟩, ⟨by (with_reducible repeat (first | refine blk_drewN ?_ _ | refine blk_drew ?_ | refine blk_alloc ?_ _)); refine blk_far ?_ NBA_G.out _; (with_reducible repeat (first | refine blk_drewN ?_ _ | refine blk_drew ?_ | refine blk_alloc ?_ _)); refine blk_far ?_ NBA_G.out _; (with_reducible repeat (first | refine blk_drewN ?_ _ | refine blk_drew ?_ | refine blk_alloc ?_ _)); refine blk_far ?_ NBA_G.out _; (with_reducible repeat (first | refine blk_drewN ?_ _ | refine blk_drew ?_ | refine blk_alloc ?_ _)); exact BKA.out⟩, ⟨by (with_reducible repeat (first | refine blk_drewN ?_ _ | refine blk_drew ?_ | refine blk_alloc ?_ _)); refine blk_far ?_ NBC_G.out _; (with_reducible repeat (first | refine blk_drewN ?_ _ | refine blk_drew ?_ | refine blk_alloc ?_ _)); refine blk_far ?_ NBC_G.out _; (with_reducible repeat (first | refine blk_drewN ?_ _ | refine blk_drew ?_ | refine blk_alloc ?_ _)); refine blk_far ?_ NBC_G.out _; (with_reducible repeat (first | refine blk_drewN ?_ _ | refine blk_drew ?_ | refine blk_alloc ?_ _)); exact BKC.out⟩, ⟨by (with_reducible repeat (first | refine blk_drewN ?_ _ | refine blk_drew ?_ | refine blk_alloc ?_ _)); refine blk_far ?_ NBB_G.out _; (with_reducible repeat (first | refine blk_drewN ?_ _ | refine blk_drew ?_ | refine blk_alloc ?_ _)); refine blk_far ?_ NBB_G.out _; (with_reducible repeat (first | refine blk_drewN ?_ _ | refine blk_drew ?_ | refine blk_alloc ?_ _)); refine blk_far ?_ NBB_G.out _; (with_reducible repeat (first | refine blk_drewN ?_ _ | refine blk_drew ?_ | refine blk_alloc ?_ _)); exact BKB.out⟩, ⟨by (with_reducible repeat (first | refine blk_drewN ?_ _ | refine blk_drew ?_ | refine blk_alloc ?_ _)); refine blk_far ?_ NBD_G.out _; (with_reducible repeat (first | refine blk_drewN ?_ _ | refine blk_drew ?_ | refine blk_alloc ?_ _)); refine blk_far ?_ NBD_G.out _; (with_reducible repeat (first | refine blk_drewN ?_ _ | refine blk_drew ?_ | refine blk_alloc ?_ _)); refine blk_far ?_ NBD_G.out _; (with_reducible repeat (first | refine blk_drewN ?_ _ | refine blk_drew ?_ | refine blk_alloc ?_ _)); exact BKD.out⟩, ⟨by (with_reducible repeat (first | refine blk_drewN ?_ _ | refine blk_drew ?_ | refine blk_alloc ?_ _)); refine blk_put (cs := #[.string ((rd_T42 xE_1 x11_2).f0), .string ((rd_T42 xE_1 x11_2).f1), .int .i64 0]) ?_ 2 _ rfl; (with_reducible repeat (first | refine blk_drewN ?_ _ | refine blk_drew ?_ | refine blk_alloc ?_ _)); refine blk_put (cs := #[.string ((rd_T42 xE_1 x11_2).f0), .string (⟨#[]⟩ : ByteArray), .int .i64 0]) ?_ 1 _ rfl; (with_reducible repeat (first | refine blk_drewN ?_ _ | refine blk_drew ?_ | refine blk_alloc ?_ _)); refine blk_put (cs := #[.string (⟨#[]⟩ : ByteArray), .string (⟨#[]⟩ : ByteArray), .int .i64 0]) ?_ 0 _ rfl; (with_reducible repeat (first | refine blk_drewN ?_ _ | refine blk_drew ?_ | refine blk_alloc ?_ _)); exact BKG.out⟩, ⟨by repeat (first | (with_reducible first | exact HB.out | apply below_alloc | apply pw_below_drewN | apply below_drew1 | refine below_set ?_ GEA.out | refine below_set ?_ GEC.out | refine below_set ?_ GEB.out | refine below_set ?_ GED.out | refine below_set ?_ GEG.out) | exact HB.out)⟩⟩
            ·rw [if_neg c56] at H
             have c56b0 : (((rd_T42 xE_1 x11_2).f0).toList == ((rd_T42 tF x7_1).f0).toList) = false := beq_eq_false_iff_ne.mpr c56
             have c56b1 : (((rd_T42 xE_1 x11_2).f0).toList != ((rd_T42 tF x7_1).f0).toList) = true := bne_iff_ne.mpr c56
             have H' := Aside0.mk H
             clear H
             have hnb66 := NBG_A.out
             have hnc66 := NBA_G.out
             have hnb67 := NBG_C.out
             have hnc67 := NBC_G.out
             have hnb68 := NBG_B.out
             have hnc68 := NBB_G.out
             have hnb69 := NBG_D.out
             have hnc69 := NBD_G.out
             have hcz70_0 : w39.cell? ⟨gbG, 0, none⟩ = some (.string (⟨#[]⟩ : ByteArray)) := (blk_cell BKG.out 0).trans rfl
             have hcz70_1 : w39.cell? ⟨gbG, 1, none⟩ = some (.string (⟨#[]⟩ : ByteArray)) := (blk_cell BKG.out 1).trans rfl
             have hcz70_2 : w39.cell? ⟨gbG, 2, none⟩ = some (.int .i64 0) := (blk_cell BKG.out 2).trans rfl
             have hfz70_0 := blk_frozen BKG.out 0
             have hfz70_1 := blk_frozen BKG.out 1
             have hfz70_2 := blk_frozen BKG.out 2
             have hnb71 := NBD_A.out
             have hnc71 := NBA_D.out
             have hnb72 := NBD_C.out
             have hnc72 := NBC_D.out
             have hnb73 := NBD_B.out
             have hnc73 := NBB_D.out
             have hcz74_0 : w39.cell? ⟨gbD, 0, none⟩ = some (.string ((rd_T42 tF x7_1).f0)) := (blk_cell BKD.out 0).trans rfl
             have hcz74_1 : w39.cell? ⟨gbD, 1, none⟩ = some (.string ((rd_T42 tF x7_1).f1)) := (blk_cell BKD.out 1).trans rfl
             have hcz74_2 : w39.cell? ⟨gbD, 2, none⟩ = some (.int .i64 (wrap64 (((rd_T42 tF x7_1).f2) + 1))) := (blk_cell BKD.out 2).trans rfl
             have hfz74_0 := blk_frozen BKD.out 0
             have hfz74_1 := blk_frozen BKD.out 1
             have hfz74_2 := blk_frozen BKD.out 2
             go_wp2
             go_meet
             case rel => exact ⟨_, (false), (by first | rfl | (simp; done) | (simp [*]; done)), H', ⟨by have := HK1.out; have := HK2.out; first | omega | exact Nat.le_refl _⟩, ⟨by (with_reducible repeat (first | apply Kd.R_alloc | apply Kd.R_drewN | apply Kd.R_drew)); exact Kd.R_mono (Kd.R_far (p := ⟨gbG, 2, none⟩) (Kd.R_far (p := ⟨gbG, 1, none⟩) (Kd.R_far (p := ⟨gbG, 0, none⟩) (Kd.R_mono HO_6.out (fun k_ hk => (⟨hk, hk.2⟩ : _ ∧ k_ ≠ gbG))) (fun _ hk => hk.2) (.string ((rd_T42 xE_1 x11_2).f0))) (fun _ hk => hk.2) (.string ((rd_T42 xE_1 x11_2).f1))) (fun _ hk => hk.2) (.int .i64 ((rd_T42 xE_1 x11_2).f2))) (fun _ hk => ⟨hk.1.1.1, ⟨hk.1.1.2.1, ⟨hk.1.1.2.2, hk.1.2⟩⟩⟩)⟩, ⟨by (with_reducible repeat (first | apply Kd.R_alloc | apply Kd.R_drewN | apply Kd.R_drew)); exact Kd.R_mono (Kd.R_far (p := ⟨gbG, 2, none⟩) (Kd.R_far (p := ⟨gbG, 1, none⟩) (Kd.R_far (p := ⟨gbG, 0, none⟩) (Kd.R_mono HO_9.out (fun k_ hk => (⟨hk, hk.2⟩ : _ ∧ k_ ≠ gbG))) (fun _ hk => hk.2) (.string ((rd_T42 xE_1 x11_2).f0))) (fun _ hk => hk.2) (.string ((rd_T42 xE_1 x11_2).f1))) (fun _ hk => hk.2) (.int .i64 ((rd_T42 xE_1 x11_2).f2))) (fun _ hk => ⟨hk.1.1.1, ⟨hk.1.1.2.1, ⟨hk.1.1.2.2, hk.1.2⟩⟩⟩)⟩, ⟨by (with_reducible repeat (first | apply Kd.R_alloc | apply Kd.R_drewN | apply Kd.R_drew)); exact Kd.R_mono (Kd.R_far (p := ⟨gbG, 2, none⟩) (Kd.R_far (p := ⟨gbG, 1, none⟩) (Kd.R_far (p := ⟨gbG, 0, none⟩) (Kd.R_mono HO_E.out (fun k_ hk => (⟨hk, hk.2⟩ : _ ∧ k_ ≠ gbG))) (fun _ hk => hk.2) (.string ((rd_T42 xE_1 x11_2).f0))) (fun _ hk => hk.2) (.string ((rd_T42 xE_1 x11_2).f1))) (fun _ hk => hk.2) (.int .i64 ((rd_T42 xE_1 x11_2).f2))) (fun _ hk => ⟨hk.1.1.1, ⟨hk.1.1.2.1, ⟨hk.1.1.2.2, hk.1.2⟩⟩⟩)⟩, ⟨by (with_reducible repeat (first | refine blk_drewN ?_ _ | refine blk_drew ?_ | refine blk_alloc ?_ _)); refine blk_far ?_ NBA_G.out _; (with_reducible repeat (first | refine blk_drewN ?_ _ | refine blk_drew ?_ | refine blk_alloc ?_ _)); refine blk_far ?_ NBA_G.out _; (with_reducible repeat (first | refine blk_drewN ?_ _ | refine blk_drew ?_ | refine blk_alloc ?_ _)); refine blk_far ?_ NBA_G.out _; (with_reducible repeat (first | refine blk_drewN ?_ _ | refine blk_drew ?_ | refine blk_alloc ?_ _)); exact BKA.out⟩, ⟨by (with_reducible repeat (first | refine blk_drewN ?_ _ | refine blk_drew ?_ | refine blk_alloc ?_ _)); refine blk_far ?_ NBC_G.out _; (with_reducible repeat (first | refine blk_drewN ?_ _ | refine blk_drew ?_ | refine blk_alloc ?_ _)); refine blk_far ?_ NBC_G.out _; (with_reducible repeat (first | refine blk_drewN ?_ _ | refine blk_drew ?_ | refine blk_alloc ?_ _)); refine blk_far ?_ NBC_G.out _; (with_reducible repeat (first | refine blk_drewN ?_ _ | refine blk_drew ?_ | refine blk_alloc ?_ _)); exact BKC.out⟩, ⟨by (with_reducible repeat (first | refine blk_drewN ?_ _ | refine blk_drew ?_ | refine blk_alloc ?_ _)); refine blk_far ?_ NBB_G.out _; (with_reducible repeat (first | refine blk_drewN ?_ _ | refine blk_drew ?_ | refine blk_alloc ?_ _)); refine blk_far ?_ NBB_G.out _; (with_reducible repeat (first | refine blk_drewN ?_ _ | refine blk_drew ?_ | refine blk_alloc ?_ _)); refine blk_far ?_ NBB_G.out _; (with_reducible repeat (first | refine blk_drewN ?_ _ | refine blk_drew ?_ | refine blk_alloc ?_ _)); exact BKB.out⟩, ⟨by (with_reducible repeat (first | refine blk_drewN ?_ _ | refine blk_drew ?_ | refine blk_alloc ?_ _)); refine blk_far ?_ NBD_G.out _; (with_reducible repeat (first | refine blk_drewN ?_ _ | refine blk_drew ?_ | refine blk_alloc ?_ _)); refine blk_far ?_ NBD_G.out _; (with_reducible repeat (first | refine blk_drewN ?_ _ | refine blk_drew ?_ | refine blk_alloc ?_ _)); refine blk_far ?_ NBD_G.out _; (with_reducible repeat (first | refine blk_drewN ?_ _ | refine blk_drew ?_ | refine blk_alloc ?_ _)); exact BKD.out⟩, ⟨by (with_reducible repeat (first | refine blk_drewN ?_ _ | refine blk_drew ?_ | refine blk_alloc ?_ _)); refine blk_put (cs := #[.string ((rd_T42 xE_1 x11_2).f0), .string ((rd_T42 xE_1 x11_2).f1), .int .i64 0]) ?_ 2 _ rfl; (with_reducible repeat (first | refine blk_drewN ?_ _ | refine blk_drew ?_ | refine blk_alloc ?_ _)); refine blk_put (cs := #[.string ((rd_T42 xE_1 x11_2).f0), .string (⟨#[]⟩ : ByteArray), .int .i64 0]) ?_ 1 _ rfl; (with_reducible repeat (first | refine blk_drewN ?_ _ | refine blk_drew ?_ | refine blk_alloc ?_ _)); refine blk_put (cs := #[.string (⟨#[]⟩ : ByteArray), .string (⟨#[]⟩ : ByteArray), .int .i64 0]) ?_ 0 _ rfl; (with_reducible repeat (first | refine blk_drewN ?_ _ | refine blk_drew ?_ | refine blk_alloc ?_ _)); exact BKG.out⟩, ⟨by repeat (first | (with_reducible first | exact HB.out | apply below_alloc | apply pw_below_drewN | apply below_drew1 | refine below_set ?_ GEA.out | refine below_set ?_ GEC.out | refine below_set ?_ GEB.out | refine below_set ?_ GED.out | refine below_set ?_ GEG.out) | exact HB.out)⟩⟩
         case rest =>
          clear HC33
          try clear c1
          try clear c2
          try clear p2
          try clear c3
          try clear p3
          try clear q3
          try clear hx3
          try clear c4
          try clear c5
          try clear c6
          try clear p6
          try clear c7
          try clear c16
          try clear c23
          try clear c23b0
          try clear c24
          try clear c24b0
          try clear c27
          try clear c28
          try clear c29
          try clear c31
          try clear c31b0
          try clear c32
          try clear c32b0
          try clear c34
          try clear c35
          try clear c36
          try clear p36
          try clear q36
          try clear hx36
          try clear c40
          try clear c41
          try clear c42
          try clear c43
          try clear c45
          try clear c46
          try clear c46b0
          try clear c47
          try clear c48
          try clear c49
          try clear c50
          try clear c52
          try clear c53
          try clear c54
          try clear c56
          try clear c56b0
          try clear c56b1
          try clear c57
          try clear c58
          try clear c59
          try clear c60
          try clear c62
          try clear c63
          try clear c64
          try clear p64
          try clear c66
          try clear c67
          try clear c68
          try clear c69
          try clear c71
          try clear c72
          try clear c73
          try clear hcz30_0
          try clear hcz30_1
          try clear hcz30_2
          try clear hcz37_0
          try clear hcz37_1
          try clear hcz37_2
          try clear hcz37_3
          try clear hcz37_4
          try clear hcz37_5
          try clear hcz37_6
          try clear hcz44_0
          try clear hcz44_1
          try clear hcz44_2
          try clear hcz51_0
          try clear hcz51_1
          try clear hcz51_2
          try clear hcz55_0
          try clear hcz55_1
          try clear hcz55_2
          try clear hcz61_0
          try clear hcz61_1
          try clear hcz61_2
          try clear hcz65_0
          try clear hcz65_1
          try clear hcz65_2
          try clear hcz70_0
          try clear hcz70_1
          try clear hcz70_2
          try clear hcz74_0
          try clear hcz74_1
          try clear hcz74_2
          try clear hfz30_0
          try clear hfz30_1
          try clear hfz30_2
          try clear hfz37_0
          try clear hfz37_1
          try clear hfz37_2
          try clear hfz37_3
          try clear hfz37_4
          try clear hfz37_5
          try clear hfz37_6
          try clear hfz44_0
          try clear hfz44_1
          try clear hfz44_2
          try clear hfz51_0
          try clear hfz51_1
          try clear hfz51_2
          try clear hfz55_0
          try clear hfz55_1
          try clear hfz55_2
          try clear hfz61_0
          try clear hfz61_1
          try clear hfz61_2
          try clear hfz65_0
          try clear hfz65_1
          try clear hfz65_2
          try clear hfz70_0
          try clear hfz70_1
          try clear hfz70_2
          try clear hfz74_0
          try clear hfz74_1
          try clear hfz74_2
          try clear hxO_0
          try clear hxO_1
          try clear hxO_2
          try clear hxN_0
          try clear hxN_1
          try clear hxN_2
          try clear p2
          try clear p3
          try clear pO
          try clear pN
          try clear p6
          try clear q3
          try clear qO
          try clear qN
          obtain ⟨kq, x84_32, rfl, HA, HJ32, HO_6, HO_9, HO_E, BKA, BKC, BKB, BKD, BKG, HB⟩ := hcut
          cases kq with
          | zero => exact absurd HA.out (by simp [billetlaw16_Fit.j2])
          | succ kj32 =>
           have H := HA.out
           clear HA
           simp only [billetlaw16_Fit.j2] at H
           by_cases c75 : x84_32 = true
           ·subst c75
            have H1 : (if x9_2.length < 3518437208883 then ((some (x9_2 ++ [(⟨((rd_T42 tF x7_1).f0), ((rd_T42 tF x7_1).f1), (wrap64 (((rd_T42 tF x7_1).f2) + 1))⟩ : S42)] : List (S42))).bind fun yP => (if ((rd_T42 xE_1 x11_2).f0).toList = ((rd_T42 tF x7_1).f0).toList then (if ((rd_T42 xE_1 x11_2).f1).toList = ((rd_T42 tF x7_1).f1).toList then (billetlaw16_Fit.l1 kj32 tF x7_1 yP true (wrap64 (x11_2 + 1)) (wrap64 (1 + tH)) tI tJ tK tL (wrap64 (tM - 1000)) xE_1 ((rd_T42 tF x7_1).f0) ((rd_T42 tF x7_1).f1) (wrap64 (((rd_T42 tF x7_1).f2) + 1))) else (if yP.length < 3518437208883 then (billetlaw16_Fit.l1 kj32 tF x7_1 (yP ++ [(⟨((rd_T42 xE_1 x11_2).f0), ((rd_T42 xE_1 x11_2).f1), ((rd_T42 xE_1 x11_2).f2)⟩ : S42)]) true (wrap64 (x11_2 + 1)) (wrap64 (1 + tH)) tI tJ tK tL (wrap64 (tM - 1000)) xE_1 ((rd_T42 tF x7_1).f0) ((rd_T42 tF x7_1).f1) (wrap64 (((rd_T42 tF x7_1).f2) + 1))) else (none))) else (if yP.length < 3518437208883 then (billetlaw16_Fit.l1 kj32 tF x7_1 (yP ++ [(⟨((rd_T42 xE_1 x11_2).f0), ((rd_T42 xE_1 x11_2).f1), ((rd_T42 xE_1 x11_2).f2)⟩ : S42)]) true (wrap64 (x11_2 + 1)) (wrap64 (1 + tH)) tI tJ tK tL (wrap64 (tM - 1000)) xE_1 ((rd_T42 tF x7_1).f0) ((rd_T42 tF x7_1).f1) (wrap64 (((rd_T42 tF x7_1).f2) + 1))) else (none)))) else (none)) = some (r1, r2, r3, r4, r5, r6, r7) := by rw [if_pos rfl] at H; exact H
            clear H
            have H := H1
            clear H1
            by_cases c76 : x9_2.length < 3518437208883
            ·rw [if_pos c76] at H
             have LMc76 := Aside0.mk c76
             clear c76
             obtain ⟨yP, hyP⟩ : ∃ y_ : List (S42), y_ = (x9_2 ++ [(⟨((rd_T42 tF x7_1).f0), ((rd_T42 tF x7_1).f1), (wrap64 (((rd_T42 tF x7_1).f2) + 1))⟩ : S42)]) := ⟨_, rfl⟩
             replace H : (if ((rd_T42 xE_1 x11_2).f0).toList = ((rd_T42 tF x7_1).f0).toList then (if ((rd_T42 xE_1 x11_2).f1).toList = ((rd_T42 tF x7_1).f1).toList then (billetlaw16_Fit.l1 kj32 tF x7_1 yP true (wrap64 (x11_2 + 1)) (wrap64 (1 + tH)) tI tJ tK tL (wrap64 (tM - 1000)) xE_1 ((rd_T42 tF x7_1).f0) ((rd_T42 tF x7_1).f1) (wrap64 (((rd_T42 tF x7_1).f2) + 1))) else (if yP.length < 3518437208883 then (billetlaw16_Fit.l1 kj32 tF x7_1 (yP ++ [(⟨((rd_T42 xE_1 x11_2).f0), ((rd_T42 xE_1 x11_2).f1), ((rd_T42 xE_1 x11_2).f2)⟩ : S42)]) true (wrap64 (x11_2 + 1)) (wrap64 (1 + tH)) tI tJ tK tL (wrap64 (tM - 1000)) xE_1 ((rd_T42 tF x7_1).f0) ((rd_T42 tF x7_1).f1) (wrap64 (((rd_T42 tF x7_1).f2) + 1))) else (none))) else (if yP.length < 3518437208883 then (billetlaw16_Fit.l1 kj32 tF x7_1 (yP ++ [(⟨((rd_T42 xE_1 x11_2).f0), ((rd_T42 xE_1 x11_2).f1), ((rd_T42 xE_1 x11_2).f2)⟩ : S42)]) true (wrap64 (x11_2 + 1)) (wrap64 (1 + tH)) tI tJ tK tL (wrap64 (tM - 1000)) xE_1 ((rd_T42 tF x7_1).f0) ((rd_T42 tF x7_1).f1) (wrap64 (((rd_T42 tF x7_1).f2) + 1))) else (none))) = some (r1, r2, r3, r4, r5, r6, r7) := by first | (rw [hyP]; with_reducible exact H) | (have H2_ := (Option.bind_some _ _).symm.trans H; rw [hyP]; with_reducible exact H2_) | (have H2_ := (Option.bind_some _ _).symm.trans H; with_reducible exact H2_) | with_reducible exact H | (rw [hyP]; exact H) | exact H
             have NyP := Aside0.mk hyP
             clear hyP
             by_cases c77 : ((rd_T42 xE_1 x11_2).f0).toList = ((rd_T42 tF x7_1).f0).toList
             ·rw [if_pos c77] at H
              have c77b0 : (((rd_T42 xE_1 x11_2).f0).toList == ((rd_T42 tF x7_1).f0).toList) = true := beq_iff_eq.mpr c77
              have c77b1 : (((rd_T42 xE_1 x11_2).f0).toList != ((rd_T42 tF x7_1).f0).toList) = false := bne_eq_false_iff_eq.mpr c77
              clear c77
              by_cases c78 : ((rd_T42 xE_1 x11_2).f1).toList = ((rd_T42 tF x7_1).f1).toList
              ·rw [if_pos c78] at H
               have c78b0 : (((rd_T42 xE_1 x11_2).f1).toList == ((rd_T42 tF x7_1).f1).toList) = true := beq_iff_eq.mpr c78
               have c78b1 : (((rd_T42 xE_1 x11_2).f1).toList != ((rd_T42 tF x7_1).f1).toList) = false := bne_eq_false_iff_eq.mpr c78
               clear c78
               have H' := Aside0.mk H
               clear H
               have hnb79 := NBD_A.out
               have hnc79 := NBA_D.out
               have hnb80 := NBD_C.out
               have hnc80 := NBC_D.out
               have hnb81 := NBD_B.out
               have hnc81 := NBB_D.out
               have hnb82 := NBD_G.out
               have hnc82 := NBG_D.out
               have hcz83_0 : wc.cell? ⟨gbD, 0, none⟩ = some (.string ((rd_T42 tF x7_1).f0)) := (blk_cell BKD.out 0).trans rfl
               have hcz83_1 : wc.cell? ⟨gbD, 1, none⟩ = some (.string ((rd_T42 tF x7_1).f1)) := (blk_cell BKD.out 1).trans rfl
               have hcz83_2 : wc.cell? ⟨gbD, 2, none⟩ = some (.int .i64 (wrap64 (((rd_T42 tF x7_1).f2) + 1))) := (blk_cell BKD.out 2).trans rfl
               have hfz83_0 := blk_frozen BKD.out 0
               have hfz83_1 := blk_frozen BKD.out 1
               have hfz83_2 := blk_frozen BKD.out 2
               go_wp2_with (first | ((with_reducible refine gate_builtin (b := .append) (xs := #[.tmp 85, .tmp 87]) rfl ?_); at_builtin; refine Kd.R_append k42 (w0 := w) w.heap.size rfl (.tmp 85) (.tmp 87) 22 42 (.agg #[(.string ⟨#[]⟩), (.string ⟨#[]⟩), (.int .i64 0)]) 40 rfl Tryd.underlying22 info42 rfl (by decide) (by omega) u9 x9_2 (⟨((rd_T42 tF x7_1).f0), ((rd_T42 tF x7_1).f1), (wrap64 (((rd_T42 tF x7_1).f2) + 1))⟩ : S42) [.string ((rd_T42 tF x7_1).f0), .string ((rd_T42 tF x7_1).f1), .int .i64 (wrap64 (((rd_T42 tF x7_1).f2) + 1))] (fun k_ => some k_ ≠ (.slice (some adO) tF.length co25 : Value).ownBlock ∧ some k_ ≠ (.slice (some adN) xE_1.length co38 : Value).ownBlock ∧ k_ ≠ gbD ∧ k_ ≠ gbG) (fun _ => False) rfl rfl ?aP (fun _ hk => hk.elim) ?aF ?aO ?aB ?aS ?aL ?_; (case aP => exact k42_mkM _ _ _ (⟨((rd_T42 tF x7_1).f0), ((rd_T42 tF x7_1).f1), (wrap64 (((rd_T42 tF x7_1).f2) + 1))⟩ : S42)); (case aB => exact (by repeat (first | (with_reducible first | exact HB.out | apply below_alloc | apply pw_below_drewN | apply below_drew1 | refine below_set ?_ GEA.out | refine below_set ?_ GEC.out | refine below_set ?_ GEB.out | refine below_set ?_ GED.out | refine below_set ?_ GEG.out) | exact HB.out))); (case aF => exact (fun k_ hk => ⟨Kd.fresh' (Kd.R_lt (by (with_reducible repeat (first | apply Kd.R_alloc | apply Kd.R_drewN | apply Kd.R_drew)); exact HO_6.out)) k_ hk, Kd.fresh' (Kd.R_lt (by (with_reducible repeat (first | apply Kd.R_alloc | apply Kd.R_drewN | apply Kd.R_drew)); exact HO_E.out)) k_ hk, Kd.freshB (g := gbD) (o := .cells #[.string ((rd_T42 tF x7_1).f0), .string ((rd_T42 tF x7_1).f1), .int .i64 (wrap64 (((rd_T42 tF x7_1).f2) + 1))] 42 (0, 0)) (by (with_reducible repeat (first | refine blk_drewN ?_ _ | refine blk_drew ?_ | refine blk_alloc ?_ _)); exact BKD.out) k_ hk, Kd.freshB (g := gbG) (o := .cells #[.string ((rd_T42 xE_1 x11_2).f0), .string ((rd_T42 xE_1 x11_2).f1), .int .i64 ((rd_T42 xE_1 x11_2).f2)] 42 (0, 0)) (by (with_reducible repeat (first | refine blk_drewN ?_ _ | refine blk_drew ?_ | refine blk_alloc ?_ _)); exact BKG.out) k_ hk⟩)); (case aO => exact (by (with_reducible repeat (first | apply Kd.R_alloc | apply Kd.R_drewN | apply Kd.R_drew)); exact HO_9.out)); (case aS => exact (below_size (by repeat (first | (with_reducible first | exact HB.out | apply below_alloc | apply pw_below_drewN | apply below_drew1 | refine below_set ?_ GEA.out | refine below_set ?_ GEC.out | refine below_set ?_ GEB.out | refine below_set ?_ GED.out | refine below_set ?_ GEG.out) | exact HB.out)))); (case aL => have := LMc76.out; omega); intro vBM w84 ho hb hg hat; rw [← NyP.out] at ho; have n0_ := Aside0.mk (Kd.R_after (ok := (fun k_ => some k_ ≠ (.slice (some adN) xE_1.length co38 : Value).ownBlock ∧ k_ ≠ gbD ∧ k_ ≠ gbG)) (by (with_reducible repeat (first | apply Kd.R_alloc | apply Kd.R_drewN | apply Kd.R_drew)); exact Kd.R_mono HO_6.out (fun _ hk => ⟨⟨hk.2.1, ⟨hk.2.2.1, hk.2.2.2⟩⟩, hk.1⟩)) hg hat); have n1_ := Aside0.mk (Kd.R_after (ok := (fun k_ => some k_ ≠ (.slice (some adO) tF.length co25 : Value).ownBlock ∧ k_ ≠ gbD ∧ k_ ≠ gbG)) (by (with_reducible repeat (first | apply Kd.R_alloc | apply Kd.R_drewN | apply Kd.R_drew)); exact Kd.R_mono HO_E.out (fun _ hk => ⟨⟨hk.1, ⟨hk.2.2.1, hk.2.2.2⟩⟩, hk.2.1⟩)) hg hat); have n2_ := Aside0.mk (blk_grown (g := gbA) (o := .cells #[.int .i64 a0_0, .int .i64 a0_1, .int .i64 a0_2, .int .i64 a0_3, .int .i64 a0_4, .int .i64 a0_5, .slice A0_6 l0_6.length c0_6] 24 (0, 0)) (by (with_reducible repeat (first | refine blk_drewN ?_ _ | refine blk_drew ?_ | refine blk_alloc ?_ _)); exact BKA.out) hg (Kd.R_ne HO_9.out BKA.out (by decide))); have n3_ := Aside0.mk (blk_grown (g := gbC) (o := .cells #[.int .i64 0, .int .i64 0, .int .i64 0, .int .i64 0, .int .i64 0, .int .i64 0, .slice none 0 0] 24 (0, 0)) (by (with_reducible repeat (first | refine blk_drewN ?_ _ | refine blk_drew ?_ | refine blk_alloc ?_ _)); exact BKC.out) hg (Kd.R_ne HO_9.out BKC.out (by decide))); have n4_ := Aside0.mk (blk_grown (g := gbB) (o := .cells #[.int .i64 (wrap64 (1 + tH)), .int .i64 tI, .int .i64 tJ, .int .i64 tK, .int .i64 tL, .int .i64 (wrap64 (tM - 1000)), .slice (some adN) xE_1.length co38] 24 (0, 0)) (by (with_reducible repeat (first | refine blk_drewN ?_ _ | refine blk_drew ?_ | refine blk_alloc ?_ _)); exact BKB.out) hg (Kd.R_ne HO_9.out BKB.out (by decide))); have n5_ := Aside0.mk (blk_grown (g := gbD) (o := .cells #[.string ((rd_T42 tF x7_1).f0), .string ((rd_T42 tF x7_1).f1), .int .i64 (wrap64 (((rd_T42 tF x7_1).f2) + 1))] 42 (0, 0)) (by (with_reducible repeat (first | refine blk_drewN ?_ _ | refine blk_drew ?_ | refine blk_alloc ?_ _)); exact BKD.out) hg (Kd.R_away HO_9.out (fun _ hk => hk.2.2.1))); have n6_ := Aside0.mk (blk_grown (g := gbG) (o := .cells #[.string ((rd_T42 xE_1 x11_2).f0), .string ((rd_T42 xE_1 x11_2).f1), .int .i64 ((rd_T42 xE_1 x11_2).f2)] 42 (0, 0)) (by (with_reducible repeat (first | refine blk_drewN ?_ _ | refine blk_drew ?_ | refine blk_alloc ?_ _)); exact BKG.out) hg (Kd.R_away HO_9.out (fun _ hk => hk.2.2.2))); have n7_ := Aside0.mk (hb); have n8_ := Aside0.mk (ho); clear HO_6; clear HO_E; clear BKA; clear BKC; clear BKB; clear BKD; clear BKG; clear HB; clear HO_9; have HO_6 := n0_; have HO_E := n1_; have BKA := n2_; have BKC := n3_; have BKB := n4_; have BKD := n5_; have BKG := n6_; have HB := n7_; have HOR := n8_; clear n0_ n1_ n2_ n3_ n4_ n5_ n6_ n7_ n8_; clear ho hb hg hat; have hnb85 := NBG_A.out; have hnc85 := NBA_G.out; have hnb86 := NBG_C.out; have hnc86 := NBC_G.out; have hnb87 := NBG_B.out; have hnc87 := NBB_G.out; have hcz88_0 : w84.cell? ⟨gbG, 0, none⟩ = some (.string ((rd_T42 xE_1 x11_2).f0)) := (blk_cell BKG.out 0).trans rfl; have hcz88_1 : w84.cell? ⟨gbG, 1, none⟩ = some (.string ((rd_T42 xE_1 x11_2).f1)) := (blk_cell BKG.out 1).trans rfl; have hcz88_2 : w84.cell? ⟨gbG, 2, none⟩ = some (.int .i64 ((rd_T42 xE_1 x11_2).f2)) := (blk_cell BKG.out 2).trans rfl; have hfz88_0 := blk_frozen BKG.out 0; have hfz88_1 := blk_frozen BKG.out 1; have hfz88_2 := blk_frozen BKG.out 2; have hcz89_0 : w84.cell? ⟨gbD, 0, none⟩ = some (.string ((rd_T42 tF x7_1).f0)) := (blk_cell BKD.out 0).trans rfl; have hcz89_1 : w84.cell? ⟨gbD, 1, none⟩ = some (.string ((rd_T42 tF x7_1).f1)) := (blk_cell BKD.out 1).trans rfl; have hcz89_2 : w84.cell? ⟨gbD, 2, none⟩ = some (.int .i64 (wrap64 (((rd_T42 tF x7_1).f2) + 1))) := (blk_cell BKD.out 2).trans rfl; have hfz89_0 := blk_frozen BKD.out 0; have hfz89_1 := blk_frozen BKD.out 1; have hfz89_2 := blk_frozen BKD.out 2))
               go_roundg kj32
               case measure => have := HK1.out; have := HK2.out; have := HJ32.out; omega
               case rel => exact ⟨(yP), (true), (wrap64 (x11_2 + 1)), (by first | rfl | (simp; done) | (simp [*]; done)), (by first | rfl | (simp; done) | (simp [*]; done)), H', ⟨by have := HK1.out; have := HK2.out; have := HJ32.out; omega⟩, ⟨by (with_reducible repeat (first | apply Kd.R_alloc | apply Kd.R_drewN | apply Kd.R_drew)); exact Kd.R_mono HO_6.out (fun _ hk => ⟨hk.2, ⟨hk.1.1, hk.1.2.1⟩⟩)⟩, ⟨by (with_reducible repeat (first | apply Kd.R_alloc | apply Kd.R_drewN | apply Kd.R_drew)); exact Kd.R_mono HOR.out (fun _ hk => ⟨hk.1, ⟨hk.2.1, hk.2.2.1⟩⟩)⟩, ⟨by (with_reducible repeat (first | apply Kd.R_alloc | apply Kd.R_drewN | apply Kd.R_drew)); exact Kd.R_mono HO_E.out (fun _ hk => ⟨hk.1.1, ⟨hk.2, hk.1.2.1⟩⟩)⟩, ⟨by (with_reducible repeat (first | refine blk_drewN ?_ _ | refine blk_drew ?_ | refine blk_alloc ?_ _)); exact BKA.out⟩, ⟨by (with_reducible repeat (first | refine blk_drewN ?_ _ | refine blk_drew ?_ | refine blk_alloc ?_ _)); exact BKC.out⟩, ⟨by (with_reducible repeat (first | refine blk_drewN ?_ _ | refine blk_drew ?_ | refine blk_alloc ?_ _)); exact BKB.out⟩, ⟨by (with_reducible repeat (first | refine blk_drewN ?_ _ | refine blk_drew ?_ | refine blk_alloc ?_ _)); exact BKD.out⟩, ⟨by repeat (first | (with_reducible first | exact HB.out | apply below_alloc | apply pw_below_drewN | apply below_drew1 | refine below_set ?_ GEA.out | refine below_set ?_ GEC.out | refine below_set ?_ GEB.out | refine below_set ?_ GED.out | refine below_set ?_ GEG.out) | exact HB.out)⟩⟩
              ·rw [if_neg c78] at H
               have c78b0 : (((rd_T42 xE_1 x11_2).f1).toList == ((rd_T42 tF x7_1).f1).toList) = false := beq_eq_false_iff_ne.mpr c78
               have c78b1 : (((rd_T42 xE_1 x11_2).f1).toList != ((rd_T42 tF x7_1).f1).toList) = true := bne_iff_ne.mpr c78
               by_cases c90 : yP.length < 3518437208883
               ·rw [if_pos c90] at H
                have LMc90 := Aside0.mk c90
                clear c90
                obtain ⟨yAJ, hyAJ⟩ : ∃ y_ : List (S42), y_ = (yP ++ [(⟨((rd_T42 xE_1 x11_2).f0), ((rd_T42 xE_1 x11_2).f1), ((rd_T42 xE_1 x11_2).f2)⟩ : S42)]) := ⟨_, rfl⟩
                replace H : (billetlaw16_Fit.l1 kj32 tF x7_1 yAJ true (wrap64 (x11_2 + 1)) (wrap64 (1 + tH)) tI tJ tK tL (wrap64 (tM - 1000)) xE_1 ((rd_T42 tF x7_1).f0) ((rd_T42 tF x7_1).f1) (wrap64 (((rd_T42 tF x7_1).f2) + 1))) = some (r1, r2, r3, r4, r5, r6, r7) := by first | (rw [hyAJ]; with_reducible exact H) | (have H2_ := (Option.bind_some _ _).symm.trans H; rw [hyAJ]; with_reducible exact H2_) | (have H2_ := (Option.bind_some _ _).symm.trans H; with_reducible exact H2_) | with_reducible exact H | (rw [hyAJ]; exact H) | exact H
                have NyAJ := Aside0.mk hyAJ
                clear hyAJ
                have H' := Aside0.mk H
                clear H
                have hnb91 := NBD_A.out
                have hnc91 := NBA_D.out
                have hnb92 := NBD_C.out
                have hnc92 := NBC_D.out
                have hnb93 := NBD_B.out
                have hnc93 := NBB_D.out
                have hnb94 := NBD_G.out
                have hnc94 := NBG_D.out
                have hcz95_0 : wc.cell? ⟨gbD, 0, none⟩ = some (.string ((rd_T42 tF x7_1).f0)) := (blk_cell BKD.out 0).trans rfl
                have hcz95_1 : wc.cell? ⟨gbD, 1, none⟩ = some (.string ((rd_T42 tF x7_1).f1)) := (blk_cell BKD.out 1).trans rfl
                have hcz95_2 : wc.cell? ⟨gbD, 2, none⟩ = some (.int .i64 (wrap64 (((rd_T42 tF x7_1).f2) + 1))) := (blk_cell BKD.out 2).trans rfl
                have hfz95_0 := blk_frozen BKD.out 0
                have hfz95_1 := blk_frozen BKD.out 1
                have hfz95_2 := blk_frozen BKD.out 2
                go_wp2_with (first | ((with_reducible refine gate_builtin (b := .append) (xs := #[.tmp 85, .tmp 87]) rfl ?_); at_builtin; refine Kd.R_append k42 (w0 := w) w.heap.size rfl (.tmp 85) (.tmp 87) 22 42 (.agg #[(.string ⟨#[]⟩), (.string ⟨#[]⟩), (.int .i64 0)]) 40 rfl Tryd.underlying22 info42 rfl (by decide) (by omega) u9 x9_2 (⟨((rd_T42 tF x7_1).f0), ((rd_T42 tF x7_1).f1), (wrap64 (((rd_T42 tF x7_1).f2) + 1))⟩ : S42) [.string ((rd_T42 tF x7_1).f0), .string ((rd_T42 tF x7_1).f1), .int .i64 (wrap64 (((rd_T42 tF x7_1).f2) + 1))] (fun k_ => some k_ ≠ (.slice (some adO) tF.length co25 : Value).ownBlock ∧ some k_ ≠ (.slice (some adN) xE_1.length co38 : Value).ownBlock ∧ k_ ≠ gbD ∧ k_ ≠ gbG) (fun _ => False) rfl rfl ?aP (fun _ hk => hk.elim) ?aF ?aO ?aB ?aS ?aL ?_; (case aP => exact k42_mkM _ _ _ (⟨((rd_T42 tF x7_1).f0), ((rd_T42 tF x7_1).f1), (wrap64 (((rd_T42 tF x7_1).f2) + 1))⟩ : S42)); (case aB => exact (by repeat (first | (with_reducible first | exact HB.out | apply below_alloc | apply pw_below_drewN | apply below_drew1 | refine below_set ?_ GEA.out | refine below_set ?_ GEC.out | refine below_set ?_ GEB.out | refine below_set ?_ GED.out | refine below_set ?_ GEG.out) | exact HB.out))); (case aF => exact (fun k_ hk => ⟨Kd.fresh' (Kd.R_lt (by (with_reducible repeat (first | apply Kd.R_alloc | apply Kd.R_drewN | apply Kd.R_drew)); exact HO_6.out)) k_ hk, Kd.fresh' (Kd.R_lt (by (with_reducible repeat (first | apply Kd.R_alloc | apply Kd.R_drewN | apply Kd.R_drew)); exact HO_E.out)) k_ hk, Kd.freshB (g := gbD) (o := .cells #[.string ((rd_T42 tF x7_1).f0), .string ((rd_T42 tF x7_1).f1), .int .i64 (wrap64 (((rd_T42 tF x7_1).f2) + 1))] 42 (0, 0)) (by (with_reducible repeat (first | refine blk_drewN ?_ _ | refine blk_drew ?_ | refine blk_alloc ?_ _)); exact BKD.out) k_ hk, Kd.freshB (g := gbG) (o := .cells #[.string ((rd_T42 xE_1 x11_2).f0), .string ((rd_T42 xE_1 x11_2).f1), .int .i64 ((rd_T42 xE_1 x11_2).f2)] 42 (0, 0)) (by (with_reducible repeat (first | refine blk_drewN ?_ _ | refine blk_drew ?_ | refine blk_alloc ?_ _)); exact BKG.out) k_ hk⟩)); (case aO => exact (by (with_reducible repeat (first | apply Kd.R_alloc | apply Kd.R_drewN | apply Kd.R_drew)); exact HO_9.out)); (case aS => exact (below_size (by repeat (first | (with_reducible first | exact HB.out | apply below_alloc | apply pw_below_drewN | apply below_drew1 | refine below_set ?_ GEA.out | refine below_set ?_ GEC.out | refine below_set ?_ GEB.out | refine below_set ?_ GED.out | refine below_set ?_ GEG.out) | exact HB.out)))); (case aL => have := LMc76.out; omega); intro vBM w96 ho hb hg hat; rw [← NyP.out] at ho; have n0_ := Aside0.mk (Kd.R_after (ok := (fun k_ => some k_ ≠ (.slice (some adN) xE_1.length co38 : Value).ownBlock ∧ k_ ≠ gbD ∧ k_ ≠ gbG)) (by (with_reducible repeat (first | apply Kd.R_alloc | apply Kd.R_drewN | apply Kd.R_drew)); exact Kd.R_mono HO_6.out (fun _ hk => ⟨⟨hk.2.1, ⟨hk.2.2.1, hk.2.2.2⟩⟩, hk.1⟩)) hg hat); have n1_ := Aside0.mk (Kd.R_after (ok := (fun k_ => some k_ ≠ (.slice (some adO) tF.length co25 : Value).ownBlock ∧ k_ ≠ gbD ∧ k_ ≠ gbG)) (by (with_reducible repeat (first | apply Kd.R_alloc | apply Kd.R_drewN | apply Kd.R_drew)); exact Kd.R_mono HO_E.out (fun _ hk => ⟨⟨hk.1, ⟨hk.2.2.1, hk.2.2.2⟩⟩, hk.2.1⟩)) hg hat); have n2_ := Aside0.mk (blk_grown (g := gbA) (o := .cells #[.int .i64 a0_0, .int .i64 a0_1, .int .i64 a0_2, .int .i64 a0_3, .int .i64 a0_4, .int .i64 a0_5, .slice A0_6 l0_6.length c0_6] 24 (0, 0)) (by (with_reducible repeat (first | refine blk_drewN ?_ _ | refine blk_drew ?_ | refine blk_alloc ?_ _)); exact BKA.out) hg (Kd.R_ne HO_9.out BKA.out (by decide))); have n3_ := Aside0.mk (blk_grown (g := gbC) (o := .cells #[.int .i64 0, .int .i64 0, .int .i64 0, .int .i64 0, .int .i64 0, .int .i64 0, .slice none 0 0] 24 (0, 0)) (by (with_reducible repeat (first | refine blk_drewN ?_ _ | refine blk_drew ?_ | refine blk_alloc ?_ _)); exact BKC.out) hg (Kd.R_ne HO_9.out BKC.out (by decide))); have n4_ := Aside0.mk (blk_grown (g := gbB) (o := .cells #[.int .i64 (wrap64 (1 + tH)), .int .i64 tI, .int .i64 tJ, .int .i64 tK, .int .i64 tL, .int .i64 (wrap64 (tM - 1000)), .slice (some adN) xE_1.length co38] 24 (0, 0)) (by (with_reducible repeat (first | refine blk_drewN ?_ _ | refine blk_drew ?_ | refine blk_alloc ?_ _)); exact BKB.out) hg (Kd.R_ne HO_9.out BKB.out (by decide))); have n5_ := Aside0.mk (blk_grown (g := gbD) (o := .cells #[.string ((rd_T42 tF x7_1).f0), .string ((rd_T42 tF x7_1).f1), .int .i64 (wrap64 (((rd_T42 tF x7_1).f2) + 1))] 42 (0, 0)) (by (with_reducible repeat (first | refine blk_drewN ?_ _ | refine blk_drew ?_ | refine blk_alloc ?_ _)); exact BKD.out) hg (Kd.R_away HO_9.out (fun _ hk => hk.2.2.1))); have n6_ := Aside0.mk (blk_grown (g := gbG) (o := .cells #[.string ((rd_T42 xE_1 x11_2).f0), .string ((rd_T42 xE_1 x11_2).f1), .int .i64 ((rd_T42 xE_1 x11_2).f2)] 42 (0, 0)) (by (with_reducible repeat (first | refine blk_drewN ?_ _ | refine blk_drew ?_ | refine blk_alloc ?_ _)); exact BKG.out) hg (Kd.R_away HO_9.out (fun _ hk => hk.2.2.2))); have n7_ := Aside0.mk (hb); have n8_ := Aside0.mk (ho); clear HO_6; clear HO_E; clear BKA; clear BKC; clear BKB; clear BKD; clear BKG; clear HB; clear HO_9; have HO_6 := n0_; have HO_E := n1_; have BKA := n2_; have BKC := n3_; have BKB := n4_; have BKD := n5_; have BKG := n6_; have HB := n7_; have HOR := n8_; clear n0_ n1_ n2_ n3_ n4_ n5_ n6_ n7_ n8_; clear ho hb hg hat; have hnb97 := NBG_A.out; have hnc97 := NBA_G.out; have hnb98 := NBG_C.out; have hnc98 := NBC_G.out; have hnb99 := NBG_B.out; have hnc99 := NBB_G.out; have hczAY_0 : w96.cell? ⟨gbG, 0, none⟩ = some (.string ((rd_T42 xE_1 x11_2).f0)) := (blk_cell BKG.out 0).trans rfl; have hczAY_1 : w96.cell? ⟨gbG, 1, none⟩ = some (.string ((rd_T42 xE_1 x11_2).f1)) := (blk_cell BKG.out 1).trans rfl; have hczAY_2 : w96.cell? ⟨gbG, 2, none⟩ = some (.int .i64 ((rd_T42 xE_1 x11_2).f2)) := (blk_cell BKG.out 2).trans rfl; have hfzAY_0 := blk_frozen BKG.out 0; have hfzAY_1 := blk_frozen BKG.out 1; have hfzAY_2 := blk_frozen BKG.out 2; have hczAZ_0 : w96.cell? ⟨gbD, 0, none⟩ = some (.string ((rd_T42 tF x7_1).f0)) := (blk_cell BKD.out 0).trans rfl; have hczAZ_1 : w96.cell? ⟨gbD, 1, none⟩ = some (.string ((rd_T42 tF x7_1).f1)) := (blk_cell BKD.out 1).trans rfl; have hczAZ_2 : w96.cell? ⟨gbD, 2, none⟩ = some (.int .i64 (wrap64 (((rd_T42 tF x7_1).f2) + 1))) := (blk_cell BKD.out 2).trans rfl; have hfzAZ_0 := blk_frozen BKD.out 0; have hfzAZ_1 := blk_frozen BKD.out 1; have hfzAZ_2 := blk_frozen BKD.out 2) | ((with_reducible refine gate_builtin (b := .append) (xs := #[.tmp 101, .tmp 103]) rfl ?_); at_builtin; refine Kd.R_append k42 (w0 := w) w.heap.size rfl (.tmp 101) (.tmp 103) 22 42 (.agg #[(.string ⟨#[]⟩), (.string ⟨#[]⟩), (.int .i64 0)]) 40 rfl Tryd.underlying22 info42 rfl (by decide) (by omega) vBM yP (⟨((rd_T42 xE_1 x11_2).f0), ((rd_T42 xE_1 x11_2).f1), ((rd_T42 xE_1 x11_2).f2)⟩ : S42) [.string ((rd_T42 xE_1 x11_2).f0), .string ((rd_T42 xE_1 x11_2).f1), .int .i64 ((rd_T42 xE_1 x11_2).f2)] (fun k_ => some k_ ≠ (.slice (some adO) tF.length co25 : Value).ownBlock ∧ some k_ ≠ (.slice (some adN) xE_1.length co38 : Value).ownBlock ∧ k_ ≠ gbD ∧ k_ ≠ gbG) (fun _ => False) rfl rfl ?aP (fun _ hk => hk.elim) ?aF ?aO ?aB ?aS ?aL ?_; (case aP => exact k42_mkM _ _ _ (⟨((rd_T42 xE_1 x11_2).f0), ((rd_T42 xE_1 x11_2).f1), ((rd_T42 xE_1 x11_2).f2)⟩ : S42)); (case aB => exact (by repeat (first | (with_reducible first | exact HB.out | apply below_alloc | apply pw_below_drewN | apply below_drew1 | refine below_set ?_ GEA.out | refine below_set ?_ GEC.out | refine below_set ?_ GEB.out | refine below_set ?_ GED.out | refine below_set ?_ GEG.out) | exact HB.out))); (case aF => exact (fun k_ hk => ⟨Kd.fresh' (Kd.R_lt (by (with_reducible repeat (first | apply Kd.R_alloc | apply Kd.R_drewN | apply Kd.R_drew)); exact HO_6.out)) k_ hk, Kd.fresh' (Kd.R_lt (by (with_reducible repeat (first | apply Kd.R_alloc | apply Kd.R_drewN | apply Kd.R_drew)); exact HO_E.out)) k_ hk, Kd.freshB (g := gbD) (o := .cells #[.string ((rd_T42 tF x7_1).f0), .string ((rd_T42 tF x7_1).f1), .int .i64 (wrap64 (((rd_T42 tF x7_1).f2) + 1))] 42 (0, 0)) (by (with_reducible repeat (first | refine blk_drewN ?_ _ | refine blk_drew ?_ | refine blk_alloc ?_ _)); exact BKD.out) k_ hk, Kd.freshB (g := gbG) (o := .cells #[.string ((rd_T42 xE_1 x11_2).f0), .string ((rd_T42 xE_1 x11_2).f1), .int .i64 ((rd_T42 xE_1 x11_2).f2)] 42 (0, 0)) (by (with_reducible repeat (first | refine blk_drewN ?_ _ | refine blk_drew ?_ | refine blk_alloc ?_ _)); exact BKG.out) k_ hk⟩)); (case aO => exact (by (with_reducible repeat (first | apply Kd.R_alloc | apply Kd.R_drewN | apply Kd.R_drew)); exact HOR.out)); (case aS => exact (below_size (by repeat (first | (with_reducible first | exact HB.out | apply below_alloc | apply pw_below_drewN | apply below_drew1 | refine below_set ?_ GEA.out | refine below_set ?_ GEC.out | refine below_set ?_ GEB.out | refine below_set ?_ GED.out | refine below_set ?_ GEG.out) | exact HB.out)))); (case aL => have := LMc90.out; omega); intro vDJ wDK ho hb hg hat; rw [← NyAJ.out] at ho; have n0_ := Aside0.mk (Kd.R_after (ok := (fun k_ => some k_ ≠ (.slice (some adN) xE_1.length co38 : Value).ownBlock ∧ k_ ≠ gbD ∧ k_ ≠ gbG)) (by (with_reducible repeat (first | apply Kd.R_alloc | apply Kd.R_drewN | apply Kd.R_drew)); exact HO_6.out) hg hat); have n1_ := Aside0.mk (Kd.R_after (ok := (fun k_ => some k_ ≠ (.slice (some adO) tF.length co25 : Value).ownBlock ∧ k_ ≠ gbD ∧ k_ ≠ gbG)) (by (with_reducible repeat (first | apply Kd.R_alloc | apply Kd.R_drewN | apply Kd.R_drew)); exact HO_E.out) hg hat); have n2_ := Aside0.mk (blk_grown (g := gbA) (o := .cells #[.int .i64 a0_0, .int .i64 a0_1, .int .i64 a0_2, .int .i64 a0_3, .int .i64 a0_4, .int .i64 a0_5, .slice A0_6 l0_6.length c0_6] 24 (0, 0)) (by (with_reducible repeat (first | refine blk_drewN ?_ _ | refine blk_drew ?_ | refine blk_alloc ?_ _)); exact BKA.out) hg (Kd.R_ne HOR.out BKA.out (by decide))); have n3_ := Aside0.mk (blk_grown (g := gbC) (o := .cells #[.int .i64 0, .int .i64 0, .int .i64 0, .int .i64 0, .int .i64 0, .int .i64 0, .slice none 0 0] 24 (0, 0)) (by (with_reducible repeat (first | refine blk_drewN ?_ _ | refine blk_drew ?_ | refine blk_alloc ?_ _)); exact BKC.out) hg (Kd.R_ne HOR.out BKC.out (by decide))); have n4_ := Aside0.mk (blk_grown (g := gbB) (o := .cells #[.int .i64 (wrap64 (1 + tH)), .int .i64 tI, .int .i64 tJ, .int .i64 tK, .int .i64 tL, .int .i64 (wrap64 (tM - 1000)), .slice (some adN) xE_1.length co38] 24 (0, 0)) (by (with_reducible repeat (first | refine blk_drewN ?_ _ | refine blk_drew ?_ | refine blk_alloc ?_ _)); exact BKB.out) hg (Kd.R_ne HOR.out BKB.out (by decide))); have n5_ := Aside0.mk (blk_grown (g := gbD) (o := .cells #[.string ((rd_T42 tF x7_1).f0), .string ((rd_T42 tF x7_1).f1), .int .i64 (wrap64 (((rd_T42 tF x7_1).f2) + 1))] 42 (0, 0)) (by (with_reducible repeat (first | refine blk_drewN ?_ _ | refine blk_drew ?_ | refine blk_alloc ?_ _)); exact BKD.out) hg (Kd.R_away HOR.out (fun _ hk => hk.2.2.1))); have n6_ := Aside0.mk (blk_grown (g := gbG) (o := .cells #[.string ((rd_T42 xE_1 x11_2).f0), .string ((rd_T42 xE_1 x11_2).f1), .int .i64 ((rd_T42 xE_1 x11_2).f2)] 42 (0, 0)) (by (with_reducible repeat (first | refine blk_drewN ?_ _ | refine blk_drew ?_ | refine blk_alloc ?_ _)); exact BKG.out) hg (Kd.R_away HOR.out (fun _ hk => hk.2.2.2))); have n7_ := Aside0.mk (hb); have n8_ := Aside0.mk (ho); clear HO_6; clear HO_E; clear BKA; clear BKC; clear BKB; clear BKD; clear BKG; clear HB; clear HOR; have HO_6 := n0_; have HO_E := n1_; have BKA := n2_; have BKC := n3_; have BKB := n4_; have BKD := n5_; have BKG := n6_; have HB := n7_; have HOBS := n8_; clear n0_ n1_ n2_ n3_ n4_ n5_ n6_ n7_ n8_; clear ho hb hg hat))
                go_roundg kj32
                case measure => have := HK1.out; have := HK2.out; have := HJ32.out; omega
                case rel => exact ⟨(yAJ), (true), (wrap64 (x11_2 + 1)), (by first | rfl | (simp; done) | (simp [*]; done)), (by first | rfl | (simp; done) | (simp [*]; done)), H', ⟨by have := HK1.out; have := HK2.out; have := HJ32.out; omega⟩, ⟨by (with_reducible repeat (first | apply Kd.R_alloc | apply Kd.R_drewN | apply Kd.R_drew)); exact Kd.R_mono HO_6.out (fun _ hk => ⟨hk.2, ⟨hk.1.1, hk.1.2.1⟩⟩)⟩, ⟨by (with_reducible repeat (first | apply Kd.R_alloc | apply Kd.R_drewN | apply Kd.R_drew)); exact Kd.R_mono HOBS.out (fun _ hk => ⟨hk.1, ⟨hk.2.1, hk.2.2.1⟩⟩)⟩, ⟨by (with_reducible repeat (first | apply Kd.R_alloc | apply Kd.R_drewN | apply Kd.R_drew)); exact Kd.R_mono HO_E.out (fun _ hk => ⟨hk.1.1, ⟨hk.2, hk.1.2.1⟩⟩)⟩, ⟨by (with_reducible repeat (first | refine blk_drewN ?_ _ | refine blk_drew ?_ | refine blk_alloc ?_ _)); exact BKA.out⟩, ⟨by (with_reducible repeat (first | refine blk_drewN ?_ _ | refine blk_drew ?_ | refine blk_alloc ?_ _)); exact BKC.out⟩, ⟨by (with_reducible repeat (first | refine blk_drewN ?_ _ | refine blk_drew ?_ | refine blk_alloc ?_ _)); exact BKB.out⟩, ⟨by (with_reducible repeat (first | refine blk_drewN ?_ _ | refine blk_drew ?_ | refine blk_alloc ?_ _)); exact BKD.out⟩, ⟨by repeat (first | (with_reducible first | exact HB.out | apply below_alloc | apply pw_below_drewN | apply below_drew1 | refine below_set ?_ GEA.out | refine below_set ?_ GEC.out | refine below_set ?_ GEB.out | refine below_set ?_ GED.out | refine below_set ?_ GEG.out) | exact HB.out)⟩⟩
               ·rw [if_neg c90] at H
                exact absurd H (by simp)
             ·rw [if_neg c77] at H
              have c77b0 : (((rd_T42 xE_1 x11_2).f0).toList == ((rd_T42 tF x7_1).f0).toList) = false := beq_eq_false_iff_ne.mpr c77
              have c77b1 : (((rd_T42 xE_1 x11_2).f0).toList != ((rd_T42 tF x7_1).f0).toList) = true := bne_iff_ne.mpr c77
              by_cases cAT : yP.length < 3518437208883
              ·rw [if_pos cAT] at H
               have LMcAT := Aside0.mk cAT
               clear cAT
               obtain ⟨yAK, hyAK⟩ : ∃ y_ : List (S42), y_ = (yP ++ [(⟨((rd_T42 xE_1 x11_2).f0), ((rd_T42 xE_1 x11_2).f1), ((rd_T42 xE_1 x11_2).f2)⟩ : S42)]) := ⟨_, rfl⟩
               replace H : (billetlaw16_Fit.l1 kj32 tF x7_1 yAK true (wrap64 (x11_2 + 1)) (wrap64 (1 + tH)) tI tJ tK tL (wrap64 (tM - 1000)) xE_1 ((rd_T42 tF x7_1).f0) ((rd_T42 tF x7_1).f1) (wrap64 (((rd_T42 tF x7_1).f2) + 1))) = some (r1, r2, r3, r4, r5, r6, r7) := by first | (rw [hyAK]; with_reducible exact H) | (have H2_ := (Option.bind_some _ _).symm.trans H; rw [hyAK]; with_reducible exact H2_) | (have H2_ := (Option.bind_some _ _).symm.trans H; with_reducible exact H2_) | with_reducible exact H | (rw [hyAK]; exact H) | exact H
               have NyAK := Aside0.mk hyAK
               clear hyAK
               have H' := Aside0.mk H
               clear H
               have hnbBT := NBD_A.out
               have hncBT := NBA_D.out
               have hnbBU := NBD_C.out
               have hncBU := NBC_D.out
               have hnbBV := NBD_B.out
               have hncBV := NBB_D.out
               have hnbBW := NBD_G.out
               have hncBW := NBG_D.out
               have hczBA_0 : wc.cell? ⟨gbD, 0, none⟩ = some (.string ((rd_T42 tF x7_1).f0)) := (blk_cell BKD.out 0).trans rfl
               have hczBA_1 : wc.cell? ⟨gbD, 1, none⟩ = some (.string ((rd_T42 tF x7_1).f1)) := (blk_cell BKD.out 1).trans rfl
               have hczBA_2 : wc.cell? ⟨gbD, 2, none⟩ = some (.int .i64 (wrap64 (((rd_T42 tF x7_1).f2) + 1))) := (blk_cell BKD.out 2).trans rfl
               have hfzBA_0 := blk_frozen BKD.out 0
               have hfzBA_1 := blk_frozen BKD.out 1
               have hfzBA_2 := blk_frozen BKD.out 2
               go_wp2_with (first | ((with_reducible refine gate_builtin (b := .append) (xs := #[.tmp 85, .tmp 87]) rfl ?_); at_builtin; refine Kd.R_append k42 (w0 := w) w.heap.size rfl (.tmp 85) (.tmp 87) 22 42 (.agg #[(.string ⟨#[]⟩), (.string ⟨#[]⟩), (.int .i64 0)]) 40 rfl Tryd.underlying22 info42 rfl (by decide) (by omega) u9 x9_2 (⟨((rd_T42 tF x7_1).f0), ((rd_T42 tF x7_1).f1), (wrap64 (((rd_T42 tF x7_1).f2) + 1))⟩ : S42) [.string ((rd_T42 tF x7_1).f0), .string ((rd_T42 tF x7_1).f1), .int .i64 (wrap64 (((rd_T42 tF x7_1).f2) + 1))] (fun k_ => some k_ ≠ (.slice (some adO) tF.length co25 : Value).ownBlock ∧ some k_ ≠ (.slice (some adN) xE_1.length co38 : Value).ownBlock ∧ k_ ≠ gbD ∧ k_ ≠ gbG) (fun _ => False) rfl rfl ?aP (fun _ hk => hk.elim) ?aF ?aO ?aB ?aS ?aL ?_; (case aP => exact k42_mkM _ _ _ (⟨((rd_T42 tF x7_1).f0), ((rd_T42 tF x7_1).f1), (wrap64 (((rd_T42 tF x7_1).f2) + 1))⟩ : S42)); (case aB => exact (by repeat (first | (with_reducible first | exact HB.out | apply below_alloc | apply pw_below_drewN | apply below_drew1 | refine below_set ?_ GEA.out | refine below_set ?_ GEC.out | refine below_set ?_ GEB.out | refine below_set ?_ GED.out | refine below_set ?_ GEG.out) | exact HB.out))); (case aF => exact (fun k_ hk => ⟨Kd.fresh' (Kd.R_lt (by (with_reducible repeat (first | apply Kd.R_alloc | apply Kd.R_drewN | apply Kd.R_drew)); exact HO_6.out)) k_ hk, Kd.fresh' (Kd.R_lt (by (with_reducible repeat (first | apply Kd.R_alloc | apply Kd.R_drewN | apply Kd.R_drew)); exact HO_E.out)) k_ hk, Kd.freshB (g := gbD) (o := .cells #[.string ((rd_T42 tF x7_1).f0), .string ((rd_T42 tF x7_1).f1), .int .i64 (wrap64 (((rd_T42 tF x7_1).f2) + 1))] 42 (0, 0)) (by (with_reducible repeat (first | refine blk_drewN ?_ _ | refine blk_drew ?_ | refine blk_alloc ?_ _)); exact BKD.out) k_ hk, Kd.freshB (g := gbG) (o := .cells #[.string ((rd_T42 xE_1 x11_2).f0), .string ((rd_T42 xE_1 x11_2).f1), .int .i64 ((rd_T42 xE_1 x11_2).f2)] 42 (0, 0)) (by (with_reducible repeat (first | refine blk_drewN ?_ _ | refine blk_drew ?_ | refine blk_alloc ?_ _)); exact BKG.out) k_ hk⟩)); (case aO => exact (by (with_reducible repeat (first | apply Kd.R_alloc | apply Kd.R_drewN | apply Kd.R_drew)); exact HO_9.out)); (case aS => exact (below_size (by repeat (first | (with_reducible first | exact HB.out | apply below_alloc | apply pw_below_drewN | apply below_drew1 | refine below_set ?_ GEA.out | refine below_set ?_ GEC.out | refine below_set ?_ GEB.out | refine below_set ?_ GED.out | refine below_set ?_ GEG.out) | exact HB.out)))); (case aL => have := LMc76.out; omega); intro vBM wAU ho hb hg hat; rw [← NyP.out] at ho; have n0_ := Aside0.mk (Kd.R_after (ok := (fun k_ => some k_ ≠ (.slice (some adN) xE_1.length co38 : Value).ownBlock ∧ k_ ≠ gbD ∧ k_ ≠ gbG)) (by (with_reducible repeat (first | apply Kd.R_alloc | apply Kd.R_drewN | apply Kd.R_drew)); exact Kd.R_mono HO_6.out (fun _ hk => ⟨⟨hk.2.1, ⟨hk.2.2.1, hk.2.2.2⟩⟩, hk.1⟩)) hg hat); have n1_ := Aside0.mk (Kd.R_after (ok := (fun k_ => some k_ ≠ (.slice (some adO) tF.length co25 : Value).ownBlock ∧ k_ ≠ gbD ∧ k_ ≠ gbG)) (by (with_reducible repeat (first | apply Kd.R_alloc | apply Kd.R_drewN | apply Kd.R_drew)); exact Kd.R_mono HO_E.out (fun _ hk => ⟨⟨hk.1, ⟨hk.2.2.1, hk.2.2.2⟩⟩, hk.2.1⟩)) hg hat); have n2_ := Aside0.mk (blk_grown (g := gbA) (o := .cells #[.int .i64 a0_0, .int .i64 a0_1, .int .i64 a0_2, .int .i64 a0_3, .int .i64 a0_4, .int .i64 a0_5, .slice A0_6 l0_6.length c0_6] 24 (0, 0)) (by (with_reducible repeat (first | refine blk_drewN ?_ _ | refine blk_drew ?_ | refine blk_alloc ?_ _)); exact BKA.out) hg (Kd.R_ne HO_9.out BKA.out (by decide))); have n3_ := Aside0.mk (blk_grown (g := gbC) (o := .cells #[.int .i64 0, .int .i64 0, .int .i64 0, .int .i64 0, .int .i64 0, .int .i64 0, .slice none 0 0] 24 (0, 0)) (by (with_reducible repeat (first | refine blk_drewN ?_ _ | refine blk_drew ?_ | refine blk_alloc ?_ _)); exact BKC.out) hg (Kd.R_ne HO_9.out BKC.out (by decide))); have n4_ := Aside0.mk (blk_grown (g := gbB) (o := .cells #[.int .i64 (wrap64 (1 + tH)), .int .i64 tI, .int .i64 tJ, .int .i64 tK, .int .i64 tL, .int .i64 (wrap64 (tM - 1000)), .slice (some adN) xE_1.length co38] 24 (0, 0)) (by (with_reducible repeat (first | refine blk_drewN ?_ _ | refine blk_drew ?_ | refine blk_alloc ?_ _)); exact BKB.out) hg (Kd.R_ne HO_9.out BKB.out (by decide))); have n5_ := Aside0.mk (blk_grown (g := gbD) (o := .cells #[.string ((rd_T42 tF x7_1).f0), .string ((rd_T42 tF x7_1).f1), .int .i64 (wrap64 (((rd_T42 tF x7_1).f2) + 1))] 42 (0, 0)) (by (with_reducible repeat (first | refine blk_drewN ?_ _ | refine blk_drew ?_ | refine blk_alloc ?_ _)); exact BKD.out) hg (Kd.R_away HO_9.out (fun _ hk => hk.2.2.1))); have n6_ := Aside0.mk (blk_grown (g := gbG) (o := .cells #[.string ((rd_T42 xE_1 x11_2).f0), .string ((rd_T42 xE_1 x11_2).f1), .int .i64 ((rd_T42 xE_1 x11_2).f2)] 42 (0, 0)) (by (with_reducible repeat (first | refine blk_drewN ?_ _ | refine blk_drew ?_ | refine blk_alloc ?_ _)); exact BKG.out) hg (Kd.R_away HO_9.out (fun _ hk => hk.2.2.2))); have n7_ := Aside0.mk (hb); have n8_ := Aside0.mk (ho); clear HO_6; clear HO_E; clear BKA; clear BKC; clear BKB; clear BKD; clear BKG; clear HB; clear HO_9; have HO_6 := n0_; have HO_E := n1_; have BKA := n2_; have BKC := n3_; have BKB := n4_; have BKD := n5_; have BKG := n6_; have HB := n7_; have HOR := n8_; clear n0_ n1_ n2_ n3_ n4_ n5_ n6_ n7_ n8_; clear ho hb hg hat; have hnbBX := NBG_A.out; have hncBX := NBA_G.out; have hnbBY := NBG_C.out; have hncBY := NBC_G.out; have hnbBZ := NBG_B.out; have hncBZ := NBB_G.out; have hczBB_0 : wAU.cell? ⟨gbG, 0, none⟩ = some (.string ((rd_T42 xE_1 x11_2).f0)) := (blk_cell BKG.out 0).trans rfl; have hczBB_1 : wAU.cell? ⟨gbG, 1, none⟩ = some (.string ((rd_T42 xE_1 x11_2).f1)) := (blk_cell BKG.out 1).trans rfl; have hczBB_2 : wAU.cell? ⟨gbG, 2, none⟩ = some (.int .i64 ((rd_T42 xE_1 x11_2).f2)) := (blk_cell BKG.out 2).trans rfl; have hfzBB_0 := blk_frozen BKG.out 0; have hfzBB_1 := blk_frozen BKG.out 1; have hfzBB_2 := blk_frozen BKG.out 2; have hczBC_0 : wAU.cell? ⟨gbD, 0, none⟩ = some (.string ((rd_T42 tF x7_1).f0)) := (blk_cell BKD.out 0).trans rfl; have hczBC_1 : wAU.cell? ⟨gbD, 1, none⟩ = some (.string ((rd_T42 tF x7_1).f1)) := (blk_cell BKD.out 1).trans rfl; have hczBC_2 : wAU.cell? ⟨gbD, 2, none⟩ = some (.int .i64 (wrap64 (((rd_T42 tF x7_1).f2) + 1))) := (blk_cell BKD.out 2).trans rfl; have hfzBC_0 := blk_frozen BKD.out 0; have hfzBC_1 := blk_frozen BKD.out 1; have hfzBC_2 := blk_frozen BKD.out 2) | ((with_reducible refine gate_builtin (b := .append) (xs := #[.tmp 101, .tmp 103]) rfl ?_); at_builtin; refine Kd.R_append k42 (w0 := w) w.heap.size rfl (.tmp 101) (.tmp 103) 22 42 (.agg #[(.string ⟨#[]⟩), (.string ⟨#[]⟩), (.int .i64 0)]) 40 rfl Tryd.underlying22 info42 rfl (by decide) (by omega) vBM yP (⟨((rd_T42 xE_1 x11_2).f0), ((rd_T42 xE_1 x11_2).f1), ((rd_T42 xE_1 x11_2).f2)⟩ : S42) [.string ((rd_T42 xE_1 x11_2).f0), .string ((rd_T42 xE_1 x11_2).f1), .int .i64 ((rd_T42 xE_1 x11_2).f2)] (fun k_ => some k_ ≠ (.slice (some adO) tF.length co25 : Value).ownBlock ∧ some k_ ≠ (.slice (some adN) xE_1.length co38 : Value).ownBlock ∧ k_ ≠ gbD ∧ k_ ≠ gbG) (fun _ => False) rfl rfl ?aP (fun _ hk => hk.elim) ?aF ?aO ?aB ?aS ?aL ?_; (case aP => exact k42_mkM _ _ _ (⟨((rd_T42 xE_1 x11_2).f0), ((rd_T42 xE_1 x11_2).f1), ((rd_T42 xE_1 x11_2).f2)⟩ : S42)); (case aB => exact (by repeat (first | (with_reducible first | exact HB.out | apply below_alloc | apply pw_below_drewN | apply below_drew1 | refine below_set ?_ GEA.out | refine below_set ?_ GEC.out | refine below_set ?_ GEB.out | refine below_set ?_ GED.out | refine below_set ?_ GEG.out) | exact HB.out))); (case aF => exact (fun k_ hk => ⟨Kd.fresh' (Kd.R_lt (by (with_reducible repeat (first | apply Kd.R_alloc | apply Kd.R_drewN | apply Kd.R_drew)); exact HO_6.out)) k_ hk, Kd.fresh' (Kd.R_lt (by (with_reducible repeat (first | apply Kd.R_alloc | apply Kd.R_drewN | apply Kd.R_drew)); exact HO_E.out)) k_ hk, Kd.freshB (g := gbD) (o := .cells #[.string ((rd_T42 tF x7_1).f0), .string ((rd_T42 tF x7_1).f1), .int .i64 (wrap64 (((rd_T42 tF x7_1).f2) + 1))] 42 (0, 0)) (by (with_reducible repeat (first | refine blk_drewN ?_ _ | refine blk_drew ?_ | refine blk_alloc ?_ _)); exact BKD.out) k_ hk, Kd.freshB (g := gbG) (o := .cells #[.string ((rd_T42 xE_1 x11_2).f0), .string ((rd_T42 xE_1 x11_2).f1), .int .i64 ((rd_T42 xE_1 x11_2).f2)] 42 (0, 0)) (by (with_reducible repeat (first | refine blk_drewN ?_ _ | refine blk_drew ?_ | refine blk_alloc ?_ _)); exact BKG.out) k_ hk⟩)); (case aO => exact (by (with_reducible repeat (first | apply Kd.R_alloc | apply Kd.R_drewN | apply Kd.R_drew)); exact HOR.out)); (case aS => exact (below_size (by repeat (first | (with_reducible first | exact HB.out | apply below_alloc | apply pw_below_drewN | apply below_drew1 | refine below_set ?_ GEA.out | refine below_set ?_ GEC.out | refine below_set ?_ GEB.out | refine below_set ?_ GED.out | refine below_set ?_ GEG.out) | exact HB.out)))); (case aL => have := LMcAT.out; omega); intro vDL wDM ho hb hg hat; rw [← NyAK.out] at ho; have n0_ := Aside0.mk (Kd.R_after (ok := (fun k_ => some k_ ≠ (.slice (some adN) xE_1.length co38 : Value).ownBlock ∧ k_ ≠ gbD ∧ k_ ≠ gbG)) (by (with_reducible repeat (first | apply Kd.R_alloc | apply Kd.R_drewN | apply Kd.R_drew)); exact HO_6.out) hg hat); have n1_ := Aside0.mk (Kd.R_after (ok := (fun k_ => some k_ ≠ (.slice (some adO) tF.length co25 : Value).ownBlock ∧ k_ ≠ gbD ∧ k_ ≠ gbG)) (by (with_reducible repeat (first | apply Kd.R_alloc | apply Kd.R_drewN | apply Kd.R_drew)); exact HO_E.out) hg hat); have n2_ := Aside0.mk (blk_grown (g := gbA) (o := .cells #[.int .i64 a0_0, .int .i64 a0_1, .int .i64 a0_2, .int .i64 a0_3, .int .i64 a0_4, .int .i64 a0_5, .slice A0_6 l0_6.length c0_6] 24 (0, 0)) (by (with_reducible repeat (first | refine blk_drewN ?_ _ | refine blk_drew ?_ | refine blk_alloc ?_ _)); exact BKA.out) hg (Kd.R_ne HOR.out BKA.out (by decide))); have n3_ := Aside0.mk (blk_grown (g := gbC) (o := .cells #[.int .i64 0, .int .i64 0, .int .i64 0, .int .i64 0, .int .i64 0, .int .i64 0, .slice none 0 0] 24 (0, 0)) (by (with_reducible repeat (first | refine blk_drewN ?_ _ | refine blk_drew ?_ | refine blk_alloc ?_ _)); exact BKC.out) hg (Kd.R_ne HOR.out BKC.out (by decide))); have n4_ := Aside0.mk (blk_grown (g := gbB) (o := .cells #[.int .i64 (wrap64 (1 + tH)), .int .i64 tI, .int .i64 tJ, .int .i64 tK, .int .i64 tL, .int .i64 (wrap64 (tM - 1000)), .slice (some adN) xE_1.length co38] 24 (0, 0)) (by (with_reducible repeat (first | refine blk_drewN ?_ _ | refine blk_drew ?_ | refine blk_alloc ?_ _)); exact BKB.out) hg (Kd.R_ne HOR.out BKB.out (by decide))); have n5_ := Aside0.mk (blk_grown (g := gbD) (o := .cells #[.string ((rd_T42 tF x7_1).f0), .string ((rd_T42 tF x7_1).f1), .int .i64 (wrap64 (((rd_T42 tF x7_1).f2) + 1))] 42 (0, 0)) (by (with_reducible repeat (first | refine blk_drewN ?_ _ | refine blk_drew ?_ | refine blk_alloc ?_ _)); exact BKD.out) hg (Kd.R_away HOR.out (fun _ hk => hk.2.2.1))); have n6_ := Aside0.mk (blk_grown (g := gbG) (o := .cells #[.string ((rd_T42 xE_1 x11_2).f0), .string ((rd_T42 xE_1 x11_2).f1), .int .i64 ((rd_T42 xE_1 x11_2).f2)] 42 (0, 0)) (by (with_reducible repeat (first | refine blk_drewN ?_ _ | refine blk_drew ?_ | refine blk_alloc ?_ _)); exact BKG.out) hg (Kd.R_away HOR.out (fun _ hk => hk.2.2.2))); have n7_ := Aside0.mk (hb); have n8_ := Aside0.mk (ho); clear HO_6; clear HO_E; clear BKA; clear BKC; clear BKB; clear BKD; clear BKG; clear HB; clear HOR; have HO_6 := n0_; have HO_E := n1_; have BKA := n2_; have BKC := n3_; have BKB := n4_; have BKD := n5_; have BKG := n6_; have HB := n7_; have HOCA := n8_; clear n0_ n1_ n2_ n3_ n4_ n5_ n6_ n7_ n8_; clear ho hb hg hat))
               go_roundg kj32
               case measure => have := HK1.out; have := HK2.out; have := HJ32.out; omega
               case rel => exact ⟨(yAK), (true), (wrap64 (x11_2 + 1)), (by first | rfl | (simp; done) | (simp [*]; done)), (by first | rfl | (simp; done) | (simp [*]; done)), H', ⟨by have := HK1.out; have := HK2.out; have := HJ32.out; omega⟩, ⟨by (with_reducible repeat (first | apply Kd.R_alloc | apply Kd.R_drewN | apply Kd.R_drew)); exact Kd.R_mono HO_6.out (fun _ hk => ⟨hk.2, ⟨hk.1.1, hk.1.2.1⟩⟩)⟩, ⟨by (with_reducible repeat (first | apply Kd.R_alloc | apply Kd.R_drewN | apply Kd.R_drew)); exact Kd.R_mono HOCA.out (fun _ hk => ⟨hk.1, ⟨hk.2.1, hk.2.2.1⟩⟩)⟩, ⟨by (with_reducible repeat (first | apply Kd.R_alloc | apply Kd.R_drewN | apply Kd.R_drew)); exact Kd.R_mono HO_E.out (fun _ hk => ⟨hk.1.1, ⟨hk.2, hk.1.2.1⟩⟩)⟩, ⟨by (with_reducible repeat (first | refine blk_drewN ?_ _ | refine blk_drew ?_ | refine blk_alloc ?_ _)); exact BKA.out⟩, ⟨by (with_reducible repeat (first | refine blk_drewN ?_ _ | refine blk_drew ?_ | refine blk_alloc ?_ _)); exact BKC.out⟩, ⟨by (with_reducible repeat (first | refine blk_drewN ?_ _ | refine blk_drew ?_ | refine blk_alloc ?_ _)); exact BKB.out⟩, ⟨by (with_reducible repeat (first | refine blk_drewN ?_ _ | refine blk_drew ?_ | refine blk_alloc ?_ _)); exact BKD.out⟩, ⟨by repeat (first | (with_reducible first | exact HB.out | apply below_alloc | apply pw_below_drewN | apply below_drew1 | refine below_set ?_ GEA.out | refine below_set ?_ GEC.out | refine below_set ?_ GEB.out | refine below_set ?_ GED.out | refine below_set ?_ GEG.out) | exact HB.out)⟩⟩
              ·rw [if_neg cAT] at H
               exact absurd H (by simp)
            ·rw [if_neg c76] at H
             exact absurd H (by simp)
           ·replace c75 := Bool.eq_false_iff.mpr c75
            subst c75
            have H1 : (if ((rd_T42 xE_1 x11_2).f0).toList = ((rd_T42 tF x7_1).f0).toList then (if ((rd_T42 xE_1 x11_2).f1).toList = ((rd_T42 tF x7_1).f1).toList then (billetlaw16_Fit.l1 kj32 tF x7_1 x9_2 x10_2 (wrap64 (x11_2 + 1)) (wrap64 (1 + tH)) tI tJ tK tL (wrap64 (tM - 1000)) xE_1 ((rd_T42 tF x7_1).f0) ((rd_T42 tF x7_1).f1) (wrap64 (((rd_T42 tF x7_1).f2) + 1))) else (if x9_2.length < 3518437208883 then (billetlaw16_Fit.l1 kj32 tF x7_1 (x9_2 ++ [(⟨((rd_T42 xE_1 x11_2).f0), ((rd_T42 xE_1 x11_2).f1), ((rd_T42 xE_1 x11_2).f2)⟩ : S42)]) x10_2 (wrap64 (x11_2 + 1)) (wrap64 (1 + tH)) tI tJ tK tL (wrap64 (tM - 1000)) xE_1 ((rd_T42 tF x7_1).f0) ((rd_T42 tF x7_1).f1) (wrap64 (((rd_T42 tF x7_1).f2) + 1))) else (none))) else (if x9_2.length < 3518437208883 then (billetlaw16_Fit.l1 kj32 tF x7_1 (x9_2 ++ [(⟨((rd_T42 xE_1 x11_2).f0), ((rd_T42 xE_1 x11_2).f1), ((rd_T42 xE_1 x11_2).f2)⟩ : S42)]) x10_2 (wrap64 (x11_2 + 1)) (wrap64 (1 + tH)) tI tJ tK tL (wrap64 (tM - 1000)) xE_1 ((rd_T42 tF x7_1).f0) ((rd_T42 tF x7_1).f1) (wrap64 (((rd_T42 tF x7_1).f2) + 1))) else (none))) = some (r1, r2, r3, r4, r5, r6, r7) := by rw [if_neg (show ¬ (false = true) by decide)] at H; exact H
            clear H
            have H := H1
            clear H1
            by_cases cAH : ((rd_T42 xE_1 x11_2).f0).toList = ((rd_T42 tF x7_1).f0).toList
            ·rw [if_pos cAH] at H
             have cAHb0 : (((rd_T42 xE_1 x11_2).f0).toList == ((rd_T42 tF x7_1).f0).toList) = true := beq_iff_eq.mpr cAH
             have cAHb1 : (((rd_T42 xE_1 x11_2).f0).toList != ((rd_T42 tF x7_1).f0).toList) = false := bne_eq_false_iff_eq.mpr cAH
             clear cAH
             by_cases cAI : ((rd_T42 xE_1 x11_2).f1).toList = ((rd_T42 tF x7_1).f1).toList
             ·rw [if_pos cAI] at H
              have cAIb0 : (((rd_T42 xE_1 x11_2).f1).toList == ((rd_T42 tF x7_1).f1).toList) = true := beq_iff_eq.mpr cAI
              have cAIb1 : (((rd_T42 xE_1 x11_2).f1).toList != ((rd_T42 tF x7_1).f1).toList) = false := bne_eq_false_iff_eq.mpr cAI
              clear cAI
              have H' := Aside0.mk H
              clear H
              have hnbCB := NBG_A.out
              have hncCB := NBA_G.out
              have hnbCC := NBG_C.out
              have hncCC := NBC_G.out
              have hnbCD := NBG_B.out
              have hncCD := NBB_G.out
              have hnbCE := NBG_D.out
              have hncCE := NBD_G.out
              have hczBD_0 : wc.cell? ⟨gbG, 0, none⟩ = some (.string ((rd_T42 xE_1 x11_2).f0)) := (blk_cell BKG.out 0).trans rfl
              have hczBD_1 : wc.cell? ⟨gbG, 1, none⟩ = some (.string ((rd_T42 xE_1 x11_2).f1)) := (blk_cell BKG.out 1).trans rfl
              have hczBD_2 : wc.cell? ⟨gbG, 2, none⟩ = some (.int .i64 ((rd_T42 xE_1 x11_2).f2)) := (blk_cell BKG.out 2).trans rfl
              have hfzBD_0 := blk_frozen BKG.out 0
              have hfzBD_1 := blk_frozen BKG.out 1
              have hfzBD_2 := blk_frozen BKG.out 2
              have hnbCF := NBD_A.out
              have hncCF := NBA_D.out
              have hnbCG := NBD_C.out
              have hncCG := NBC_D.out
              have hnbCH := NBD_B.out
              have hncCH := NBB_D.out
              have hczBE_0 : wc.cell? ⟨gbD, 0, none⟩ = some (.string ((rd_T42 tF x7_1).f0)) := (blk_cell BKD.out 0).trans rfl
              have hczBE_1 : wc.cell? ⟨gbD, 1, none⟩ = some (.string ((rd_T42 tF x7_1).f1)) := (blk_cell BKD.out 1).trans rfl
              have hczBE_2 : wc.cell? ⟨gbD, 2, none⟩ = some (.int .i64 (wrap64 (((rd_T42 tF x7_1).f2) + 1))) := (blk_cell BKD.out 2).trans rfl
              have hfzBE_0 := blk_frozen BKD.out 0
              have hfzBE_1 := blk_frozen BKD.out 1
              have hfzBE_2 := blk_frozen BKD.out 2
              go_wp2
              go_roundg kj32
              case measure => have := HK1.out; have := HK2.out; have := HJ32.out; omega
              case rel => exact ⟨(x9_2), (x10_2), (wrap64 (x11_2 + 1)), (by first | rfl | (simp; done) | (simp [*]; done)), (by first | rfl | (simp; done) | (simp [*]; done)), H', ⟨by have := HK1.out; have := HK2.out; have := HJ32.out; omega⟩, ⟨by (with_reducible repeat (first | apply Kd.R_alloc | apply Kd.R_drewN | apply Kd.R_drew)); exact Kd.R_mono HO_6.out (fun _ hk => ⟨hk.1, ⟨hk.2.1, hk.2.2.1⟩⟩)⟩, ⟨by (with_reducible repeat (first | apply Kd.R_alloc | apply Kd.R_drewN | apply Kd.R_drew)); exact Kd.R_mono HO_9.out (fun _ hk => ⟨hk.1, ⟨hk.2.1, hk.2.2.1⟩⟩)⟩, ⟨by (with_reducible repeat (first | apply Kd.R_alloc | apply Kd.R_drewN | apply Kd.R_drew)); exact Kd.R_mono HO_E.out (fun _ hk => ⟨hk.1, ⟨hk.2.1, hk.2.2.1⟩⟩)⟩, ⟨by (with_reducible repeat (first | refine blk_drewN ?_ _ | refine blk_drew ?_ | refine blk_alloc ?_ _)); exact BKA.out⟩, ⟨by (with_reducible repeat (first | refine blk_drewN ?_ _ | refine blk_drew ?_ | refine blk_alloc ?_ _)); exact BKC.out⟩, ⟨by (with_reducible repeat (first | refine blk_drewN ?_ _ | refine blk_drew ?_ | refine blk_alloc ?_ _)); exact BKB.out⟩, ⟨by (with_reducible repeat (first | refine blk_drewN ?_ _ | refine blk_drew ?_ | refine blk_alloc ?_ _)); exact BKD.out⟩, ⟨by repeat (first | (with_reducible first | exact HB.out | apply below_alloc | apply pw_below_drewN | apply below_drew1 | refine below_set ?_ GEA.out | refine below_set ?_ GEC.out | refine below_set ?_ GEB.out | refine below_set ?_ GED.out | refine below_set ?_ GEG.out) | exact HB.out)⟩⟩
             ·rw [if_neg cAI] at H
              have cAIb0 : (((rd_T42 xE_1 x11_2).f1).toList == ((rd_T42 tF x7_1).f1).toList) = false := beq_eq_false_iff_ne.mpr cAI
              have cAIb1 : (((rd_T42 xE_1 x11_2).f1).toList != ((rd_T42 tF x7_1).f1).toList) = true := bne_iff_ne.mpr cAI
              by_cases cAV : x9_2.length < 3518437208883
              ·rw [if_pos cAV] at H
               have LMcAV := Aside0.mk cAV
               clear cAV
               obtain ⟨yAL, hyAL⟩ : ∃ y_ : List (S42), y_ = (x9_2 ++ [(⟨((rd_T42 xE_1 x11_2).f0), ((rd_T42 xE_1 x11_2).f1), ((rd_T42 xE_1 x11_2).f2)⟩ : S42)]) := ⟨_, rfl⟩
               replace H : (billetlaw16_Fit.l1 kj32 tF x7_1 yAL x10_2 (wrap64 (x11_2 + 1)) (wrap64 (1 + tH)) tI tJ tK tL (wrap64 (tM - 1000)) xE_1 ((rd_T42 tF x7_1).f0) ((rd_T42 tF x7_1).f1) (wrap64 (((rd_T42 tF x7_1).f2) + 1))) = some (r1, r2, r3, r4, r5, r6, r7) := by first | (rw [hyAL]; with_reducible exact H) | (have H2_ := (Option.bind_some _ _).symm.trans H; rw [hyAL]; with_reducible exact H2_) | (have H2_ := (Option.bind_some _ _).symm.trans H; with_reducible exact H2_) | with_reducible exact H | (rw [hyAL]; exact H) | exact H
               have NyAL := Aside0.mk hyAL
               clear hyAL
               have H' := Aside0.mk H
               clear H
               have hnbCI := NBG_A.out
               have hncCI := NBA_G.out
               have hnbCJ := NBG_C.out
               have hncCJ := NBC_G.out
               have hnbCK := NBG_B.out
               have hncCK := NBB_G.out
               have hnbCL := NBG_D.out
               have hncCL := NBD_G.out
               have hczBF_0 : wc.cell? ⟨gbG, 0, none⟩ = some (.string ((rd_T42 xE_1 x11_2).f0)) := (blk_cell BKG.out 0).trans rfl
               have hczBF_1 : wc.cell? ⟨gbG, 1, none⟩ = some (.string ((rd_T42 xE_1 x11_2).f1)) := (blk_cell BKG.out 1).trans rfl
               have hczBF_2 : wc.cell? ⟨gbG, 2, none⟩ = some (.int .i64 ((rd_T42 xE_1 x11_2).f2)) := (blk_cell BKG.out 2).trans rfl
               have hfzBF_0 := blk_frozen BKG.out 0
               have hfzBF_1 := blk_frozen BKG.out 1
               have hfzBF_2 := blk_frozen BKG.out 2
               have hnbCM := NBD_A.out
               have hncCM := NBA_D.out
               have hnbCN := NBD_C.out
               have hncCN := NBC_D.out
               have hnbCO := NBD_B.out
               have hncCO := NBB_D.out
               have hczBG_0 : wc.cell? ⟨gbD, 0, none⟩ = some (.string ((rd_T42 tF x7_1).f0)) := (blk_cell BKD.out 0).trans rfl
               have hczBG_1 : wc.cell? ⟨gbD, 1, none⟩ = some (.string ((rd_T42 tF x7_1).f1)) := (blk_cell BKD.out 1).trans rfl
               have hczBG_2 : wc.cell? ⟨gbD, 2, none⟩ = some (.int .i64 (wrap64 (((rd_T42 tF x7_1).f2) + 1))) := (blk_cell BKD.out 2).trans rfl
               have hfzBG_0 := blk_frozen BKD.out 0
               have hfzBG_1 := blk_frozen BKD.out 1
               have hfzBG_2 := blk_frozen BKD.out 2
               go_wp2_with (first | ((with_reducible refine gate_builtin (b := .append) (xs := #[.tmp 101, .tmp 103]) rfl ?_); at_builtin; refine Kd.R_append k42 (w0 := w) w.heap.size rfl (.tmp 101) (.tmp 103) 22 42 (.agg #[(.string ⟨#[]⟩), (.string ⟨#[]⟩), (.int .i64 0)]) 40 rfl Tryd.underlying22 info42 rfl (by decide) (by omega) u9 x9_2 (⟨((rd_T42 xE_1 x11_2).f0), ((rd_T42 xE_1 x11_2).f1), ((rd_T42 xE_1 x11_2).f2)⟩ : S42) [.string ((rd_T42 xE_1 x11_2).f0), .string ((rd_T42 xE_1 x11_2).f1), .int .i64 ((rd_T42 xE_1 x11_2).f2)] (fun k_ => some k_ ≠ (.slice (some adO) tF.length co25 : Value).ownBlock ∧ some k_ ≠ (.slice (some adN) xE_1.length co38 : Value).ownBlock ∧ k_ ≠ gbD ∧ k_ ≠ gbG) (fun _ => False) rfl rfl ?aP (fun _ hk => hk.elim) ?aF ?aO ?aB ?aS ?aL ?_; (case aP => exact k42_mkM _ _ _ (⟨((rd_T42 xE_1 x11_2).f0), ((rd_T42 xE_1 x11_2).f1), ((rd_T42 xE_1 x11_2).f2)⟩ : S42)); (case aB => exact (by repeat (first | (with_reducible first | exact HB.out | apply below_alloc | apply pw_below_drewN | apply below_drew1 | refine below_set ?_ GEA.out | refine below_set ?_ GEC.out | refine below_set ?_ GEB.out | refine below_set ?_ GED.out | refine below_set ?_ GEG.out) | exact HB.out))); (case aF => exact (fun k_ hk => ⟨Kd.fresh' (Kd.R_lt (by (with_reducible repeat (first | apply Kd.R_alloc | apply Kd.R_drewN | apply Kd.R_drew)); exact HO_6.out)) k_ hk, Kd.fresh' (Kd.R_lt (by (with_reducible repeat (first | apply Kd.R_alloc | apply Kd.R_drewN | apply Kd.R_drew)); exact HO_E.out)) k_ hk, Kd.freshB (g := gbD) (o := .cells #[.string ((rd_T42 tF x7_1).f0), .string ((rd_T42 tF x7_1).f1), .int .i64 (wrap64 (((rd_T42 tF x7_1).f2) + 1))] 42 (0, 0)) (by (with_reducible repeat (first | refine blk_drewN ?_ _ | refine blk_drew ?_ | refine blk_alloc ?_ _)); exact BKD.out) k_ hk, Kd.freshB (g := gbG) (o := .cells #[.string ((rd_T42 xE_1 x11_2).f0), .string ((rd_T42 xE_1 x11_2).f1), .int .i64 ((rd_T42 xE_1 x11_2).f2)] 42 (0, 0)) (by (with_reducible repeat (first | refine blk_drewN ?_ _ | refine blk_drew ?_ | refine blk_alloc ?_ _)); exact BKG.out) k_ hk⟩)); (case aO => exact (by (with_reducible repeat (first | apply Kd.R_alloc | apply Kd.R_drewN | apply Kd.R_drew)); exact HO_9.out)); (case aS => exact (below_size (by repeat (first | (with_reducible first | exact HB.out | apply below_alloc | apply pw_below_drewN | apply below_drew1 | refine below_set ?_ GEA.out | refine below_set ?_ GEC.out | refine below_set ?_ GEB.out | refine below_set ?_ GED.out | refine below_set ?_ GEG.out) | exact HB.out)))); (case aL => have := LMcAV.out; omega); intro vDN wDO ho hb hg hat; rw [← NyAL.out] at ho; have n0_ := Aside0.mk (Kd.R_after (ok := (fun k_ => some k_ ≠ (.slice (some adN) xE_1.length co38 : Value).ownBlock ∧ k_ ≠ gbD ∧ k_ ≠ gbG)) (by (with_reducible repeat (first | apply Kd.R_alloc | apply Kd.R_drewN | apply Kd.R_drew)); exact Kd.R_mono HO_6.out (fun _ hk => ⟨⟨hk.2.1, ⟨hk.2.2.1, hk.2.2.2⟩⟩, hk.1⟩)) hg hat); have n1_ := Aside0.mk (Kd.R_after (ok := (fun k_ => some k_ ≠ (.slice (some adO) tF.length co25 : Value).ownBlock ∧ k_ ≠ gbD ∧ k_ ≠ gbG)) (by (with_reducible repeat (first | apply Kd.R_alloc | apply Kd.R_drewN | apply Kd.R_drew)); exact Kd.R_mono HO_E.out (fun _ hk => ⟨⟨hk.1, ⟨hk.2.2.1, hk.2.2.2⟩⟩, hk.2.1⟩)) hg hat); have n2_ := Aside0.mk (blk_grown (g := gbA) (o := .cells #[.int .i64 a0_0, .int .i64 a0_1, .int .i64 a0_2, .int .i64 a0_3, .int .i64 a0_4, .int .i64 a0_5, .slice A0_6 l0_6.length c0_6] 24 (0, 0)) (by (with_reducible repeat (first | refine blk_drewN ?_ _ | refine blk_drew ?_ | refine blk_alloc ?_ _)); exact BKA.out) hg (Kd.R_ne HO_9.out BKA.out (by decide))); have n3_ := Aside0.mk (blk_grown (g := gbC) (o := .cells #[.int .i64 0, .int .i64 0, .int .i64 0, .int .i64 0, .int .i64 0, .int .i64 0, .slice none 0 0] 24 (0, 0)) (by (with_reducible repeat (first | refine blk_drewN ?_ _ | refine blk_drew ?_ | refine blk_alloc ?_ _)); exact BKC.out) hg (Kd.R_ne HO_9.out BKC.out (by decide))); have n4_ := Aside0.mk (blk_grown (g := gbB) (o := .cells #[.int .i64 (wrap64 (1 + tH)), .int .i64 tI, .int .i64 tJ, .int .i64 tK, .int .i64 tL, .int .i64 (wrap64 (tM - 1000)), .slice (some adN) xE_1.length co38] 24 (0, 0)) (by (with_reducible repeat (first | refine blk_drewN ?_ _ | refine blk_drew ?_ | refine blk_alloc ?_ _)); exact BKB.out) hg (Kd.R_ne HO_9.out BKB.out (by decide))); have n5_ := Aside0.mk (blk_grown (g := gbD) (o := .cells #[.string ((rd_T42 tF x7_1).f0), .string ((rd_T42 tF x7_1).f1), .int .i64 (wrap64 (((rd_T42 tF x7_1).f2) + 1))] 42 (0, 0)) (by (with_reducible repeat (first | refine blk_drewN ?_ _ | refine blk_drew ?_ | refine blk_alloc ?_ _)); exact BKD.out) hg (Kd.R_away HO_9.out (fun _ hk => hk.2.2.1))); have n6_ := Aside0.mk (blk_grown (g := gbG) (o := .cells #[.string ((rd_T42 xE_1 x11_2).f0), .string ((rd_T42 xE_1 x11_2).f1), .int .i64 ((rd_T42 xE_1 x11_2).f2)] 42 (0, 0)) (by (with_reducible repeat (first | refine blk_drewN ?_ _ | refine blk_drew ?_ | refine blk_alloc ?_ _)); exact BKG.out) hg (Kd.R_away HO_9.out (fun _ hk => hk.2.2.2))); have n7_ := Aside0.mk (hb); have n8_ := Aside0.mk (ho); clear HO_6; clear HO_E; clear BKA; clear BKC; clear BKB; clear BKD; clear BKG; clear HB; clear HO_9; have HO_6 := n0_; have HO_E := n1_; have BKA := n2_; have BKC := n3_; have BKB := n4_; have BKD := n5_; have BKG := n6_; have HB := n7_; have HOCP := n8_; clear n0_ n1_ n2_ n3_ n4_ n5_ n6_ n7_ n8_; clear ho hb hg hat))
               go_roundg kj32
               case measure => have := HK1.out; have := HK2.out; have := HJ32.out; omega
               case rel => exact ⟨(yAL), (x10_2), (wrap64 (x11_2 + 1)), (by first | rfl | (simp; done) | (simp [*]; done)), (by first | rfl | (simp; done) | (simp [*]; done)), H', ⟨by have := HK1.out; have := HK2.out; have := HJ32.out; omega⟩, ⟨by (with_reducible repeat (first | apply Kd.R_alloc | apply Kd.R_drewN | apply Kd.R_drew)); exact Kd.R_mono HO_6.out (fun _ hk => ⟨hk.2, ⟨hk.1.1, hk.1.2.1⟩⟩)⟩, ⟨by (with_reducible repeat (first | apply Kd.R_alloc | apply Kd.R_drewN | apply Kd.R_drew)); exact Kd.R_mono HOCP.out (fun _ hk => ⟨hk.1, ⟨hk.2.1, hk.2.2.1⟩⟩)⟩, ⟨by (with_reducible repeat (first | apply Kd.R_alloc | apply Kd.R_drewN | apply Kd.R_drew)); exact Kd.R_mono HO_E.out (fun _ hk => ⟨hk.1.1, ⟨hk.2, hk.1.2.1⟩⟩)⟩, ⟨by (with_reducible repeat (first | refine blk_drewN ?_ _ | refine blk_drew ?_ | refine blk_alloc ?_ _)); exact BKA.out⟩, ⟨by (with_reducible repeat (first | refine blk_drewN ?_ _ | refine blk_drew ?_ | refine blk_alloc ?_ _)); exact BKC.out⟩, ⟨by (with_reducible repeat (first | refine blk_drewN ?_ _ | refine blk_drew ?_ | refine blk_alloc ?_ _)); exact BKB.out⟩, ⟨by (with_reducible repeat (first | refine blk_drewN ?_ _ | refine blk_drew ?_ | refine blk_alloc ?_ _)); exact BKD.out⟩, ⟨by repeat (first | (with_reducible first | exact HB.out | apply below_alloc | apply pw_below_drewN | apply below_drew1 | refine below_set ?_ GEA.out | refine below_set ?_ GEC.out | refine below_set ?_ GEB.out | refine below_set ?_ GED.out | refine below_set ?_ GEG.out) | exact HB.out)⟩⟩
              ·rw [if_neg cAV] at H
               exact absurd H (by simp)
            ·rw [if_neg cAH] at H
             have cAHb0 : (((rd_T42 xE_1 x11_2).f0).toList == ((rd_T42 tF x7_1).f0).toList) = false := beq_eq_false_iff_ne.mpr cAH
             have cAHb1 : (((rd_T42 xE_1 x11_2).f0).toList != ((rd_T42 tF x7_1).f0).toList) = true := bne_iff_ne.mpr cAH
             by_cases cAW : x9_2.length < 3518437208883
             ·rw [if_pos cAW] at H
              have LMcAW := Aside0.mk cAW
              clear cAW
              obtain ⟨yAM, hyAM⟩ : ∃ y_ : List (S42), y_ = (x9_2 ++ [(⟨((rd_T42 xE_1 x11_2).f0), ((rd_T42 xE_1 x11_2).f1), ((rd_T42 xE_1 x11_2).f2)⟩ : S42)]) := ⟨_, rfl⟩
              replace H : (billetlaw16_Fit.l1 kj32 tF x7_1 yAM x10_2 (wrap64 (x11_2 + 1)) (wrap64 (1 + tH)) tI tJ tK tL (wrap64 (tM - 1000)) xE_1 ((rd_T42 tF x7_1).f0) ((rd_T42 tF x7_1).f1) (wrap64 (((rd_T42 tF x7_1).f2) + 1))) = some (r1, r2, r3, r4, r5, r6, r7) := by first | (rw [hyAM]; with_reducible exact H) | (have H2_ := (Option.bind_some _ _).symm.trans H; rw [hyAM]; with_reducible exact H2_) | (have H2_ := (Option.bind_some _ _).symm.trans H; with_reducible exact H2_) | with_reducible exact H | (rw [hyAM]; exact H) | exact H
              have NyAM := Aside0.mk hyAM
              clear hyAM
              have H' := Aside0.mk H
              clear H
              have hnbCQ := NBG_A.out
              have hncCQ := NBA_G.out
              have hnbCR := NBG_C.out
              have hncCR := NBC_G.out
              have hnbCS := NBG_B.out
              have hncCS := NBB_G.out
              have hnbCT := NBG_D.out
              have hncCT := NBD_G.out
              have hczBH_0 : wc.cell? ⟨gbG, 0, none⟩ = some (.string ((rd_T42 xE_1 x11_2).f0)) := (blk_cell BKG.out 0).trans rfl
              have hczBH_1 : wc.cell? ⟨gbG, 1, none⟩ = some (.string ((rd_T42 xE_1 x11_2).f1)) := (blk_cell BKG.out 1).trans rfl
              have hczBH_2 : wc.cell? ⟨gbG, 2, none⟩ = some (.int .i64 ((rd_T42 xE_1 x11_2).f2)) := (blk_cell BKG.out 2).trans rfl
              have hfzBH_0 := blk_frozen BKG.out 0
              have hfzBH_1 := blk_frozen BKG.out 1
              have hfzBH_2 := blk_frozen BKG.out 2
              have hnbCU := NBD_A.out
              have hncCU := NBA_D.out
              have hnbCV := NBD_C.out
              have hncCV := NBC_D.out
              have hnbCW := NBD_B.out
              have hncCW := NBB_D.out
              have hczBI_0 : wc.cell? ⟨gbD, 0, none⟩ = some (.string ((rd_T42 tF x7_1).f0)) := (blk_cell BKD.out 0).trans rfl
              have hczBI_1 : wc.cell? ⟨gbD, 1, none⟩ = some (.string ((rd_T42 tF x7_1).f1)) := (blk_cell BKD.out 1).trans rfl
              have hczBI_2 : wc.cell? ⟨gbD, 2, none⟩ = some (.int .i64 (wrap64 (((rd_T42 tF x7_1).f2) + 1))) := (blk_cell BKD.out 2).trans rfl
              have hfzBI_0 := blk_frozen BKD.out 0
              have hfzBI_1 := blk_frozen BKD.out 1
              have hfzBI_2 := blk_frozen BKD.out 2
              go_wp2_with (first | ((with_reducible refine gate_builtin (b := .append) (xs := #[.tmp 101, .tmp 103]) rfl ?_); at_builtin; refine Kd.R_append k42 (w0 := w) w.heap.size rfl (.tmp 101) (.tmp 103) 22 42 (.agg #[(.string ⟨#[]⟩), (.string ⟨#[]⟩), (.int .i64 0)]) 40 rfl Tryd.underlying22 info42 rfl (by decide) (by omega) u9 x9_2 (⟨((rd_T42 xE_1 x11_2).f0), ((rd_T42 xE_1 x11_2).f1), ((rd_T42 xE_1 x11_2).f2)⟩ : S42) [.string ((rd_T42 xE_1 x11_2).f0), .string ((rd_T42 xE_1 x11_2).f1), .int .i64 ((rd_T42 xE_1 x11_2).f2)] (fun k_ => some k_ ≠ (.slice (some adO) tF.length co25 : Value).ownBlock ∧ some k_ ≠ (.slice (some adN) xE_1.length co38 : Value).ownBlock ∧ k_ ≠ gbD ∧ k_ ≠ gbG) (fun _ => False) rfl rfl ?aP (fun _ hk => hk.elim) ?aF ?aO ?aB ?aS ?aL ?_; (case aP => exact k42_mkM _ _ _ (⟨((rd_T42 xE_1 x11_2).f0), ((rd_T42 xE_1 x11_2).f1), ((rd_T42 xE_1 x11_2).f2)⟩ : S42)); (case aB => exact (by repeat (first | (with_reducible first | exact HB.out | apply below_alloc | apply pw_below_drewN | apply below_drew1 | refine below_set ?_ GEA.out | refine below_set ?_ GEC.out | refine below_set ?_ GEB.out | refine below_set ?_ GED.out | refine below_set ?_ GEG.out) | exact HB.out))); (case aF => exact (fun k_ hk => ⟨Kd.fresh' (Kd.R_lt (by (with_reducible repeat (first | apply Kd.R_alloc | apply Kd.R_drewN | apply Kd.R_drew)); exact HO_6.out)) k_ hk, Kd.fresh' (Kd.R_lt (by (with_reducible repeat (first | apply Kd.R_alloc | apply Kd.R_drewN | apply Kd.R_drew)); exact HO_E.out)) k_ hk, Kd.freshB (g := gbD) (o := .cells #[.string ((rd_T42 tF x7_1).f0), .string ((rd_T42 tF x7_1).f1), .int .i64 (wrap64 (((rd_T42 tF x7_1).f2) + 1))] 42 (0, 0)) (by (with_reducible repeat (first | refine blk_drewN ?_ _ | refine blk_drew ?_ | refine blk_alloc ?_ _)); exact BKD.out) k_ hk, Kd.freshB (g := gbG) (o := .cells #[.string ((rd_T42 xE_1 x11_2).f0), .string ((rd_T42 xE_1 x11_2).f1), .int .i64 ((rd_T42 xE_1 x11_2).f2)] 42 (0, 0)) (by (with_reducible repeat (first | refine blk_drewN ?_ _ | refine blk_drew ?_ | refine blk_alloc ?_ _)); exact BKG.out) k_ hk⟩)); (case aO => exact (by (with_reducible repeat (first | apply Kd.R_alloc | apply Kd.R_drewN | apply Kd.R_drew)); exact HO_9.out)); (case aS => exact (below_size (by repeat (first | (with_reducible first | exact HB.out | apply below_alloc | apply pw_below_drewN | apply below_drew1 | refine below_set ?_ GEA.out | refine below_set ?_ GEC.out | refine below_set ?_ GEB.out | refine below_set ?_ GED.out | refine below_set ?_ GEG.out) | exact HB.out)))); (case aL => have := LMcAW.out; omega); intro vDP wDQ ho hb hg hat; rw [← NyAM.out] at ho; have n0_ := Aside0.mk (Kd.R_after (ok := (fun k_ => some k_ ≠ (.slice (some adN) xE_1.length co38 : Value).ownBlock ∧ k_ ≠ gbD ∧ k_ ≠ gbG)) (by (with_reducible repeat (first | apply Kd.R_alloc | apply Kd.R_drewN | apply Kd.R_drew)); exact Kd.R_mono HO_6.out (fun _ hk => ⟨⟨hk.2.1, ⟨hk.2.2.1, hk.2.2.2⟩⟩, hk.1⟩)) hg hat); have n1_ := Aside0.mk (Kd.R_after (ok := (fun k_ => some k_ ≠ (.slice (some adO) tF.length co25 : Value).ownBlock ∧ k_ ≠ gbD ∧ k_ ≠ gbG)) (by (with_reducible repeat (first | apply Kd.R_alloc | apply Kd.R_drewN | apply Kd.R_drew)); exact Kd.R_mono HO_E.out (fun _ hk => ⟨⟨hk.1, ⟨hk.2.2.1, hk.2.2.2⟩⟩, hk.2.1⟩)) hg hat); have n2_ := Aside0.mk (blk_grown (g := gbA) (o := .cells #[.int .i64 a0_0, .int .i64 a0_1, .int .i64 a0_2, .int .i64 a0_3, .int .i64 a0_4, .int .i64 a0_5, .slice A0_6 l0_6.length c0_6] 24 (0, 0)) (by (with_reducible repeat (first | refine blk_drewN ?_ _ | refine blk_drew ?_ | refine blk_alloc ?_ _)); exact BKA.out) hg (Kd.R_ne HO_9.out BKA.out (by decide))); have n3_ := Aside0.mk (blk_grown (g := gbC) (o := .cells #[.int .i64 0, .int .i64 0, .int .i64 0, .int .i64 0, .int .i64 0, .int .i64 0, .slice none 0 0] 24 (0, 0)) (by (with_reducible repeat (first | refine blk_drewN ?_ _ | refine blk_drew ?_ | refine blk_alloc ?_ _)); exact BKC.out) hg (Kd.R_ne HO_9.out BKC.out (by decide))); have n4_ := Aside0.mk (blk_grown (g := gbB) (o := .cells #[.int .i64 (wrap64 (1 + tH)), .int .i64 tI, .int .i64 tJ, .int .i64 tK, .int .i64 tL, .int .i64 (wrap64 (tM - 1000)), .slice (some adN) xE_1.length co38] 24 (0, 0)) (by (with_reducible repeat (first | refine blk_drewN ?_ _ | refine blk_drew ?_ | refine blk_alloc ?_ _)); exact BKB.out) hg (Kd.R_ne HO_9.out BKB.out (by decide))); have n5_ := Aside0.mk (blk_grown (g := gbD) (o := .cells #[.string ((rd_T42 tF x7_1).f0), .string ((rd_T42 tF x7_1).f1), .int .i64 (wrap64 (((rd_T42 tF x7_1).f2) + 1))] 42 (0, 0)) (by (with_reducible repeat (first | refine blk_drewN ?_ _ | refine blk_drew ?_ | refine blk_alloc ?_ _)); exact BKD.out) hg (Kd.R_away HO_9.out (fun _ hk => hk.2.2.1))); have n6_ := Aside0.mk (blk_grown (g := gbG) (o := .cells #[.string ((rd_T42 xE_1 x11_2).f0), .string ((rd_T42 xE_1 x11_2).f1), .int .i64 ((rd_T42 xE_1 x11_2).f2)] 42 (0, 0)) (by (with_reducible repeat (first | refine blk_drewN ?_ _ | refine blk_drew ?_ | refine blk_alloc ?_ _)); exact BKG.out) hg (Kd.R_away HO_9.out (fun _ hk => hk.2.2.2))); have n7_ := Aside0.mk (hb); have n8_ := Aside0.mk (ho); clear HO_6; clear HO_E; clear BKA; clear BKC; clear BKB; clear BKD; clear BKG; clear HB; clear HO_9; have HO_6 := n0_; have HO_E := n1_; have BKA := n2_; have BKC := n3_; have BKB := n4_; have BKD := n5_; have BKG := n6_; have HB := n7_; have HOCX := n8_; clear n0_ n1_ n2_ n3_ n4_ n5_ n6_ n7_ n8_; clear ho hb hg hat))
              go_roundg kj32
              case measure => have := HK1.out; have := HK2.out; have := HJ32.out; omega
              case rel => exact ⟨(yAM), (x10_2), (wrap64 (x11_2 + 1)), (by first | rfl | (simp; done) | (simp [*]; done)), (by first | rfl | (simp; done) | (simp [*]; done)), H', ⟨by have := HK1.out; have := HK2.out; have := HJ32.out; omega⟩, ⟨by (with_reducible repeat (first | apply Kd.R_alloc | apply Kd.R_drewN | apply Kd.R_drew)); exact Kd.R_mono HO_6.out (fun _ hk => ⟨hk.2, ⟨hk.1.1, hk.1.2.1⟩⟩)⟩, ⟨by (with_reducible repeat (first | apply Kd.R_alloc | apply Kd.R_drewN | apply Kd.R_drew)); exact Kd.R_mono HOCX.out (fun _ hk => ⟨hk.1, ⟨hk.2.1, hk.2.2.1⟩⟩)⟩, ⟨by (with_reducible repeat (first | apply Kd.R_alloc | apply Kd.R_drewN | apply Kd.R_drew)); exact Kd.R_mono HO_E.out (fun _ hk => ⟨hk.1.1, ⟨hk.2, hk.1.2.1⟩⟩)⟩, ⟨by (with_reducible repeat (first | refine blk_drewN ?_ _ | refine blk_drew ?_ | refine blk_alloc ?_ _)); exact BKA.out⟩, ⟨by (with_reducible repeat (first | refine blk_drewN ?_ _ | refine blk_drew ?_ | refine blk_alloc ?_ _)); exact BKC.out⟩, ⟨by (with_reducible repeat (first | refine blk_drewN ?_ _ | refine blk_drew ?_ | refine blk_alloc ?_ _)); exact BKB.out⟩, ⟨by (with_reducible repeat (first | refine blk_drewN ?_ _ | refine blk_drew ?_ | refine blk_alloc ?_ _)); exact BKD.out⟩, ⟨by repeat (first | (with_reducible first | exact HB.out | apply below_alloc | apply pw_below_drewN | apply below_drew1 | refine below_set ?_ GEA.out | refine below_set ?_ GEC.out | refine below_set ?_ GEB.out | refine below_set ?_ GED.out | refine below_set ?_ GEG.out) | exact HB.out)⟩⟩
             ·rw [if_neg cAW] at H
              exact absurd H (by simp)
        ·rw [if_neg c32] at H
         exact absurd H (by simp)
       ·rw [if_neg c31] at H
        have c31b0 : decide (x11_2 < (xE_1.length : Int)) = false := decide_eq_false c31
        clear c31
        by_cases cBN : x10_2 = true
        ·subst cBN
         have H1 : (billetlaw16_Fit.l0 k2 tF (wrap64 (x7_1 + 1)) (wrap64 (1 + tH)) tI tJ tK tL (wrap64 (tM - 1000)) x9_2) = some (r1, r2, r3, r4, r5, r6, r7) := by rw [if_pos rfl] at H; exact H
         clear H
         have H := H1
         clear H1
         have H' := Aside0.mk H
         clear H
         have hnbCY := NBB_A.out
         have hncCY := NBA_B.out
         have hnbCZ := NBB_C.out
         have hncCZ := NBC_B.out
         have hnbDA := NBB_D.out
         have hncDA := NBD_B.out
         have hczAA_0 : wr.cell? ⟨gbB, 0, none⟩ = some (.int .i64 (wrap64 (1 + tH))) := (blk_cell BKB.out 0).trans rfl
         have hczAA_1 : wr.cell? ⟨gbB, 1, none⟩ = some (.int .i64 tI) := (blk_cell BKB.out 1).trans rfl
         have hczAA_2 : wr.cell? ⟨gbB, 2, none⟩ = some (.int .i64 tJ) := (blk_cell BKB.out 2).trans rfl
         have hczAA_3 : wr.cell? ⟨gbB, 3, none⟩ = some (.int .i64 tK) := (blk_cell BKB.out 3).trans rfl
         have hczAA_4 : wr.cell? ⟨gbB, 4, none⟩ = some (.int .i64 tL) := (blk_cell BKB.out 4).trans rfl
         have hczAA_5 : wr.cell? ⟨gbB, 5, none⟩ = some (.int .i64 (wrap64 (tM - 1000))) := (blk_cell BKB.out 5).trans rfl
         have hczAA_6 : wr.cell? ⟨gbB, 6, none⟩ = some (uE) := (blk_cell BKB.out 6).trans rfl
         have hfzAA_0 := blk_frozen BKB.out 0
         have hfzAA_1 := blk_frozen BKB.out 1
         have hfzAA_2 := blk_frozen BKB.out 2
         have hfzAA_3 := blk_frozen BKB.out 3
         have hfzAA_4 := blk_frozen BKB.out 4
         have hfzAA_5 := blk_frozen BKB.out 5
         have hfzAA_6 := blk_frozen BKB.out 6
         obtain ⟨AoBJ, coBJ, eoBJ⟩ := Kd.R_slice HO_E.out
         subst eoBJ
         obtain ⟨AoAN, coAN, eoAN⟩ := Kd.R_slice HO_9.out
         subst eoAN
         go_wp2
         go_roundg k2
         case measure => have := HK1.out; have := HK2.out; omega
         case rel => exact ⟨(wrap64 (x7_1 + 1)), (x9_2), (.slice AoAN x9_2.length coAN), (by first | rfl | (simp; done) | (simp [*]; done)), H', ⟨by have := HK1.out; have := HK2.out; omega⟩, ⟨by (with_reducible repeat (first | apply Kd.R_alloc | apply Kd.R_drewN | apply Kd.R_drew)); exact Kd.R_mono (Kd.R_far (p := ⟨gbB, 6, none⟩) (Kd.R_types HO_6.out BKB.out (by decide)) (fun _ hk => hk.2) (.slice AoAN x9_2.length coAN)) (fun _ hk => hk.1.1)⟩, ⟨by (with_reducible repeat (first | apply Kd.R_alloc | apply Kd.R_drewN | apply Kd.R_drew)); exact Kd.R_mono (Kd.R_far (p := ⟨gbB, 6, none⟩) (Kd.R_types HO_9.out BKB.out (by decide)) (fun _ hk => hk.2) (.slice AoAN x9_2.length coAN)) (fun _ hk => hk.1.1)⟩, ⟨by (with_reducible repeat (first | refine blk_drewN ?_ _ | refine blk_drew ?_ | refine blk_alloc ?_ _)); refine blk_far ?_ NBA_B.out _; (with_reducible repeat (first | refine blk_drewN ?_ _ | refine blk_drew ?_ | refine blk_alloc ?_ _)); exact BKA.out⟩, ⟨by (with_reducible repeat (first | refine blk_drewN ?_ _ | refine blk_drew ?_ | refine blk_alloc ?_ _)); refine blk_far ?_ NBC_B.out _; (with_reducible repeat (first | refine blk_drewN ?_ _ | refine blk_drew ?_ | refine blk_alloc ?_ _)); exact BKC.out⟩, ⟨by (with_reducible repeat (first | refine blk_drewN ?_ _ | refine blk_drew ?_ | refine blk_alloc ?_ _)); refine blk_put (cs := #[.int .i64 (wrap64 (1 + tH)), .int .i64 tI, .int .i64 tJ, .int .i64 tK, .int .i64 tL, .int .i64 (wrap64 (tM - 1000)), .slice AoBJ xE_1.length coBJ]) ?_ 6 _ rfl; (with_reducible repeat (first | refine blk_drewN ?_ _ | refine blk_drew ?_ | refine blk_alloc ?_ _)); exact BKB.out⟩, ⟨by repeat (first | (with_reducible first | exact HB.out | apply below_alloc | apply pw_below_drewN | apply below_drew1 | refine below_set ?_ GEA.out | refine below_set ?_ GEC.out | refine below_set ?_ GEB.out | refine below_set ?_ GED.out) | exact HB.out)⟩⟩
        ·replace cBN := Bool.eq_false_iff.mpr cBN
         subst cBN
         have H1 : (if x9_2.length < 3518437208883 then (billetlaw16_Fit.l0 k2 tF (wrap64 (x7_1 + 1)) (wrap64 (1 + tH)) tI tJ tK tL (wrap64 (tM - 1000)) (x9_2 ++ [(⟨((rd_T42 tF x7_1).f0), ((rd_T42 tF x7_1).f1), (wrap64 (((rd_T42 tF x7_1).f2) + 1))⟩ : S42)])) else (none)) = some (r1, r2, r3, r4, r5, r6, r7) := by rw [if_neg (show ¬ (false = true) by decide)] at H; exact H
         clear H
         have H := H1
         clear H1
         by_cases cAX : x9_2.length < 3518437208883
         ·rw [if_pos cAX] at H
          have LMcAX := Aside0.mk cAX
          clear cAX
          obtain ⟨yAB, hyAB⟩ : ∃ y_ : List (S42), y_ = (x9_2 ++ [(⟨((rd_T42 tF x7_1).f0), ((rd_T42 tF x7_1).f1), (wrap64 (((rd_T42 tF x7_1).f2) + 1))⟩ : S42)]) := ⟨_, rfl⟩
          replace H : (billetlaw16_Fit.l0 k2 tF (wrap64 (x7_1 + 1)) (wrap64 (1 + tH)) tI tJ tK tL (wrap64 (tM - 1000)) yAB) = some (r1, r2, r3, r4, r5, r6, r7) := by first | (rw [hyAB]; with_reducible exact H) | (have H2_ := (Option.bind_some _ _).symm.trans H; rw [hyAB]; with_reducible exact H2_) | (have H2_ := (Option.bind_some _ _).symm.trans H; with_reducible exact H2_) | with_reducible exact H | (rw [hyAB]; exact H) | exact H
          have NyAB := Aside0.mk hyAB
          clear hyAB
          have H' := Aside0.mk H
          clear H
          have hnbDB := NBB_A.out
          have hncDB := NBA_B.out
          have hnbDC := NBB_C.out
          have hncDC := NBC_B.out
          have hnbDD := NBB_D.out
          have hncDD := NBD_B.out
          have hczAC_0 : wr.cell? ⟨gbB, 0, none⟩ = some (.int .i64 (wrap64 (1 + tH))) := (blk_cell BKB.out 0).trans rfl
          have hczAC_1 : wr.cell? ⟨gbB, 1, none⟩ = some (.int .i64 tI) := (blk_cell BKB.out 1).trans rfl
          have hczAC_2 : wr.cell? ⟨gbB, 2, none⟩ = some (.int .i64 tJ) := (blk_cell BKB.out 2).trans rfl
          have hczAC_3 : wr.cell? ⟨gbB, 3, none⟩ = some (.int .i64 tK) := (blk_cell BKB.out 3).trans rfl
          have hczAC_4 : wr.cell? ⟨gbB, 4, none⟩ = some (.int .i64 tL) := (blk_cell BKB.out 4).trans rfl
          have hczAC_5 : wr.cell? ⟨gbB, 5, none⟩ = some (.int .i64 (wrap64 (tM - 1000))) := (blk_cell BKB.out 5).trans rfl
          have hczAC_6 : wr.cell? ⟨gbB, 6, none⟩ = some (uE) := (blk_cell BKB.out 6).trans rfl
          have hfzAC_0 := blk_frozen BKB.out 0
          have hfzAC_1 := blk_frozen BKB.out 1
          have hfzAC_2 := blk_frozen BKB.out 2
          have hfzAC_3 := blk_frozen BKB.out 3
          have hfzAC_4 := blk_frozen BKB.out 4
          have hfzAC_5 := blk_frozen BKB.out 5
          have hfzAC_6 := blk_frozen BKB.out 6
          obtain ⟨AoAD, coAD, eoAD⟩ := Kd.R_slice HO_E.out
          subst eoAD
          have hnbDE := NBD_A.out
          have hncDE := NBA_D.out
          have hnbDF := NBD_C.out
          have hncDF := NBC_D.out
          have hczBK_0 : wr.cell? ⟨gbD, 0, none⟩ = some (.string ((rd_T42 tF x7_1).f0)) := (blk_cell BKD.out 0).trans rfl
          have hczBK_1 : wr.cell? ⟨gbD, 1, none⟩ = some (.string ((rd_T42 tF x7_1).f1)) := (blk_cell BKD.out 1).trans rfl
          have hczBK_2 : wr.cell? ⟨gbD, 2, none⟩ = some (.int .i64 (wrap64 (((rd_T42 tF x7_1).f2) + 1))) := (blk_cell BKD.out 2).trans rfl
          have hfzBK_0 := blk_frozen BKD.out 0
          have hfzBK_1 := blk_frozen BKD.out 1
          have hfzBK_2 := blk_frozen BKD.out 2
          go_wp2_with (first | ((with_reducible refine gate_builtin (b := .append) (xs := #[.tmp 107, .tmp 109]) rfl ?_); at_builtin; refine Kd.R_append k42 (w0 := w) w.heap.size rfl (.tmp 107) (.tmp 109) 22 42 (.agg #[(.string ⟨#[]⟩), (.string ⟨#[]⟩), (.int .i64 0)]) 40 rfl Tryd.underlying22 info42 rfl (by decide) (by omega) u9 x9_2 (⟨((rd_T42 tF x7_1).f0), ((rd_T42 tF x7_1).f1), (wrap64 (((rd_T42 tF x7_1).f2) + 1))⟩ : S42) [.string ((rd_T42 tF x7_1).f0), .string ((rd_T42 tF x7_1).f1), .int .i64 (wrap64 (((rd_T42 tF x7_1).f2) + 1))] (fun k_ => some k_ ≠ (.slice (some adO) tF.length co25 : Value).ownBlock ∧ some k_ ≠ (.slice AoAD xE_1.length coAD : Value).ownBlock ∧ k_ ≠ gbD) (fun _ => False) rfl rfl ?aP (fun _ hk => hk.elim) ?aF ?aO ?aB ?aS ?aL ?_; (case aP => exact k42_mkM _ _ _ (⟨((rd_T42 tF x7_1).f0), ((rd_T42 tF x7_1).f1), (wrap64 (((rd_T42 tF x7_1).f2) + 1))⟩ : S42)); (case aB => exact (by repeat (first | (with_reducible first | exact HB.out | apply below_alloc | apply pw_below_drewN | apply below_drew1 | refine below_set ?_ GEA.out | refine below_set ?_ GEC.out | refine below_set ?_ GEB.out | refine below_set ?_ GED.out) | exact HB.out))); (case aF => exact (fun k_ hk => ⟨Kd.fresh' (Kd.R_lt (by (with_reducible repeat (first | apply Kd.R_alloc | apply Kd.R_drewN | apply Kd.R_drew)); exact HO_6.out)) k_ hk, Kd.fresh' (Kd.R_lt (by (with_reducible repeat (first | apply Kd.R_alloc | apply Kd.R_drewN | apply Kd.R_drew)); exact HO_E.out)) k_ hk, Kd.freshB (g := gbD) (o := .cells #[.string ((rd_T42 tF x7_1).f0), .string ((rd_T42 tF x7_1).f1), .int .i64 (wrap64 (((rd_T42 tF x7_1).f2) + 1))] 42 (0, 0)) (by (with_reducible repeat (first | refine blk_drewN ?_ _ | refine blk_drew ?_ | refine blk_alloc ?_ _)); exact BKD.out) k_ hk⟩)); (case aO => exact (by (with_reducible repeat (first | apply Kd.R_alloc | apply Kd.R_drewN | apply Kd.R_drew)); exact HO_9.out)); (case aS => exact (below_size (by repeat (first | (with_reducible first | exact HB.out | apply below_alloc | apply pw_below_drewN | apply below_drew1 | refine below_set ?_ GEA.out | refine below_set ?_ GEC.out | refine below_set ?_ GEB.out | refine below_set ?_ GED.out) | exact HB.out)))); (case aL => have := LMcAX.out; omega); intro vDR wAP ho hb hg hat; rw [← NyAB.out] at ho; have n0_ := Aside0.mk (Kd.R_after (ok := (fun k_ => some k_ ≠ (.slice AoAD xE_1.length coAD : Value).ownBlock ∧ k_ ≠ gbD)) (by (with_reducible repeat (first | apply Kd.R_alloc | apply Kd.R_drewN | apply Kd.R_drew)); exact Kd.R_mono HO_6.out (fun _ hk => ⟨⟨hk.2.1, hk.2.2⟩, hk.1⟩)) hg hat); have n1_ := Aside0.mk (Kd.R_after (ok := (fun k_ => some k_ ≠ (.slice (some adO) tF.length co25 : Value).ownBlock ∧ k_ ≠ gbD)) (by (with_reducible repeat (first | apply Kd.R_alloc | apply Kd.R_drewN | apply Kd.R_drew)); exact Kd.R_mono HO_E.out (fun _ hk => ⟨⟨hk.1, hk.2.2⟩, hk.2.1⟩)) hg hat); have n2_ := Aside0.mk (blk_grown (g := gbA) (o := .cells #[.int .i64 a0_0, .int .i64 a0_1, .int .i64 a0_2, .int .i64 a0_3, .int .i64 a0_4, .int .i64 a0_5, .slice A0_6 l0_6.length c0_6] 24 (0, 0)) (by (with_reducible repeat (first | refine blk_drewN ?_ _ | refine blk_drew ?_ | refine blk_alloc ?_ _)); exact BKA.out) hg (Kd.R_ne HO_9.out BKA.out (by decide))); have n3_ := Aside0.mk (blk_grown (g := gbC) (o := .cells #[.int .i64 0, .int .i64 0, .int .i64 0, .int .i64 0, .int .i64 0, .int .i64 0, .slice none 0 0] 24 (0, 0)) (by (with_reducible repeat (first | refine blk_drewN ?_ _ | refine blk_drew ?_ | refine blk_alloc ?_ _)); exact BKC.out) hg (Kd.R_ne HO_9.out BKC.out (by decide))); have n4_ := Aside0.mk (blk_grown (g := gbB) (o := .cells #[.int .i64 (wrap64 (1 + tH)), .int .i64 tI, .int .i64 tJ, .int .i64 tK, .int .i64 tL, .int .i64 (wrap64 (tM - 1000)), .slice AoAD xE_1.length coAD] 24 (0, 0)) (by (with_reducible repeat (first | refine blk_drewN ?_ _ | refine blk_drew ?_ | refine blk_alloc ?_ _)); exact BKB.out) hg (Kd.R_ne HO_9.out BKB.out (by decide))); have n5_ := Aside0.mk (blk_grown (g := gbD) (o := .cells #[.string ((rd_T42 tF x7_1).f0), .string ((rd_T42 tF x7_1).f1), .int .i64 (wrap64 (((rd_T42 tF x7_1).f2) + 1))] 42 (0, 0)) (by (with_reducible repeat (first | refine blk_drewN ?_ _ | refine blk_drew ?_ | refine blk_alloc ?_ _)); exact BKD.out) hg (Kd.R_away HO_9.out (fun _ hk => hk.2.2))); have n6_ := Aside0.mk (hb); have n7_ := Aside0.mk (ho); clear HO_6; clear HO_E; clear BKA; clear BKC; clear BKB; clear BKD; clear HB; clear HO_9; have HO_6 := n0_; have HO_E := n1_; have BKA := n2_; have BKC := n3_; have BKB := n4_; have BKD := n5_; have HB := n6_; have HOBQ := n7_; clear n0_ n1_ n2_ n3_ n4_ n5_ n6_ n7_; clear ho hb hg hat; obtain ⟨AoAO, coAO, eoAO⟩ := Kd.R_slice HOBQ.out; subst eoAO; have hczAE_0 : wAP.cell? ⟨gbB, 0, none⟩ = some (.int .i64 (wrap64 (1 + tH))) := (blk_cell BKB.out 0).trans rfl; have hczAE_1 : wAP.cell? ⟨gbB, 1, none⟩ = some (.int .i64 tI) := (blk_cell BKB.out 1).trans rfl; have hczAE_2 : wAP.cell? ⟨gbB, 2, none⟩ = some (.int .i64 tJ) := (blk_cell BKB.out 2).trans rfl; have hczAE_3 : wAP.cell? ⟨gbB, 3, none⟩ = some (.int .i64 tK) := (blk_cell BKB.out 3).trans rfl; have hczAE_4 : wAP.cell? ⟨gbB, 4, none⟩ = some (.int .i64 tL) := (blk_cell BKB.out 4).trans rfl; have hczAE_5 : wAP.cell? ⟨gbB, 5, none⟩ = some (.int .i64 (wrap64 (tM - 1000))) := (blk_cell BKB.out 5).trans rfl; have hczAE_6 : wAP.cell? ⟨gbB, 6, none⟩ = some (.slice AoAD xE_1.length coAD) := (blk_cell BKB.out 6).trans rfl; have hfzAE_0 := blk_frozen BKB.out 0; have hfzAE_1 := blk_frozen BKB.out 1; have hfzAE_2 := blk_frozen BKB.out 2; have hfzAE_3 := blk_frozen BKB.out 3; have hfzAE_4 := blk_frozen BKB.out 4; have hfzAE_5 := blk_frozen BKB.out 5; have hfzAE_6 := blk_frozen BKB.out 6))
          go_roundg k2
          case measure => have := HK1.out; have := HK2.out; omega
          case rel => exact ⟨(wrap64 (x7_1 + 1)), (yAB), (.slice AoAO yAB.length coAO), (by first | rfl | (simp; done) | (simp [*]; done)), H', ⟨by have := HK1.out; have := HK2.out; omega⟩, ⟨by (with_reducible repeat (first | apply Kd.R_alloc | apply Kd.R_drewN | apply Kd.R_drew)); exact Kd.R_mono (Kd.R_far (p := ⟨gbB, 6, none⟩) (Kd.R_types HO_6.out BKB.out (by decide)) (fun _ hk => hk.2) (.slice AoAO yAB.length coAO)) (fun _ hk => hk.1.2)⟩, ⟨by (with_reducible repeat (first | apply Kd.R_alloc | apply Kd.R_drewN | apply Kd.R_drew)); exact Kd.R_mono (Kd.R_far (p := ⟨gbB, 6, none⟩) (Kd.R_types HOBQ.out BKB.out (by decide)) (fun _ hk => hk.2) (.slice AoAO yAB.length coAO)) (fun _ hk => hk.1.1)⟩, ⟨by (with_reducible repeat (first | refine blk_drewN ?_ _ | refine blk_drew ?_ | refine blk_alloc ?_ _)); refine blk_far ?_ NBA_B.out _; (with_reducible repeat (first | refine blk_drewN ?_ _ | refine blk_drew ?_ | refine blk_alloc ?_ _)); exact BKA.out⟩, ⟨by (with_reducible repeat (first | refine blk_drewN ?_ _ | refine blk_drew ?_ | refine blk_alloc ?_ _)); refine blk_far ?_ NBC_B.out _; (with_reducible repeat (first | refine blk_drewN ?_ _ | refine blk_drew ?_ | refine blk_alloc ?_ _)); exact BKC.out⟩, ⟨by (with_reducible repeat (first | refine blk_drewN ?_ _ | refine blk_drew ?_ | refine blk_alloc ?_ _)); refine blk_put (cs := #[.int .i64 (wrap64 (1 + tH)), .int .i64 tI, .int .i64 tJ, .int .i64 tK, .int .i64 tL, .int .i64 (wrap64 (tM - 1000)), .slice AoAD xE_1.length coAD]) ?_ 6 _ rfl; (with_reducible repeat (first | refine blk_drewN ?_ _ | refine blk_drew ?_ | refine blk_alloc ?_ _)); exact BKB.out⟩, ⟨by repeat (first | (with_reducible first | exact HB.out | apply below_alloc | apply pw_below_drewN | apply below_drew1 | refine below_set ?_ GEA.out | refine below_set ?_ GEC.out | refine below_set ?_ GEB.out | refine below_set ?_ GED.out) | exact HB.out)⟩⟩
         ·rw [if_neg cAX] at H
          exact absurd H (by simp)
    ·rw [if_neg c24] at H
     exact absurd H (by simp)
   ·rw [if_neg c23] at H
    have c23b0 : decide (x7_1 < (tF.length : Int)) = false := decide_eq_false c23
    clear c23
    simp only [Option.some.injEq, Prod.mk.injEq] at H
    obtain ⟨rfl, rfl, rfl, rfl, rfl, rfl, rfl⟩ := H
    obtain ⟨AoBO, coBO, eoBO⟩ := Kd.R_slice HO_6.out
    subst eoBO
    have hnbDG := NBB_A.out
    have hncDG := NBA_B.out
    have hnbDH := NBB_C.out
    have hncDH := NBC_B.out
    have hczAF_0 : wr.cell? ⟨gbB, 0, none⟩ = some (.int .i64 (wrap64 (1 + tH))) := (blk_cell BKB.out 0).trans rfl
    have hczAF_1 : wr.cell? ⟨gbB, 1, none⟩ = some (.int .i64 tI) := (blk_cell BKB.out 1).trans rfl
    have hczAF_2 : wr.cell? ⟨gbB, 2, none⟩ = some (.int .i64 tJ) := (blk_cell BKB.out 2).trans rfl
    have hczAF_3 : wr.cell? ⟨gbB, 3, none⟩ = some (.int .i64 tK) := (blk_cell BKB.out 3).trans rfl
    have hczAF_4 : wr.cell? ⟨gbB, 4, none⟩ = some (.int .i64 tL) := (blk_cell BKB.out 4).trans rfl
    have hczAF_5 : wr.cell? ⟨gbB, 5, none⟩ = some (.int .i64 (wrap64 (tM - 1000))) := (blk_cell BKB.out 5).trans rfl
    have hczAF_6 : wr.cell? ⟨gbB, 6, none⟩ = some (uE) := (blk_cell BKB.out 6).trans rfl
    have hfzAF_0 := blk_frozen BKB.out 0
    have hfzAF_1 := blk_frozen BKB.out 1
    have hfzAF_2 := blk_frozen BKB.out 2
    have hfzAF_3 := blk_frozen BKB.out 3
    have hfzAF_4 := blk_frozen BKB.out 4
    have hfzAF_5 := blk_frozen BKB.out 5
    have hfzAF_6 := blk_frozen BKB.out 6
    have hnbDI := NBC_A.out
    have hncDI := NBA_C.out
    have hczAG_0 : wr.cell? ⟨gbC, 0, none⟩ = some (.int .i64 0) := (blk_cell BKC.out 0).trans rfl
    have hczAG_1 : wr.cell? ⟨gbC, 1, none⟩ = some (.int .i64 0) := (blk_cell BKC.out 1).trans rfl
    have hczAG_2 : wr.cell? ⟨gbC, 2, none⟩ = some (.int .i64 0) := (blk_cell BKC.out 2).trans rfl
    have hczAG_3 : wr.cell? ⟨gbC, 3, none⟩ = some (.int .i64 0) := (blk_cell BKC.out 3).trans rfl
    have hczAG_4 : wr.cell? ⟨gbC, 4, none⟩ = some (.int .i64 0) := (blk_cell BKC.out 4).trans rfl
    have hczAG_5 : wr.cell? ⟨gbC, 5, none⟩ = some (.int .i64 0) := (blk_cell BKC.out 5).trans rfl
    have hczAG_6 : wr.cell? ⟨gbC, 6, none⟩ = some (.slice none 0 0) := (blk_cell BKC.out 6).trans rfl
    have hfzAG_0 := blk_frozen BKC.out 0
    have hfzAG_1 := blk_frozen BKC.out 1
    have hfzAG_2 := blk_frozen BKC.out 2
    have hfzAG_3 := blk_frozen BKC.out 3
    have hfzAG_4 := blk_frozen BKC.out 4
    have hfzAG_5 := blk_frozen BKC.out 5
    have hfzAG_6 := blk_frozen BKC.out 6
    obtain ⟨AoAQ, coAQ, eoAQ⟩ := Kd.R_slice HO_E.out
    subst eoAQ
    go_wp2
    refine bodyPost_ret (results_cell_row rfl _ _ gbC 24 #[.int .i64 (wrap64 (1 + tH)), .int .i64 tI, .int .i64 tJ, .int .i64 tK, .int .i64 tL, .int .i64 (wrap64 (tM - 1000)), .slice AoAQ xE_1.length coAQ] (0, 0) _ rfl (by (with_reducible repeat (first | refine blk_drewN ?_ _ | refine blk_drew ?_ | refine blk_alloc ?_ _)); refine blk_put (cs := #[.int .i64 (wrap64 (1 + tH)), .int .i64 tI, .int .i64 tJ, .int .i64 tK, .int .i64 tL, .int .i64 (wrap64 (tM - 1000)), .slice none 0 0]) ?_ 6 _ rfl; (with_reducible repeat (first | refine blk_drewN ?_ _ | refine blk_drew ?_ | refine blk_alloc ?_ _)); refine blk_put (cs := #[.int .i64 (wrap64 (1 + tH)), .int .i64 tI, .int .i64 tJ, .int .i64 tK, .int .i64 tL, .int .i64 0, .slice none 0 0]) ?_ 5 _ rfl; (with_reducible repeat (first | refine blk_drewN ?_ _ | refine blk_drew ?_ | refine blk_alloc ?_ _)); refine blk_put (cs := #[.int .i64 (wrap64 (1 + tH)), .int .i64 tI, .int .i64 tJ, .int .i64 tK, .int .i64 0, .int .i64 0, .slice none 0 0]) ?_ 4 _ rfl; (with_reducible repeat (first | refine blk_drewN ?_ _ | refine blk_drew ?_ | refine blk_alloc ?_ _)); refine blk_put (cs := #[.int .i64 (wrap64 (1 + tH)), .int .i64 tI, .int .i64 tJ, .int .i64 0, .int .i64 0, .int .i64 0, .slice none 0 0]) ?_ 3 _ rfl; (with_reducible repeat (first | refine blk_drewN ?_ _ | refine blk_drew ?_ | refine blk_alloc ?_ _)); refine blk_put (cs := #[.int .i64 (wrap64 (1 + tH)), .int .i64 tI, .int .i64 0, .int .i64 0, .int .i64 0, .int .i64 0, .slice none 0 0]) ?_ 2 _ rfl; (with_reducible repeat (first | refine blk_drewN ?_ _ | refine blk_drew ?_ | refine blk_alloc ?_ _)); refine blk_put (cs := #[.int .i64 (wrap64 (1 + tH)), .int .i64 0, .int .i64 0, .int .i64 0, .int .i64 0, .int .i64 0, .slice none 0 0]) ?_ 1 _ rfl; (with_reducible repeat (first | refine blk_drewN ?_ _ | refine blk_drew ?_ | refine blk_alloc ?_ _)); refine blk_put (cs := #[.int .i64 0, .int .i64 0, .int .i64 0, .int .i64 0, .int .i64 0, .int .i64 0, .slice none 0 0]) ?_ 0 _ rfl; (with_reducible repeat (first | refine blk_drewN ?_ _ | refine blk_drew ?_ | refine blk_alloc ?_ _)); exact BKC.out) Tryd.underlying24 rfl (by kernel_rfl)) rfl ?_
    exact ⟨_, by first | rfl | (simp [errW_none, errW_some] <;> rfl) | (simp [*, errW_none, errW_some] <;> rfl), by (with_reducible repeat (first | apply Kd.R_alloc | apply Kd.R_drewN | apply Kd.R_drew)); exact Kd.R_mono (Kd.R_far (p := ⟨gbC, 6, none⟩) (Kd.R_far (p := ⟨gbC, 5, none⟩) (Kd.R_far (p := ⟨gbC, 4, none⟩) (Kd.R_far (p := ⟨gbC, 3, none⟩) (Kd.R_far (p := ⟨gbC, 2, none⟩) (Kd.R_far (p := ⟨gbC, 1, none⟩) (Kd.R_far (p := ⟨gbC, 0, none⟩) (Kd.R_types HO_E.out BKC.out (by decide)) (fun _ hk => hk.2) (.int .i64 (wrap64 (1 + tH)))) (fun _ hk => hk.2) (.int .i64 tI)) (fun _ hk => hk.2) (.int .i64 tJ)) (fun _ hk => hk.2) (.int .i64 tK)) (fun _ hk => hk.2) (.int .i64 tL)) (fun _ hk => hk.2) (.int .i64 (wrap64 (tM - 1000)))) (fun _ hk => hk.2) (.slice AoAQ xE_1.length coAQ)) (fun _ hk => trivial), by repeat (first | (with_reducible first | exact HB.out | apply below_alloc | apply pw_below_drewN | apply below_drew1 | refine below_set ?_ GEA.out | refine below_set ?_ GEC.out | refine below_set ?_ GEB.out) | exact HB.out)⟩

end Go.Proofs.YtdgaancbeakfdaaDoor.Q
