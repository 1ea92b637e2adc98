-- Written by a program of this session (mp.py, merge.py).
import Derived.Test.YtdgaancbeakfdaaDoorSp
import Derived.Test.YtdgaancbeakfdaaDoorQx0
import Derived.Test.YtdgaancbeakfdaaDoorQy7
import Derived.Test.YtdgaancbeakfdaaDoorQy6
import Derived.Test.YtdgaancbeakfdaaDoorQx61
namespace Go.Proofs.YtdgaancbeakfdaaDoor.Q
open Go.RowKit Go.Proofs.YtdgaancbeakfdaaDoorW.PrintWords Go.Proofs.YtdgaancbeakfdaaDoorW.PrintLast Go.Proofs.YtdgaancbeakfdaaDoor.Mo
attribute [local go_sem] max2_int min2_int max_two min_two max_three min_three max_four min_four   -- for this text's walks alone
open Go.Proofs.YtdgaancbeakfdaaDoor.Giv Go.Proofs.YtdgaancbeakfdaaDoor.Gn
set_option linter.unusedVariables false
set_option linter.unusedSimpArgs false

/-! ### billetref03_four: function 47 -/
def billetref03_four.f (a0 : Int) : Option (ByteArray) := some (strOfNums (([(Int.tmod (wrap64 (Int.tdiv a0 16777216)) 256) % 256, (Int.tmod (wrap64 (Int.tdiv a0 65536)) 256) % 256, (Int.tmod (wrap64 (Int.tdiv a0 256)) 256) % 256, (Int.tmod a0 256) % 256] : List Int)))
set_option maxHeartbeats 8000000 in
set_option maxRecDepth 100000 in
theorem billetref03_four.calls (a0 : Int) (r : ByteArray) (w : World) (h : billetref03_four.f a0 = some r) :
    Calls Tryd.prog 47 #[.int .i64 a0] w fun e w' => e = .returned (.string r) ∧ Below w.heap.size w w' := by
  have HB := Aside0.mk (Below.refl w.heap.size w)
  have H : (some (strOfNums (([(Int.tmod (wrap64 (Int.tdiv a0 16777216)) 256) % 256, (Int.tmod (wrap64 (Int.tdiv a0 65536)) 256) % 256, (Int.tmod (wrap64 (Int.tdiv a0 256)) 256) % 256, (Int.tmod a0 256) % 256] : List Int)))) = some r := h
  clear h
  obtain ⟨y248, hy248⟩ : ∃ y_ : List Int, y_ = (([(Int.tmod (wrap64 (Int.tdiv a0 16777216)) 256) % 256, (Int.tmod (wrap64 (Int.tdiv a0 65536)) 256) % 256, (Int.tmod (wrap64 (Int.tdiv a0 256)) 256) % 256, (Int.tmod a0 256) % 256] : List Int)) := ⟨_, rfl⟩
  replace H : (some (strOfNums y248)) = some r := by first | (rw [hy248]; with_reducible exact H) | (have H2_ := (Option.bind_some _ _).symm.trans H; rw [hy248]; with_reducible exact H2_) | (have H2_ := (Option.bind_some _ _).symm.trans H; with_reducible exact H2_) | with_reducible exact H | (rw [hy248]; exact H) | exact H
  have Ny248 := Aside0.mk hy248
  clear hy248
  obtain rfl := Option.some.inj H
  go_enter Tryd.func47, Tryd.ntmps47
  go_wp2_with (first | ((with_reducible refine gate_dst (N := 18) rfl ?_); refine Kd.R_lit (Kd.int .u8) _ 5 ?hg (N := 18) ?hd (xs := ([(Int.tmod (wrap64 (Int.tdiv a0 16777216)) 256) % 256, (Int.tmod (wrap64 (Int.tdiv a0 65536)) 256) % 256, (Int.tmod (wrap64 (Int.tdiv a0 256)) 256) % 256, (Int.tmod a0 256) % 256] : List Int)) (inner := [.int .u8 ((Int.tmod (wrap64 (Int.tdiv a0 16777216)) 256) % 256), .int .u8 ((Int.tmod (wrap64 (Int.tdiv a0 65536)) 256) % 256), .int .u8 ((Int.tmod (wrap64 (Int.tdiv a0 256)) 256) % 256), .int .u8 ((Int.tmod a0 256) % 256)]) (ok := fun _ => True) (okp := fun _ => True) ?hr ?hp (fun _ hk => hk) trivial (Below.refl _ _) (Nat.le_refl _) (by simp) ?_; (case hd => rfl); (case hg => rfl); (case hr => first | (go_simp; done) | (go_simp; rfl)); (case hp => exact (Reps.one (show Kd.M (Kd.int .u8) _ _ _ ((Int.tmod (wrap64 (Int.tdiv a0 16777216)) 256) % 256) [.int .u8 ((Int.tmod (wrap64 (Int.tdiv a0 16777216)) 256) % 256)] from rfl) (Reps.one (show Kd.M (Kd.int .u8) _ _ _ ((Int.tmod (wrap64 (Int.tdiv a0 65536)) 256) % 256) [.int .u8 ((Int.tmod (wrap64 (Int.tdiv a0 65536)) 256) % 256)] from rfl) (Reps.one (show Kd.M (Kd.int .u8) _ _ _ ((Int.tmod (wrap64 (Int.tdiv a0 256)) 256) % 256) [.int .u8 ((Int.tmod (wrap64 (Int.tdiv a0 256)) 256) % 256)] from rfl) (Reps.one (show Kd.M (Kd.int .u8) _ _ _ ((Int.tmod a0 256) % 256) [.int .u8 ((Int.tmod a0 256) % 256)] from rfl) (Reps.none _ _)))))); intro v249 w2 ho3 hb hg_ hnew_; clear hg_ hnew_; (first | rw [← Ny248.out] at ho3 | (simp only [Int.reduceToNat] at ho3; rw [← Ny248.out] at ho3)); have n0_ := Aside0.mk (Kd.R_lower ho3 (below_size (by repeat (first | (with_reducible first | exact HB.out | apply below_alloc | apply pw_below_drewN | apply below_drew1) | exact HB.out)))); have n1_ := Aside0.mk (below_step (by repeat (first | (with_reducible first | exact HB.out | apply below_alloc | apply pw_below_drewN | apply below_drew1) | exact HB.out)) hb); clear HB; have HO250 := n0_; have HB := n1_; clear n0_ n1_; clear hb ho3; have hcv4 := own_string (P := Tryd.prog) Tryd.underlying38 Tryd.underlying5 Tryd.underlying9 (Kd.own_of_R HO250.out)))
  go_ret
  exact ⟨by first | rfl | (simp [errW_none, errW_some] <;> rfl) | (simp [*, errW_none, errW_some] <;> rfl), by repeat (first | (with_reducible first | exact HB.out | apply below_alloc | apply pw_below_drewN | apply below_drew1) | exact HB.out)⟩

end Go.Proofs.YtdgaancbeakfdaaDoor.Q
namespace Go.Proofs.YtdgaancbeakfdaaDoor.Q
open Go.RowKit Go.Proofs.YtdgaancbeakfdaaDoorW.PrintWords Go.Proofs.YtdgaancbeakfdaaDoorW.PrintLast Go.Proofs.YtdgaancbeakfdaaDoor.Mo
attribute [local go_sem] max2_int min2_int max_two min_two max_three min_three max_four min_four   -- for this text's walks alone
open Go.Proofs.YtdgaancbeakfdaaDoor.Giv Go.Proofs.YtdgaancbeakfdaaDoor.Gn
set_option linter.unusedVariables false
set_option linter.unusedSimpArgs false

/-! ### billetref03_Lay: function 27 -/
def billetref03_Lay.f (k : Nat) (a0 : ByteArray) : Option (ByteArray × Int) := if (a0.size : Int) > 4096 then (some ((⟨#[]⟩ : ByteArray), 1)) else ((billetref01_Text.f k a0).bind fun t255 => ((billetref02_Sum.f k t255).bind fun t256 => ((billetref03_four.f (wrap64 (t256))).bind fun t257 => (if t255.size + t257.size ≤ 9223372036854775807 then (some (t255 ++ t257, 0)) else (none)))))
theorem billetref03_Lay.mono : ∀ a0 k, LeO (billetref03_Lay.f k a0) (billetref03_Lay.f (k + 1) a0) := by
  intro a0 k
  unfold billetref03_Lay.f
  repeat' first
      | (with_reducible exact billetref01_Text.mono _ _)
      | (with_reducible exact billetref02_Sum.mono _ _)
      | (with_reducible exact LeO.refl _)
      | (with_reducible exact LeO.none _)
      | (with_reducible refine LeO.ite ?_ ?_)
      | (with_reducible refine LeO.bind ?_ (fun _ => ?_))
      | exact billetref01_Text.mono _ _
      | exact billetref02_Sum.mono _ _
      | exact LeO.none _
      | refine LeO.ite ?_ ?_
      | refine LeO.bind ?_ (fun _ => ?_)
set_option maxHeartbeats 8000000 in
set_option maxRecDepth 100000 in
theorem billetref03_Lay.calls (k : Nat) (a0 : ByteArray) (r1 : ByteArray) (r2 : Int) (w : World) (h : billetref03_Lay.f k a0 = some (r1, r2)) :
    Calls Tryd.prog 27 #[.string a0] w fun e w' => e = .returned (.tuple #[.string r1, .int .i64 r2]) ∧ Below w.heap.size w w' := by
  have HB := Aside0.mk (Below.refl w.heap.size w)
  have H : (if (a0.size : Int) > 4096 then (some ((⟨#[]⟩ : ByteArray), 1)) else ((billetref01_Text.f k a0).bind fun t255 => ((billetref02_Sum.f k t255).bind fun t256 => ((billetref03_four.f (wrap64 (t256))).bind fun t257 => (if t255.size + t257.size ≤ 9223372036854775807 then (some (t255 ++ t257, 0)) else (none)))))) = some (r1, r2) := h
  clear h
  by_cases c2 : (a0.size : Int) > 4096
  · rw [if_pos c2] at H
    have c2b0 : decide (4096 < (a0.size : Int)) = true := decide_eq_true c2
    have c2b1 : decide (4096 < a0.size) = true := decide_eq_true (by omega)
    clear c2
    simp only [Option.some.injEq, Prod.mk.injEq] at H
    obtain ⟨rfl, rfl⟩ := H
    go_enter Tryd.func27, Tryd.ntmps27
    go_wp2
    go_ret2
    exact ⟨by first | rfl | (simp [errW_none, errW_some] <;> rfl) | (simp [*, errW_none, errW_some] <;> rfl), by repeat (first | (with_reducible first | exact HB.out | apply below_alloc | apply pw_below_drewN | apply below_drew1) | exact HB.out)⟩
  · rw [if_neg c2] at H
    have c2b0 : decide (4096 < (a0.size : Int)) = false := decide_eq_false c2
    have c2b1 : decide (4096 < a0.size) = false := decide_eq_false (by omega)
    clear c2
    replace H := Option.bind_eq_some_iff.mp H
    obtain ⟨t255, A30, H⟩ := H
    replace H : ((billetref02_Sum.f k t255).bind fun t256 => ((billetref03_four.f (wrap64 (t256))).bind fun t257 => (if t255.size + t257.size ≤ 9223372036854775807 then (some (t255 ++ t257, 0)) else (none)))) = some (r1, r2) := H
    have A3 := Aside0.mk A30
    clear A30
    replace H := Option.bind_eq_some_iff.mp H
    obtain ⟨t256, A40, H⟩ := H
    replace H : ((billetref03_four.f (wrap64 (t256))).bind fun t257 => (if t255.size + t257.size ≤ 9223372036854775807 then (some (t255 ++ t257, 0)) else (none))) = some (r1, r2) := H
    have A4 := Aside0.mk A40
    clear A40
    replace H := Option.bind_eq_some_iff.mp H
    obtain ⟨t257, A50, H⟩ := H
    replace H : (if t255.size + t257.size ≤ 9223372036854775807 then (some (t255 ++ t257, 0)) else (none)) = some (r1, r2) := H
    have A5 := Aside0.mk A50
    clear A50
    by_cases c6 : t255.size + t257.size ≤ 9223372036854775807
    · rw [if_pos c6] at H
      have c6b0 := eq_true c6
      have c6b1 : decide (t255.size + t257.size ≤ 9223372036854775807) = true := decide_eq_true c6
      try have c6b2 : (9223372036854775807 < t255.size + t257.size) = False := eq_false (Nat.not_lt.2 c6)
      simp only [Option.some.injEq, Prod.mk.injEq] at H
      obtain ⟨rfl, rfl⟩ := H
      go_enter Tryd.func27, Tryd.ntmps27
      go_wp2_with (first | ((with_reducible refine gate_callee (f := 26) rfl ?_); refine goesL_ (some 9) rfl rfl Tryd.func26 (by kernel_rfl) rfl #[.string a0] rfl (by (try simp only [List.map_toArray, List.map_cons, List.map_nil]); first | done | rfl | (simp only [List.length_drop, List.length_take]; rfl)) ?_; (with_reducible refine (billetref01_Text.calls k a0 t255 _ A3.out).mono ?_); rintro e w7 ⟨rfl, hb⟩; refine ⟨_, rfl, ?_⟩; have n0_ := Aside0.mk (below_step (by repeat (first | (with_reducible first | exact HB.out | apply below_alloc | apply pw_below_drewN | apply below_drew1) | exact HB.out)) hb); clear HB; have HB := n0_; clear n0_; (try clear hb); (try clear hb2); (try clear hk); (try clear hi); (try clear hge)) | ((with_reducible refine gate_callee (f := 48) rfl ?_); refine goesL_ (some 12) rfl rfl Tryd.func48 (by kernel_rfl) rfl #[.string t255] rfl (by (try simp only [List.map_toArray, List.map_cons, List.map_nil]); first | done | rfl | (simp only [List.length_drop, List.length_take]; rfl)) ?_; (with_reducible refine (billetref02_Sum.calls k t255 t256 _ A4.out).mono ?_); rintro e w' ⟨rfl, ⟨nd, rfl⟩⟩; refine ⟨_, rfl, ?_⟩) | ((with_reducible refine gate_callee (f := 47) rfl ?_); refine goesL_ (some 14) rfl rfl Tryd.func47 (by kernel_rfl) rfl #[.int .i64 (wrap64 (t256))] rfl (by (try simp only [List.map_toArray, List.map_cons, List.map_nil]); first | done | rfl | (simp only [List.length_drop, List.length_take]; rfl)) ?_; (with_reducible refine (billetref03_four.calls (wrap64 (t256)) t257 _ A5.out).mono ?_); rintro e w8 ⟨rfl, hb⟩; refine ⟨_, rfl, ?_⟩; have n0_ := Aside0.mk (below_step (by repeat (first | (with_reducible first | exact HB.out | apply below_alloc | apply pw_below_drewN | apply below_drew1) | exact HB.out)) hb); clear HB; have HB := n0_; clear n0_; (try clear hb); (try clear hb2); (try clear hk); (try clear hi); (try clear hge)))
      go_ret2
      exact ⟨by first | rfl | (simp [errW_none, errW_some] <;> rfl) | (simp [*, errW_none, errW_some] <;> rfl), by repeat (first | (with_reducible first | exact HB.out | apply below_alloc | apply pw_below_drewN | apply below_drew1) | exact HB.out)⟩
    · rw [if_neg c6] at H
      exact absurd H (by simp)

end Go.Proofs.YtdgaancbeakfdaaDoor.Q
namespace Go.Proofs.YtdgaancbeakfdaaDoor.Q
open Go.RowKit Go.Proofs.YtdgaancbeakfdaaDoorW.PrintWords Go.Proofs.YtdgaancbeakfdaaDoorW.PrintLast Go.Proofs.YtdgaancbeakfdaaDoor.Mo
attribute [local go_sem] max2_int min2_int max_two min_two max_three min_three max_four min_four   -- for this text's walks alone
open Go.Proofs.YtdgaancbeakfdaaDoor.Giv Go.Proofs.YtdgaancbeakfdaaDoor.Gn
set_option linter.unusedVariables false
set_option linter.unusedSimpArgs false

/-! ### billetref16_Put: function 10 -/
mutual
def billetref16_Put.l0 : Nat → List Int → ByteArray → Int → Int → Int → Int → Int → Int → Int → List (S42) → Option (ByteArray × Int)
 | 0, _, _, _, _, _, _, _, _, _, _ => none
 | k + 1, x5, x6, x7, xM, xN, xO, xP, xQ, xR, xK => if x7 < (x5.length : Int) then (if 0 ≤ x7 then ((billetref01_Num.f k (rd x5 x7)).bind fun tJ => (if x6.size + tJ.size ≤ 9223372036854775807 then (billetref16_Put.l0 k x5 (x6 ++ tJ) (wrap64 (x7 + 1)) xM xN xO xP xQ xR xK) else (none))) else (none)) else (billetref16_Put.l1 k x6 0 xM xN xO xP xQ xR xK)
def billetref16_Put.l1 : Nat → ByteArray → Int → Int → Int → Int → Int → Int → Int → List (S42) → Option (ByteArray × Int)
 | 0, _, _, _, _, _, _, _, _, _ => none
 | k + 1, x6, x8, xM, xN, xO, xP, xQ, xR, xK => if x8 < (xK.length : Int) then (if 0 ≤ x8 then ((billetref01_Text.f k ((rd_T42 xK x8).f0)).bind fun tE => (if x6.size + tE.size ≤ 9223372036854775807 then ((billetref01_Text.f k ((rd_T42 xK x8).f1)).bind fun tF => (if (x6 ++ tE).size + tF.size ≤ 9223372036854775807 then ((billetref01_Num.f k ((rd_T42 xK x8).f2)).bind fun tI => (if ((x6 ++ tE) ++ tF).size + tI.size ≤ 9223372036854775807 then (billetref16_Put.l1 k (((x6 ++ tE) ++ tF) ++ tI) (wrap64 (x8 + 1)) xM xN xO xP xQ xR xK) else (none))) else (none))) else (none))) else (none)) else ((billetref03_Lay.f k x6).bind fun btS => (some (btS.1, 0)))
end
def billetref16_Put.f (k : Nat) (a0_0 : Int) (a0_1 : Int) (a0_2 : Int) (a0_3 : Int) (a0_4 : Int) (a0_5 : Int) (l0_6 : List (S42)) : Option (ByteArray × Int) := (billetref16_Right.f k a0_0 a0_1 a0_2 a0_3 a0_4 a0_5 l0_6).bind fun tL => (if tL = true then (billetref16_Put.l0 k (([a0_0, a0_1, a0_2, a0_3, a0_4, a0_5, (l0_6.length : Int)] : List Int)) (⟨#[]⟩ : ByteArray) 0 a0_0 a0_1 a0_2 a0_3 a0_4 a0_5 l0_6) else (some ((⟨#[]⟩ : ByteArray), 160)))
theorem billetref16_Put.mono_l : ∀ k, (∀ y0 y1 y2 y3 y4 y5 y6 y7 y8 y9, LeO (billetref16_Put.l0 k y0 y1 y2 y3 y4 y5 y6 y7 y8 y9) (billetref16_Put.l0 (k + 1) y0 y1 y2 y3 y4 y5 y6 y7 y8 y9)) ∧ (∀ y0 y1 y2 y3 y4 y5 y6 y7 y8, LeO (billetref16_Put.l1 k y0 y1 y2 y3 y4 y5 y6 y7 y8) (billetref16_Put.l1 (k + 1) y0 y1 y2 y3 y4 y5 y6 y7 y8))
 | 0 => ⟨fun _ _ _ _ _ _ _ _ _ _ r h => by simp [billetref16_Put.l0] at h, fun _ _ _ _ _ _ _ _ _ r h => by simp [billetref16_Put.l1] at h⟩
 | k + 1 => by
  obtain ⟨ih0, ih1⟩ := billetref16_Put.mono_l k
  refine ⟨?_, ?_⟩
  ·intro y0 y1 y2 y3 y4 y5 y6 y7 y8 y9
   unfold billetref16_Put.l0
   repeat' first
   | (with_reducible exact ih0 _ _ _ _ _ _ _ _ _ _)
   | (with_reducible exact ih1 _ _ _ _ _ _ _ _ _)
   | (with_reducible exact billetref01_Num.mono _ _)
   | (with_reducible exact billetref01_Text.mono _ _)
   | (with_reducible exact billetref03_Lay.mono _ _)
   | (with_reducible exact billetref16_Right.mono _ _ _ _ _ _ _ _)
   | (with_reducible exact LeO.refl _)
   | (with_reducible exact LeO.none _)
   | (with_reducible refine LeO.ite ?_ ?_)
   | (with_reducible refine LeO.bind ?_ (fun _ => ?_))
   | exact ih0 _ _ _ _ _ _ _ _ _ _
   | exact ih1 _ _ _ _ _ _ _ _ _
   | exact billetref01_Num.mono _ _
   | exact billetref01_Text.mono _ _
   | exact billetref03_Lay.mono _ _
   | exact billetref16_Right.mono _ _ _ _ _ _ _ _
   | exact LeO.none _
   | refine LeO.ite ?_ ?_
   | refine LeO.bind ?_ (fun _ => ?_)
  ·intro y0 y1 y2 y3 y4 y5 y6 y7 y8
   unfold billetref16_Put.l1
   repeat' first
   | (with_reducible exact ih0 _ _ _ _ _ _ _ _ _ _)
   | (with_reducible exact ih1 _ _ _ _ _ _ _ _ _)
   | (with_reducible exact billetref01_Num.mono _ _)
   | (with_reducible exact billetref01_Text.mono _ _)
   | (with_reducible exact billetref03_Lay.mono _ _)
   | (with_reducible exact billetref16_Right.mono _ _ _ _ _ _ _ _)
   | (with_reducible exact LeO.refl _)
   | (with_reducible exact LeO.none _)
   | (with_reducible refine LeO.ite ?_ ?_)
   | (with_reducible refine LeO.bind ?_ (fun _ => ?_))
   | exact ih0 _ _ _ _ _ _ _ _ _ _
   | exact ih1 _ _ _ _ _ _ _ _ _
   | exact billetref01_Num.mono _ _
   | exact billetref01_Text.mono _ _
   | exact billetref03_Lay.mono _ _
   | exact billetref16_Right.mono _ _ _ _ _ _ _ _
   | exact LeO.none _
   | refine LeO.ite ?_ ?_
   | refine LeO.bind ?_ (fun _ => ?_)
theorem billetref16_Put.mono : ∀ a0 a1 a2 a3 a4 a5 a6 k, LeO (billetref16_Put.f k a0 a1 a2 a3 a4 a5 a6) (billetref16_Put.f (k + 1) a0 a1 a2 a3 a4 a5 a6) := by
 intro a0 a1 a2 a3 a4 a5 a6 k
 obtain ⟨ih0, ih1⟩ := billetref16_Put.mono_l k
 unfold billetref16_Put.f
 repeat' first
   | (with_reducible exact ih0 _ _ _ _ _ _ _ _ _ _)
   | (with_reducible exact ih1 _ _ _ _ _ _ _ _ _)
   | (with_reducible exact billetref01_Num.mono _ _)
   | (with_reducible exact billetref01_Text.mono _ _)
   | (with_reducible exact billetref03_Lay.mono _ _)
   | (with_reducible exact billetref16_Right.mono _ _ _ _ _ _ _ _)
   | (with_reducible exact LeO.refl _)
   | (with_reducible exact LeO.none _)
   | (with_reducible refine LeO.ite ?_ ?_)
   | (with_reducible refine LeO.bind ?_ (fun _ => ?_))
   | exact ih0 _ _ _ _ _ _ _ _ _ _
   | exact ih1 _ _ _ _ _ _ _ _ _
   | exact billetref01_Num.mono _ _
   | exact billetref01_Text.mono _ _
   | exact billetref03_Lay.mono _ _
   | exact billetref16_Right.mono _ _ _ _ _ _ _ _
   | exact LeO.none _
   | refine LeO.ite ?_ ?_
   | refine LeO.bind ?_ (fun _ => ?_)
def billetref16_Put.T13 : Bool × List (List Nat × List Nat) := (true, [([], []), ([], []), ([1], [1]), ([], []), ([2, 3], [2, 3]), ([4], [4]), ([5], [5]), ([6], [6]), ([0, 7], [0, 7]), ([], []), ([9], [9]), ([], []), ([10, 11], [10, 11]), ([12], [12]), ([13], [13]), ([14, 7], [14]), ([8, 15], [8, 15]), ([], []), ([17], [17]), ([], []), ([18, 19], [18, 19]), ([20], [20]), ([21], [21]), ([22, 15], [22]), ([16, 23], [16, 23]), ([24, 23, 0, 1, 2, 3, 4, 5, 6, 7, 8, 9, 10, 11, 12, 13, 14, 15, 16, 17, 18, 19, 20, 21, 22, 23, 24], [0, 24])])
def billetref16_Put.B13 : List Nat := [0, 0, 2, 0, 14, 30, 62, 126, 255, 0, 512, 0, 3584, 7680, 15872, 32510, 65535, 0, 131072, 0, 917504, 1966080, 4063232, 8322814, 16777215, 33554431]
theorem billetref16_Put.tab13 : rtab .any (opsOf Tryd.f10 13) = billetref16_Put.T13 := by kernel_rfl
theorem billetref16_Put.bits13 : waitsOk billetref16_Put.T13.2 billetref16_Put.B13 = true := by kernel_rfl
set_option maxHeartbeats 8000000 in
set_option maxRecDepth 100000 in
theorem billetref16_Put.calls (k : Nat) (a0_0 : Int) (a0_1 : Int) (a0_2 : Int) (a0_3 : Int) (a0_4 : Int) (a0_5 : Int) (A0_6 : Option Addr) (c0_6 : Nat) (l0_6 : List (S42)) (r1 : ByteArray) (r2 : Int) (w : World) (hr0_6 : Kd.C k42 w A0_6 l0_6.length l0_6) (hc0_6 : l0_6.length ≤ c0_6) (h : billetref16_Put.f k a0_0 a0_1 a0_2 a0_3 a0_4 a0_5 l0_6 = some (r1, r2)) :
  Calls Tryd.prog 10 #[.agg #[.int .i64 a0_0, .int .i64 a0_1, .int .i64 a0_2, .int .i64 a0_3, .int .i64 a0_4, .int .i64 a0_5, .slice A0_6 l0_6.length c0_6]] w fun e w' => e = .returned (.tuple #[.string r1, .int .i64 r2]) ∧ Below w.heap.size w w' := by
 have hu24 := Tryd.underlying24
 have HR0_6 := Aside0.mk hr0_6
 have HC0_6 := Aside0.mk hc0_6
 clear hr0_6 hc0_6
 have HB := Aside0.mk (Below.refl w.heap.size w)
 have H : ((billetref16_Right.f k a0_0 a0_1 a0_2 a0_3 a0_4 a0_5 l0_6).bind fun tL => (if tL = true then (billetref16_Put.l0 k (([a0_0, a0_1, a0_2, a0_3, a0_4, a0_5, (l0_6.length : Int)] : List Int)) (⟨#[]⟩ : ByteArray) 0 a0_0 a0_1 a0_2 a0_3 a0_4 a0_5 l0_6) else (some ((⟨#[]⟩ : ByteArray), 160)))) = some (r1, r2) := h
 clear h
 replace H := Option.bind_eq_some_iff.mp H
 obtain ⟨tL, A20, H⟩ := H
 replace H : (if tL = true then (billetref16_Put.l0 k (([a0_0, a0_1, a0_2, a0_3, a0_4, a0_5, (l0_6.length : Int)] : List Int)) (⟨#[]⟩ : ByteArray) 0 a0_0 a0_1 a0_2 a0_3 a0_4 a0_5 l0_6) else (some ((⟨#[]⟩ : ByteArray), 160))) = some (r1, r2) := H
 have A2 := Aside0.mk A20
 clear A20
 by_cases c3 : tL = true
 ·subst c3
  have H1 : (billetref16_Put.l0 k (([a0_0, a0_1, a0_2, a0_3, a0_4, a0_5, (l0_6.length : Int)] : List Int)) (⟨#[]⟩ : ByteArray) 0 a0_0 a0_1 a0_2 a0_3 a0_4 a0_5 l0_6) = some (r1, r2) := by rw [if_pos rfl] at H; exact H
  clear H
  have H := H1
  clear H1
  obtain ⟨yG, hyG⟩ : ∃ y_ : List Int, y_ = (([a0_0, a0_1, a0_2, a0_3, a0_4, a0_5, (l0_6.length : Int)] : List Int)) := ⟨_, rfl⟩
  replace H : (billetref16_Put.l0 k yG (⟨#[]⟩ : ByteArray) 0 a0_0 a0_1 a0_2 a0_3 a0_4 a0_5 l0_6) = some (r1, r2) := by first | (rw [hyG]; with_reducible exact H) | (have H2_ := (Option.bind_some _ _).symm.trans H; rw [hyG]; with_reducible exact H2_) | (have H2_ := (Option.bind_some _ _).symm.trans H; with_reducible exact H2_) | with_reducible exact H | (rw [hyG]; exact H) | exact H
  have NyG := Aside0.mk hyG
  clear hyG
  have H' := Aside0.mk H
  clear H
  go_enter Tryd.func10, Tryd.ntmps10
  go_wp2_with (first | ((with_reducible refine gate_dst (N := 1) rfl ?_); refine box_event ?hg (N := 1) ?hd (cs := #[.int .i64 a0_0, .int .i64 a0_1, .int .i64 a0_2, .int .i64 a0_3, .int .i64 a0_4, .int .i64 a0_5, .slice A0_6 l0_6.length c0_6]) (t := 24) ?hr ?_; (case hd => rfl); (case hg => rfl); (case hr => first | (go_simp; done) | (go_simp; rfl)); intro gbA hg w4 hbox hb; have n0_ := Aside0.mk (below_step (by repeat (first | (with_reducible first | exact HB.out | apply below_alloc | apply pw_below_drewN | apply below_drew1) | exact HB.out)) hb); have n1_ := Aside0.mk (hbox); have n2_ := Aside0.mk ((by rw [hg]; exact (below_size (by repeat (first | (with_reducible first | exact HB.out | apply below_alloc | apply pw_below_drewN | apply below_drew1) | exact HB.out))) : w.heap.size ≤ gbA)); have n3_ := Aside0.mk ((by rw [hg]; exact (below_size (by repeat (first | (with_reducible first | exact HB.out | apply below_alloc | apply pw_below_drewN | apply below_drew1) | exact HB.out))) : w.heap.size ≤ gbA)); clear HB; have HB := n0_; have BKA := n1_; have GWA := n2_; have GEA := n3_; clear n0_ n1_ n2_ n3_; clear hb hbox hg; have hcz5_0 : w4.cell? ⟨gbA, 0, none⟩ = some (.int .i64 a0_0) := (blk_cell BKA.out 0).trans rfl; have hcz5_1 : w4.cell? ⟨gbA, 1, none⟩ = some (.int .i64 a0_1) := (blk_cell BKA.out 1).trans rfl; have hcz5_2 : w4.cell? ⟨gbA, 2, none⟩ = some (.int .i64 a0_2) := (blk_cell BKA.out 2).trans rfl; have hcz5_3 : w4.cell? ⟨gbA, 3, none⟩ = some (.int .i64 a0_3) := (blk_cell BKA.out 3).trans rfl; have hcz5_4 : w4.cell? ⟨gbA, 4, none⟩ = some (.int .i64 a0_4) := (blk_cell BKA.out 4).trans rfl; have hcz5_5 : w4.cell? ⟨gbA, 5, none⟩ = some (.int .i64 a0_5) := (blk_cell BKA.out 5).trans rfl; have hcz5_6 : w4.cell? ⟨gbA, 6, none⟩ = some (.slice A0_6 l0_6.length c0_6) := (blk_cell BKA.out 6).trans rfl; have hfz5_0 := blk_frozen BKA.out 0; have hfz5_1 := blk_frozen BKA.out 1; have hfz5_2 := blk_frozen BKA.out 2; have hfz5_3 := blk_frozen BKA.out 3; have hfz5_4 := blk_frozen BKA.out 4; have hfz5_5 := blk_frozen BKA.out 5; have hfz5_6 := blk_frozen BKA.out 6) | ((with_reducible refine gate_callee (f := 13) rfl ?_); refine goesL_ (some 12) rfl rfl Tryd.func13 (by kernel_rfl) rfl #[.agg #[.int .i64 a0_0, .int .i64 a0_1, .int .i64 a0_2, .int .i64 a0_3, .int .i64 a0_4, .int .i64 a0_5, .slice A0_6 l0_6.length c0_6]] rfl (by (try simp only [List.map_toArray, List.map_cons, List.map_nil]); first | done | rfl | (simp only [List.length_drop, List.length_take]; rfl)) ?_; (with_reducible refine (billetref16_Right.calls k a0_0 a0_1 a0_2 a0_3 a0_4 a0_5 _ _ l0_6 true _ ?side1 ?side2 A2.out).mono ?_); (case side1 => repeat (first | exact (Kd.C_below HR0_6.out HB.out) | (with_reducible refine Kd.C_alloc ?_ _) | (with_reducible refine Kd.C_drewN ?_ _) | (with_reducible refine Kd.C_drew ?_))); (case side2 => exact HC0_6.out); rintro e w6 ⟨rfl, hb⟩; refine ⟨_, rfl, ?_⟩; have n0_ := Aside0.mk (blk_below (g := gbA) (o := .cells #[.int .i64 a0_0, .int .i64 a0_1, .int .i64 a0_2, .int .i64 a0_3, .int .i64 a0_4, .int .i64 a0_5, .slice A0_6 l0_6.length c0_6] 24 (0, 0)) (by (with_reducible repeat (first | refine blk_drewN ?_ _ | refine blk_drew ?_ | refine blk_alloc ?_ _)); exact BKA.out) hb); have n1_ := Aside0.mk (below_step (by repeat (first | (with_reducible first | exact HB.out | apply below_alloc | apply pw_below_drewN | apply below_drew1 | refine below_set ?_ GEA.out) | exact HB.out)) hb); clear BKA; clear HB; have BKA := n0_; have HB := n1_; clear n0_ n1_; (try clear hb); (try clear hb2); (try clear hk); (try clear hi); (try clear hge); have hcz7_0 : w6.cell? ⟨gbA, 0, none⟩ = some (.int .i64 a0_0) := (blk_cell BKA.out 0).trans rfl; have hcz7_1 : w6.cell? ⟨gbA, 1, none⟩ = some (.int .i64 a0_1) := (blk_cell BKA.out 1).trans rfl; have hcz7_2 : w6.cell? ⟨gbA, 2, none⟩ = some (.int .i64 a0_2) := (blk_cell BKA.out 2).trans rfl; have hcz7_3 : w6.cell? ⟨gbA, 3, none⟩ = some (.int .i64 a0_3) := (blk_cell BKA.out 3).trans rfl; have hcz7_4 : w6.cell? ⟨gbA, 4, none⟩ = some (.int .i64 a0_4) := (blk_cell BKA.out 4).trans rfl; have hcz7_5 : w6.cell? ⟨gbA, 5, none⟩ = some (.int .i64 a0_5) := (blk_cell BKA.out 5).trans rfl; have hcz7_6 : w6.cell? ⟨gbA, 6, none⟩ = some (.slice A0_6 l0_6.length c0_6) := (blk_cell BKA.out 6).trans rfl; have hfz7_0 := blk_frozen BKA.out 0; have hfz7_1 := blk_frozen BKA.out 1; have hfz7_2 := blk_frozen BKA.out 2; have hfz7_3 := blk_frozen BKA.out 3; have hfz7_4 := blk_frozen BKA.out 4; have hfz7_5 := blk_frozen BKA.out 5; have hfz7_6 := blk_frozen BKA.out 6) | ((with_reducible refine gate_dst (N := 30) rfl ?_); refine Kd.R_lit (Kd.int .i64) _ 3 ?hg (N := 30) ?hd (xs := ([a0_0, a0_1, a0_2, a0_3, a0_4, a0_5, (l0_6.length : Int)] : List Int)) (inner := [.int .i64 a0_0, .int .i64 a0_1, .int .i64 a0_2, .int .i64 a0_3, .int .i64 a0_4, .int .i64 a0_5, .int .i64 (l0_6.length : Int)]) (ok := fun _ => True) (okp := fun _ => True) ?hr ?hp (fun _ hk => hk) trivial (Below.refl _ _) (Nat.le_refl _) (by simp) ?_; (case hd => rfl); (case hg => rfl); (case hr => first | (go_simp; done) | (go_simp; rfl)); (case hp => exact (Reps.one (show Kd.M (Kd.int .i64) _ _ _ a0_0 [.int .i64 a0_0] from rfl) (Reps.one (show Kd.M (Kd.int .i64) _ _ _ a0_1 [.int .i64 a0_1] from rfl) (Reps.one (show Kd.M (Kd.int .i64) _ _ _ a0_2 [.int .i64 a0_2] from rfl) (Reps.one (show Kd.M (Kd.int .i64) _ _ _ a0_3 [.int .i64 a0_3] from rfl) (Reps.one (show Kd.M (Kd.int .i64) _ _ _ a0_4 [.int .i64 a0_4] from rfl) (Reps.one (show Kd.M (Kd.int .i64) _ _ _ a0_5 [.int .i64 a0_5] from rfl) (Reps.one (show Kd.M (Kd.int .i64) _ _ _ (l0_6.length : Int) [.int .i64 (l0_6.length : Int)] from rfl) (Reps.none _ _))))))))); intro vY w8 ho9 hb hg_ hnew_; clear hg_ hnew_; (first | rw [← NyG.out] at ho9 | (simp only [Int.reduceToNat] at ho9; rw [← NyG.out] at ho9)); have n0_ := Aside0.mk (Kd.R_lower ho9 (below_size (by repeat (first | (with_reducible first | exact HB.out | apply below_alloc | apply pw_below_drewN | apply below_drew1 | refine below_set ?_ GEA.out) | exact HB.out)))); have n1_ := Aside0.mk (blk_below (g := gbA) (o := .cells #[.int .i64 a0_0, .int .i64 a0_1, .int .i64 a0_2, .int .i64 a0_3, .int .i64 a0_4, .int .i64 a0_5, .slice A0_6 l0_6.length c0_6] 24 (0, 0)) (by (with_reducible repeat (first | refine blk_drewN ?_ _ | refine blk_drew ?_ | refine blk_alloc ?_ _)); exact BKA.out) hb); have n2_ := Aside0.mk (below_step (by repeat (first | (with_reducible first | exact HB.out | apply below_alloc | apply pw_below_drewN | apply below_drew1 | refine below_set ?_ GEA.out) | exact HB.out)) hb); clear BKA; clear HB; have HOZ := n0_; have BKA := n1_; have HB := n2_; clear n0_ n1_ n2_; clear hb ho9))
  go_loopg [6, 7] k (fun kq v6 v7 w' => ∃ (x6_1 : ByteArray) (x7_1 : Int), v6 = .string x6_1 ∧ v7 = .int .i64 x7_1 ∧ Aside0 (billetref16_Put.l0 kq yG x6_1 x7_1 a0_0 a0_1 a0_2 a0_3 a0_4 a0_5 l0_6 = some (r1, r2)) ∧ Aside0 (kq ≤ k) ∧ Aside0 (Kd.R (Kd.int .i64) 3 w' w.heap.size (fun _ => True) vY yG) ∧ Aside0 (w'.heap[gbA]? = some (.cells #[.int .i64 a0_0, .int .i64 a0_1, .int .i64 a0_2, .int .i64 a0_3, .int .i64 a0_4, .int .i64 a0_5, (.slice A0_6 l0_6.length c0_6)] 24 (0, 0))) ∧ Aside0 (Below w.heap.size w w'))
  case atStart => exact ⟨((⟨#[]⟩ : ByteArray)), (0), (by first | rfl | (simp; done) | (simp [*]; done)), (by first | rfl | (simp; done) | (simp [*]; done)), H', ⟨Nat.le_refl _⟩, ⟨by (with_reducible repeat (first | apply Kd.R_alloc | apply Kd.R_drewN | apply Kd.R_drew)); exact HOZ.out⟩, ⟨by (with_reducible repeat (first | refine blk_drewN ?_ _ | refine blk_drew ?_ | refine blk_alloc ?_ _)); exact BKA.out⟩, ⟨by repeat (first | (with_reducible first | exact HB.out | apply below_alloc | apply pw_below_drewN | apply below_drew1 | refine below_set ?_ GEA.out) | exact HB.out)⟩⟩
  case round =>
   clear H'
   clear hcz5_0 hcz5_1 hcz5_2 hcz5_3 hcz5_4 hcz5_5 hcz5_6 hcz7_0 hcz7_1 hcz7_2 hcz7_3 hcz7_4 hcz7_5 hcz7_6 hfz5_0 hfz5_1 hfz5_2 hfz5_3 hfz5_4 hfz5_5 hfz5_6 hfz7_0 hfz7_1 hfz7_2 hfz7_3 hfz7_4 hfz7_5 hfz7_6
   obtain ⟨x6_1, x7_1, rfl, rfl, HA, HK1, HO_5, BKA, HB⟩ := hrel
   cases gk with
   | zero => exact absurd HA.out (by simp [billetref16_Put.l0])
   | succ k1 =>
    have H := HA.out
    clear HA
    simp only [billetref16_Put.l0] at H
    by_cases c10 : x7_1 < (yG.length : Int)
    ·rw [if_pos c10] at H
     have c10b0 : decide (x7_1 < (yG.length : Int)) = true := decide_eq_true c10
     clear c10
     by_cases c11 : 0 ≤ x7_1
     ·rw [if_pos c11] at H
      have c11b0 : decide (0 ≤ x7_1) = true := decide_eq_true c11
      clear c11
      replace H := Option.bind_eq_some_iff.mp H
      obtain ⟨tJ, AT, H⟩ := H
      replace H : (if x6_1.size + tJ.size ≤ 9223372036854775807 then (billetref16_Put.l0 k1 yG (x6_1 ++ tJ) (wrap64 (x7_1 + 1)) a0_0 a0_1 a0_2 a0_3 a0_4 a0_5 l0_6) else (none)) = some (r1, r2) := H
      have A12 := Aside0.mk AT
      clear AT
      by_cases c13 : x6_1.size + tJ.size ≤ 9223372036854775807
      ·rw [if_pos c13] at H
       have c13b0 := eq_true c13
       have c13b1 : decide (x6_1.size + tJ.size ≤ 9223372036854775807) = true := decide_eq_true c13
       try have c13b2 : (9223372036854775807 < x6_1.size + tJ.size) = False := eq_false (Nat.not_lt.2 c13)
       have H' := Aside0.mk H
       clear H
       obtain ⟨Ao14, co14, eo14⟩ := Kd.R_slice HO_5.out
       subst eo14
       have pH : 0 ≤ (x7_1 : Int) := of_decide_eq_true (by first | (with_reducible assumption) | assumption)
       have qH : x7_1 < (yG.length : Int) := of_decide_eq_true (by first | (with_reducible assumption) | assumption)
       obtain ⟨adH, eH, hxH_0⟩ := Kd.at_int (Kd.R_reads' HO_5.out).2.2 x7_1 pH qH
       cases eH
       replace pH := eq_true pH
       (try replace pHz := eq_true pHz)
       replace qH := eq_true qH
       (try replace qHz := eq_true qHz)
       go_wp2_with (first | ((with_reducible refine gate_callee (f := 25) rfl ?_); refine goesL_ (some 42) rfl rfl Tryd.func25 (by kernel_rfl) rfl #[.int .i64 (rd yG x7_1)] rfl (by (try simp only [List.map_toArray, List.map_cons, List.map_nil]); first | done | rfl | (simp only [List.length_drop, List.length_take]; rfl)) ?_; (with_reducible refine (billetref01_Num.calls k1 (rd yG x7_1) tJ _ A12.out).mono ?_); rintro e w15 ⟨rfl, hb⟩; refine ⟨_, rfl, ?_⟩; have n0_ := Aside0.mk (Kd.R_below (by (with_reducible repeat (first | apply Kd.R_alloc | apply Kd.R_drewN | apply Kd.R_drew)); exact HO_5.out) hb); have n1_ := Aside0.mk (blk_below (g := gbA) (o := .cells #[.int .i64 a0_0, .int .i64 a0_1, .int .i64 a0_2, .int .i64 a0_3, .int .i64 a0_4, .int .i64 a0_5, .slice A0_6 l0_6.length c0_6] 24 (0, 0)) (by (with_reducible repeat (first | refine blk_drewN ?_ _ | refine blk_drew ?_ | refine blk_alloc ?_ _)); exact BKA.out) hb); have n2_ := Aside0.mk (below_step (by repeat (first | (with_reducible first | exact HB.out | apply below_alloc | apply pw_below_drewN | apply below_drew1 | refine below_set ?_ GEA.out) | exact HB.out)) hb); clear HO_5; clear BKA; clear HB; have HO_5 := n0_; have BKA := n1_; have HB := n2_; clear n0_ n1_ n2_; (try clear hb); (try clear hb2); (try clear hk); (try clear hi); (try clear hge)))
       go_roundg k1
       case measure => have := HK1.out; omega
       case rel => exact ⟨(x6_1 ++ tJ), (wrap64 (x7_1 + 1)), (by first | rfl | (simp; done) | (simp [*]; done)), (by first | rfl | (simp; done) | (simp [*]; done)), H', ⟨by have := HK1.out; omega⟩, ⟨by (with_reducible repeat (first | apply Kd.R_alloc | apply Kd.R_drewN | apply Kd.R_drew)); exact HO_5.out⟩, ⟨by (with_reducible repeat (first | refine blk_drewN ?_ _ | refine blk_drew ?_ | refine blk_alloc ?_ _)); exact BKA.out⟩, ⟨by repeat (first | (with_reducible first | exact HB.out | apply below_alloc | apply pw_below_drewN | apply below_drew1 | refine below_set ?_ GEA.out) | exact HB.out)⟩⟩
      ·rw [if_neg c13] at H
       exact absurd H (by simp)
     ·rw [if_neg c11] at H
      exact absurd H (by simp)
    ·rw [if_neg c10] at H
     have c10b0 : decide (x7_1 < (yG.length : Int)) = false := decide_eq_false c10
     clear c10
     have H' := Aside0.mk H
     clear H
     obtain ⟨Ao16, co16, eo16⟩ := Kd.R_slice HO_5.out
     subst eo16
     go_wp2
     go_loopg [6, 8] k1 (fun kq v6 v8 w' => ∃ (x6_2 : ByteArray) (x8_2 : Int), v6 = .string x6_2 ∧ v8 = .int .i64 x8_2 ∧ Aside0 (billetref16_Put.l1 kq x6_2 x8_2 a0_0 a0_1 a0_2 a0_3 a0_4 a0_5 l0_6 = some (r1, r2)) ∧ Aside0 (kq ≤ k1) ∧ Aside0 (w'.heap[gbA]? = some (.cells #[.int .i64 a0_0, .int .i64 a0_1, .int .i64 a0_2, .int .i64 a0_3, .int .i64 a0_4, .int .i64 a0_5, (.slice A0_6 l0_6.length c0_6)] 24 (0, 0))) ∧ Aside0 (Below w.heap.size w w'))
     case atStart => exact ⟨(x6_1), (0), (by first | rfl | (simp; done) | (simp [*]; done)), (by first | rfl | (simp; done) | (simp [*]; done)), H', ⟨Nat.le_refl _⟩, ⟨by (with_reducible repeat (first | refine blk_drewN ?_ _ | refine blk_drew ?_ | refine blk_alloc ?_ _)); exact BKA.out⟩, ⟨by repeat (first | (with_reducible first | exact HB.out | apply below_alloc | apply pw_below_drewN | apply below_drew1 | refine below_set ?_ GEA.out) | exact HB.out)⟩⟩
     case round =>
      clear H'
      clear c10b0
      obtain ⟨x6_2, x8_2, rfl, rfl, HA, HK2, BKA, HB⟩ := hrel
      cases gk with
      | zero => exact absurd HA.out (by simp [billetref16_Put.l1])
      | succ k2 =>
       have H := HA.out
       clear HA
       simp only [billetref16_Put.l1] at H
       by_cases c17 : x8_2 < (l0_6.length : Int)
       ·rw [if_pos c17] at H
        have c17b0 : decide (x8_2 < (l0_6.length : Int)) = true := decide_eq_true c17
        clear c17
        by_cases c18 : 0 ≤ x8_2
        ·rw [if_pos c18] at H
         have c18b0 : decide (0 ≤ x8_2) = true := decide_eq_true c18
         clear c18
         replace H := Option.bind_eq_some_iff.mp H
         obtain ⟨tE, AU, H⟩ := H
         replace H : (if x6_2.size + tE.size ≤ 9223372036854775807 then ((billetref01_Text.f k2 ((rd_T42 l0_6 x8_2).f1)).bind fun tF => (if (x6_2 ++ tE).size + tF.size ≤ 9223372036854775807 then ((billetref01_Num.f k2 ((rd_T42 l0_6 x8_2).f2)).bind fun tI => (if ((x6_2 ++ tE) ++ tF).size + tI.size ≤ 9223372036854775807 then (billetref16_Put.l1 k2 (((x6_2 ++ tE) ++ tF) ++ tI) (wrap64 (x8_2 + 1)) a0_0 a0_1 a0_2 a0_3 a0_4 a0_5 l0_6) else (none))) else (none))) else (none)) = some (r1, r2) := H
         have A19 := Aside0.mk AU
         clear AU
         by_cases c20 : x6_2.size + tE.size ≤ 9223372036854775807
         ·rw [if_pos c20] at H
          have c20b0 := eq_true c20
          have c20b1 : decide (x6_2.size + tE.size ≤ 9223372036854775807) = true := decide_eq_true c20
          try have c20b2 : (9223372036854775807 < x6_2.size + tE.size) = False := eq_false (Nat.not_lt.2 c20)
          replace H := Option.bind_eq_some_iff.mp H
          obtain ⟨tF, AV, H⟩ := H
          replace H : (if (x6_2 ++ tE).size + tF.size ≤ 9223372036854775807 then ((billetref01_Num.f k2 ((rd_T42 l0_6 x8_2).f2)).bind fun tI => (if ((x6_2 ++ tE) ++ tF).size + tI.size ≤ 9223372036854775807 then (billetref16_Put.l1 k2 (((x6_2 ++ tE) ++ tF) ++ tI) (wrap64 (x8_2 + 1)) a0_0 a0_1 a0_2 a0_3 a0_4 a0_5 l0_6) else (none))) else (none)) = some (r1, r2) := H
          have A21 := Aside0.mk AV
          clear AV
          by_cases c22 : (x6_2 ++ tE).size + tF.size ≤ 9223372036854775807
          ·rw [if_pos c22] at H
           (try (have c22s := c22; simp only [ByteArray.size_append] at c22s))
           (try have c22sb0 := eq_true c22s)
           (try have c22sb1 := decide_eq_true c22s)
           (try have c22sb2 := eq_false (Nat.not_lt.2 c22s))
           have c22b0 := eq_true c22
           have c22b1 : decide ((x6_2 ++ tE).size + tF.size ≤ 9223372036854775807) = true := decide_eq_true c22
           try have c22b2 : (9223372036854775807 < (x6_2 ++ tE).size + tF.size) = False := eq_false (Nat.not_lt.2 c22)
           replace H := Option.bind_eq_some_iff.mp H
           obtain ⟨tI, AW, H⟩ := H
           replace H : (if ((x6_2 ++ tE) ++ tF).size + tI.size ≤ 9223372036854775807 then (billetref16_Put.l1 k2 (((x6_2 ++ tE) ++ tF) ++ tI) (wrap64 (x8_2 + 1)) a0_0 a0_1 a0_2 a0_3 a0_4 a0_5 l0_6) else (none)) = some (r1, r2) := H
           have A23 := Aside0.mk AW
           clear AW
           by_cases c24 : ((x6_2 ++ tE) ++ tF).size + tI.size ≤ 9223372036854775807
           ·rw [if_pos c24] at H
            (try (have c24s := c24; simp only [ByteArray.size_append] at c24s))
            (try have c24sb0 := eq_true c24s)
            (try have c24sb1 := decide_eq_true c24s)
            (try have c24sb2 := eq_false (Nat.not_lt.2 c24s))
            have c24b0 := eq_true c24
            have c24b1 : decide (((x6_2 ++ tE) ++ tF).size + tI.size ≤ 9223372036854775807) = true := decide_eq_true c24
            try have c24b2 : (9223372036854775807 < ((x6_2 ++ tE) ++ tF).size + tI.size) = False := eq_false (Nat.not_lt.2 c24)
            have H' := Aside0.mk H
            clear H
            have hcz25_0 : wr.cell? ⟨gbA, 0, none⟩ = some (.int .i64 a0_0) := (blk_cell BKA.out 0).trans rfl
            have hcz25_1 : wr.cell? ⟨gbA, 1, none⟩ = some (.int .i64 a0_1) := (blk_cell BKA.out 1).trans rfl
            have hcz25_2 : wr.cell? ⟨gbA, 2, none⟩ = some (.int .i64 a0_2) := (blk_cell BKA.out 2).trans rfl
            have hcz25_3 : wr.cell? ⟨gbA, 3, none⟩ = some (.int .i64 a0_3) := (blk_cell BKA.out 3).trans rfl
            have hcz25_4 : wr.cell? ⟨gbA, 4, none⟩ = some (.int .i64 a0_4) := (blk_cell BKA.out 4).trans rfl
            have hcz25_5 : wr.cell? ⟨gbA, 5, none⟩ = some (.int .i64 a0_5) := (blk_cell BKA.out 5).trans rfl
            have hcz25_6 : wr.cell? ⟨gbA, 6, none⟩ = some (.slice A0_6 l0_6.length c0_6) := (blk_cell BKA.out 6).trans rfl
            have hfz25_0 := blk_frozen BKA.out 0
            have hfz25_1 := blk_frozen BKA.out 1
            have hfz25_2 := blk_frozen BKA.out 2
            have hfz25_3 := blk_frozen BKA.out 3
            have hfz25_4 := blk_frozen BKA.out 4
            have hfz25_5 := blk_frozen BKA.out 5
            have hfz25_6 := blk_frozen BKA.out 6
            try go_wp2
            have n0_ := Aside0.mk (blk_drew BKA.out)
            have n1_ := Aside0.mk (below_drew1 HB.out)
            clear BKA
            clear HB
            have BKA := n0_
            have HB := n1_
            clear n0_ n1_
            have pB : 0 ≤ (x8_2 : Int) := of_decide_eq_true (by first | (with_reducible assumption) | assumption)
            have qB : x8_2 < (l0_6.length : Int) := of_decide_eq_true (by first | (with_reducible assumption) | assumption)
            obtain ⟨adB, eB, hxB_0, hxB_1, hxB_2⟩ := at_T42 HR0_6.out x8_2 pB qB
            have hwB_2 := hxB_2
            have hwB_1 := hxB_1
            have hwB_0 := hxB_0
            cases eB
            replace hxB_0 := (HB.out.cell (World.block_lt_of_cell? w _ hxB_0)).trans hxB_0
            replace hxB_1 := (HB.out.cell (World.block_lt_of_cell? w _ hxB_1)).trans hxB_1
            replace hxB_2 := (HB.out.cell (World.block_lt_of_cell? w _ hxB_2)).trans hxB_2
            replace pB := eq_true pB
            (try replace pBz := eq_true pBz)
            replace qB := eq_true qB
            (try replace qBz := eq_true qBz)
            have pC : 0 ≤ (x8_2 : Int) := of_decide_eq_true (by first | (with_reducible assumption) | assumption)
            have qC : x8_2 < (l0_6.length : Int) := of_decide_eq_true (by first | (with_reducible assumption) | assumption)
            obtain ⟨adC, eC, hxC_0, hxC_1, hxC_2⟩ := at_T42 HR0_6.out x8_2 pC qC
            have hwC_2 := hxC_2
            have hwC_1 := hxC_1
            have hwC_0 := hxC_0
            obtain rfl : adB = adC := (by injection eC)
            replace hxC_0 := (HB.out.cell (World.block_lt_of_cell? w _ hxC_0)).trans hxC_0
            replace hxC_1 := (HB.out.cell (World.block_lt_of_cell? w _ hxC_1)).trans hxC_1
            replace hxC_2 := (HB.out.cell (World.block_lt_of_cell? w _ hxC_2)).trans hxC_2
            replace pC := eq_true pC
            (try replace pCz := eq_true pCz)
            replace qC := eq_true qC
            (try replace qCz := eq_true qCz)
            have pD : 0 ≤ (x8_2 : Int) := of_decide_eq_true (by first | (with_reducible assumption) | assumption)
            have qD : x8_2 < (l0_6.length : Int) := of_decide_eq_true (by first | (with_reducible assumption) | assumption)
            obtain ⟨adD, eD, hxD_0, hxD_1, hxD_2⟩ := at_T42 HR0_6.out x8_2 pD qD
            have hwD_2 := hxD_2
            have hwD_1 := hxD_1
            have hwD_0 := hxD_0
            obtain rfl : adB = adD := (by injection eD)
            replace hxD_0 := (HB.out.cell (World.block_lt_of_cell? w _ hxD_0)).trans hxD_0
            replace hxD_1 := (HB.out.cell (World.block_lt_of_cell? w _ hxD_1)).trans hxD_1
            replace hxD_2 := (HB.out.cell (World.block_lt_of_cell? w _ hxD_2)).trans hxD_2
            replace pD := eq_true pD
            (try replace pDz := eq_true pDz)
            replace qD := eq_true qD
            (try replace qDz := eq_true qDz)
            refine start_ (n := 26) (S := fun w' => w'.cell? ⟨gbA, 0, none⟩ = some (.int .i64 a0_0) ∧ w'.cell? ⟨gbA, 1, none⟩ = some (.int .i64 a0_1) ∧ w'.cell? ⟨gbA, 2, none⟩ = some (.int .i64 a0_2) ∧ w'.cell? ⟨gbA, 3, none⟩ = some (.int .i64 a0_3) ∧ w'.cell? ⟨gbA, 4, none⟩ = some (.int .i64 a0_4) ∧ w'.cell? ⟨gbA, 5, none⟩ = some (.int .i64 a0_5) ∧ w'.cell? ⟨gbA, 6, none⟩ = some (.slice (some adB) l0_6.length c0_6) ∧ w'.cell? (adB.add ((x8_2).toNat * 3)) = some (.string ((rd_T42 l0_6 x8_2).f0)) ∧ w'.cell? ⟨(adB.add ((x8_2).toNat * 3)).block, (adB.add ((x8_2).toNat * 3)).off + 1, none⟩ = some (.string ((rd_T42 l0_6 x8_2).f1)) ∧ w'.cell? ⟨(adB.add ((x8_2).toNat * 3)).block, (adB.add ((x8_2).toNat * 3)).off + 2, none⟩ = some (.int .i64 ((rd_T42 l0_6 x8_2).f2)) ∧ w'.cell? (adB.add ((x8_2).toNat * 3)) = some (.string ((rd_T42 l0_6 x8_2).f0)) ∧ w'.cell? ⟨(adB.add ((x8_2).toNat * 3)).block, (adB.add ((x8_2).toNat * 3)).off + 1, none⟩ = some (.string ((rd_T42 l0_6 x8_2).f1)) ∧ w'.cell? ⟨(adB.add ((x8_2).toNat * 3)).block, (adB.add ((x8_2).toNat * 3)).off + 2, none⟩ = some (.int .i64 ((rd_T42 l0_6 x8_2).f2)) ∧ w'.cell? (adB.add ((x8_2).toNat * 3)) = some (.string ((rd_T42 l0_6 x8_2).f0)) ∧ w'.cell? ⟨(adB.add ((x8_2).toNat * 3)).block, (adB.add ((x8_2).toNat * 3)).off + 1, none⟩ = some (.string ((rd_T42 l0_6 x8_2).f1)) ∧ w'.cell? ⟨(adB.add ((x8_2).toNat * 3)).block, (adB.add ((x8_2).toNat * 3)).off + 2, none⟩ = some (.int .i64 ((rd_T42 l0_6 x8_2).f2))) (ds := []) (upT 26 0) (by kernel_rfl) rfl rfl ⟨(blk_cell BKA.out 0).trans rfl, (blk_cell BKA.out 1).trans rfl, (blk_cell BKA.out 2).trans rfl, (blk_cell BKA.out 3).trans rfl, (blk_cell BKA.out 4).trans rfl, (blk_cell BKA.out 5).trans rfl, (blk_cell BKA.out 6).trans rfl, ((HB.out.cell (World.block_lt_of_cell? w _ hwB_0)).trans hwB_0), ((HB.out.cell (World.block_lt_of_cell? w _ hwB_1)).trans hwB_1), ((HB.out.cell (World.block_lt_of_cell? w _ hwB_2)).trans hwB_2), ((HB.out.cell (World.block_lt_of_cell? w _ hwC_0)).trans hwC_0), ((HB.out.cell (World.block_lt_of_cell? w _ hwC_1)).trans hwC_1), ((HB.out.cell (World.block_lt_of_cell? w _ hwC_2)).trans hwC_2), ((HB.out.cell (World.block_lt_of_cell? w _ hwD_0)).trans hwD_0), ((HB.out.cell (World.block_lt_of_cell? w _ hwD_1)).trans hwD_1), ((HB.out.cell (World.block_lt_of_cell? w _ hwD_2)).trans hwD_2)⟩ (fun hHeld => ?_); refine with_tabW billetref16_Put.tab13 billetref16_Put.bits13 (fun HT_ HW_ => ?_)
            generalize wr.drew = w26 at BKA HB hxB_0 hxB_1 hxB_2 hxC_0 hxC_1 hxC_2 hxD_0 hxD_1 hxD_2 hHeld ⊢
            iterate 2 (refine pu 51 (v := ?_) (a' := ?_) rfl rfl (any_of HT_.out (by kernel_rfl)) (fun _ _ _ h => h) (Or.inl ⟨by rfl, ?_⟩) ?_ ?_; rotate_left; (·intro w'; go_simp; with_reducible rfl); rotate_left; (·simp only [Act.put, List.setIfInBounds_toArray, List.set_cons_zero, List.set_cons_succ, i64_w, i32_w, Nat.reduceAdd]; rfl); conv => arg 8; arg 2; simp only [Nat.reduceAdd])
            refine pure_ (i := 3) (N := some 54) (v := ?_) (a' := ?_) #[true, true, false, true, false, false, false, false, false, false, false, false, false, false, false, false, false, false, false, false, false, false, false, false, false, false] rfl rfl (any_of HT_.out (by kernel_rfl)) (fun _ _ _ h => h) (Or.inl ⟨by rfl, ?_⟩) ?_ ?_
            rotate_left
            ·intro w'
             go_simp
             with_reducible rfl
            rotate_left
            ·simp only [Act.put, List.setIfInBounds_toArray, List.set_cons_zero, List.set_cons_succ, i64_w, i32_w]
             rfl
            refine pure_ (i := 9) (N := some 60) (v := ?_) (a' := ?_) #[true, true, false, true, false, false, false, false, false, true, false, false, false, false, false, false, false, false, false, false, false, false, false, false, false, false] rfl rfl (any_of HT_.out (by kernel_rfl)) (fun _ _ _ h => h) (Or.inl ⟨by rfl, ?_⟩) ?_ ?_
            rotate_left
            ·intro w'
             go_simp
             with_reducible rfl
            rotate_left
            ·simp only [Act.put, List.setIfInBounds_toArray, List.set_cons_zero, List.set_cons_succ, i64_w, i32_w]
             rfl
            refine pure_ (i := 11) (N := some 62) (v := ?_) (a' := ?_) #[true, true, false, true, false, false, false, false, false, true, false, true, false, false, false, false, false, false, false, false, false, false, false, false, false, false] rfl rfl (any_of HT_.out (by kernel_rfl)) (fun _ _ _ h => h) (Or.inl ⟨by rfl, ?_⟩) ?_ ?_
            rotate_left
            ·intro w'
             go_simp
             with_reducible rfl
            rotate_left
            ·simp only [Act.put, List.setIfInBounds_toArray, List.set_cons_zero, List.set_cons_succ, i64_w, i32_w]
             rfl
            refine pure_ (i := 17) (N := some 68) (v := ?_) (a' := ?_) #[true, true, false, true, false, false, false, false, false, true, false, true, false, false, false, false, false, true, false, false, false, false, false, false, false, false] rfl rfl (any_of HT_.out (by kernel_rfl)) (fun _ _ _ h => h) (Or.inl ⟨by rfl, ?_⟩) ?_ ?_
            rotate_left
            ·intro w'
             go_simp
             with_reducible rfl
            rotate_left
            ·simp only [Act.put, List.setIfInBounds_toArray, List.set_cons_zero, List.set_cons_succ, i64_w, i32_w]
             rfl
            refine pure_ (i := 19) (N := some 70) (v := ?_) (a' := ?_) #[true, true, false, true, false, false, false, false, false, true, false, true, false, false, false, false, false, true, false, true, false, false, false, false, false, false] rfl rfl (any_of HT_.out (by kernel_rfl)) (fun _ _ _ h => h) (Or.inl ⟨by rfl, ?_⟩) ?_ ?_
            rotate_left
            ·intro w'
             go_simp
             with_reducible rfl
            rotate_left
            ·simp only [Act.put, List.setIfInBounds_toArray, List.set_cons_zero, List.set_cons_succ, i64_w, i32_w]
             rfl
            refine take_ (i := 2) (N := some 53) (v := ?_) (a' := ?_) #[true, true, true, true, false, false, false, false, false, true, false, true, false, false, false, false, false, true, false, true, false, false, false, false, false, false] rfl rfl (take_ofW HT_.out HW_.out (by kernel_rfl)) (fun _ _ _ h => h) (Or.inl ⟨by rfl, ?_⟩) hHeld ?_ ?_
            rotate_left
            ·rintro w' ⟨s0, s1, s2, s3, s4, s5, s6, s7, s8, s9, s10, s11, s12, s13, s14, s15⟩
             go_simp
             with_reducible rfl
            rotate_left
            ·simp only [Act.put, List.setIfInBounds_toArray, List.set_cons_zero, List.set_cons_succ, i64_w, i32_w]
             rfl
            refine pure_ (i := 4) (N := some 55) (v := ?_) (a' := ?_) #[true, true, true, true, true, false, false, false, false, true, false, true, false, false, false, false, false, true, false, true, false, false, false, false, false, false] rfl rfl (any_of HT_.out (by kernel_rfl)) (fun _ _ _ h => h) (Or.inl ⟨by rfl, ?_⟩) ?_ ?_
            rotate_left
            ·intro w'
             go_simp
             with_reducible rfl
            rotate_left
            ·simp only [Act.put, List.setIfInBounds_toArray, List.set_cons_zero, List.set_cons_succ, i64_w, i32_w]
             rfl
            refine pure_ (i := 5) (N := some 56) (v := ?_) (a' := ?_) #[true, true, true, true, true, true, false, false, false, true, false, true, false, false, false, false, false, true, false, true, false, false, false, false, false, false] rfl rfl (any_of HT_.out (by kernel_rfl)) (fun _ _ _ h => h) (Or.inl ⟨by rfl, ?_⟩) ?_ ?_
            rotate_left
            ·intro w'
             go_simp
             with_reducible rfl
            rotate_left
            ·simp only [Act.put, List.setIfInBounds_toArray, List.set_cons_zero, List.set_cons_succ, i64_w, i32_w]
             rfl
            refine take_ (i := 6) (N := some 57) (v := ?_) (a' := ?_) #[true, true, true, true, true, true, true, false, false, true, false, true, false, false, false, false, false, true, false, true, false, false, false, false, false, false] rfl rfl (take_ofW HT_.out HW_.out (by kernel_rfl)) (fun _ _ _ h => h) (Or.inl ⟨by rfl, ?_⟩) hHeld ?_ ?_
            rotate_left
            ·rintro w' ⟨s0, s1, s2, s3, s4, s5, s6, s7, s8, s9, s10, s11, s12, s13, s14, s15⟩
             go_simp
             with_reducible rfl
            rotate_left
            ·simp only [Act.put, List.setIfInBounds_toArray, List.set_cons_zero, List.set_cons_succ, i64_w, i32_w]
             rfl
            refine take_ (i := 10) (N := some 61) (v := ?_) (a' := ?_) #[true, true, true, true, true, true, true, false, false, true, true, true, false, false, false, false, false, true, false, true, false, false, false, false, false, false] rfl rfl (take_ofW HT_.out HW_.out (by kernel_rfl)) (fun _ _ _ h => h) (Or.inl ⟨by rfl, ?_⟩) hHeld ?_ ?_
            rotate_left
            ·rintro w' ⟨s0, s1, s2, s3, s4, s5, s6, s7, s8, s9, s10, s11, s12, s13, s14, s15⟩
             go_simp
             with_reducible rfl
            rotate_left
            ·simp only [Act.put, List.setIfInBounds_toArray, List.set_cons_zero, List.set_cons_succ, i64_w, i32_w]
             rfl
            refine pure_ (i := 12) (N := some 63) (v := ?_) (a' := ?_) #[true, true, true, true, true, true, true, false, false, true, true, true, true, false, false, false, false, true, false, true, false, false, false, false, false, false] rfl rfl (any_of HT_.out (by kernel_rfl)) (fun _ _ _ h => h) (Or.inl ⟨by rfl, ?_⟩) ?_ ?_
            rotate_left
            ·intro w'
             go_simp
             with_reducible rfl
            rotate_left
            ·simp only [Act.put, List.setIfInBounds_toArray, List.set_cons_zero, List.set_cons_succ, i64_w, i32_w]
             rfl
            refine pure_ (i := 13) (N := some 64) (v := ?_) (a' := ?_) #[true, true, true, true, true, true, true, false, false, true, true, true, true, true, false, false, false, true, false, true, false, false, false, false, false, false] rfl rfl (any_of HT_.out (by kernel_rfl)) (fun _ _ _ h => h) (Or.inl ⟨by rfl, ?_⟩) ?_ ?_
            rotate_left
            ·intro w'
             go_simp
             with_reducible rfl
            rotate_left
            ·simp only [Act.put, List.setIfInBounds_toArray, List.set_cons_zero, List.set_cons_succ, i64_w, i32_w]
             rfl
            refine take_ (i := 14) (N := some 65) (v := ?_) (a' := ?_) #[true, true, true, true, true, true, true, false, false, true, true, true, true, true, true, false, false, true, false, true, false, false, false, false, false, false] rfl rfl (take_ofW HT_.out HW_.out (by kernel_rfl)) (fun _ _ _ h => h) (Or.inl ⟨by rfl, ?_⟩) hHeld ?_ ?_
            rotate_left
            ·rintro w' ⟨s0, s1, s2, s3, s4, s5, s6, s7, s8, s9, s10, s11, s12, s13, s14, s15⟩
             go_simp
             with_reducible rfl
            rotate_left
            ·simp only [Act.put, List.setIfInBounds_toArray, List.set_cons_zero, List.set_cons_succ, i64_w, i32_w]
             rfl
            refine take_ (i := 18) (N := some 69) (v := ?_) (a' := ?_) #[true, true, true, true, true, true, true, false, false, true, true, true, true, true, true, false, false, true, true, true, false, false, false, false, false, false] rfl rfl (take_ofW HT_.out HW_.out (by kernel_rfl)) (fun _ _ _ h => h) (Or.inl ⟨by rfl, ?_⟩) hHeld ?_ ?_
            rotate_left
            ·rintro w' ⟨s0, s1, s2, s3, s4, s5, s6, s7, s8, s9, s10, s11, s12, s13, s14, s15⟩
             go_simp
             with_reducible rfl
            rotate_left
            ·simp only [Act.put, List.setIfInBounds_toArray, List.set_cons_zero, List.set_cons_succ, i64_w, i32_w]
             rfl
            refine pure_ (i := 20) (N := some 71) (v := ?_) (a' := ?_) #[true, true, true, true, true, true, true, false, false, true, true, true, true, true, true, false, false, true, true, true, true, false, false, false, false, false] rfl rfl (any_of HT_.out (by kernel_rfl)) (fun _ _ _ h => h) (Or.inl ⟨by rfl, ?_⟩) ?_ ?_
            rotate_left
            ·intro w'
             go_simp
             with_reducible rfl
            rotate_left
            ·simp only [Act.put, List.setIfInBounds_toArray, List.set_cons_zero, List.set_cons_succ, i64_w, i32_w]
             rfl
            refine pure_ (i := 21) (N := some 72) (v := ?_) (a' := ?_) #[true, true, true, true, true, true, true, false, false, true, true, true, true, true, true, false, false, true, true, true, true, true, false, false, false, false] rfl rfl (any_of HT_.out (by kernel_rfl)) (fun _ _ _ h => h) (Or.inl ⟨by rfl, ?_⟩) ?_ ?_
            rotate_left
            ·intro w'
             go_simp
             with_reducible rfl
            rotate_left
            ·simp only [Act.put, List.setIfInBounds_toArray, List.set_cons_zero, List.set_cons_succ, i64_w, i32_w]
             rfl
            refine take_ (i := 22) (N := some 73) (v := ?_) (a' := ?_) #[true, true, true, true, true, true, true, false, false, true, true, true, true, true, true, false, false, true, true, true, true, true, true, false, false, false] rfl rfl (take_ofW HT_.out HW_.out (by kernel_rfl)) (fun _ _ _ h => h) (Or.inl ⟨by rfl, ?_⟩) hHeld ?_ ?_
            rotate_left
            ·rintro w' ⟨s0, s1, s2, s3, s4, s5, s6, s7, s8, s9, s10, s11, s12, s13, s14, s15⟩
             go_simp
             with_reducible rfl
            rotate_left
            ·simp only [Act.put, List.setIfInBounds_toArray, List.set_cons_zero, List.set_cons_succ, i64_w, i32_w]
             rfl
            refine one_ (i := 7) (N := some 58) #[true, true, true, true, true, true, true, true, false, true, true, true, true, true, true, false, false, true, true, true, true, true, true, false, false, false] rfl rfl (one_of HT_.out (by kernel_rfl)) (by decide) (fun K hK => ?_)
            refine goes_ Tryd.func26 (by kernel_rfl) rfl #[.string ((rd_T42 l0_6 x8_2).f0)] (by rfl) rfl rfl (by (try simp only [List.map_toArray, List.map_cons, List.map_nil]); first | done | rfl | (simp only [List.length_drop, List.length_take]; rfl)) ?_
            with_reducible refine (billetref01_Text.calls k2 ((rd_T42 l0_6 x8_2).f0) tE _ A19.out).mono ?_
            rintro e w27 ⟨rfl, hb⟩
            refine ⟨_, rfl, ?_⟩
            have n0_ := Aside0.mk (blk_below (g := gbA) (o := .cells #[.int .i64 a0_0, .int .i64 a0_1, .int .i64 a0_2, .int .i64 a0_3, .int .i64 a0_4, .int .i64 a0_5, .slice (some adB) l0_6.length c0_6] 24 (0, 0)) (by (with_reducible repeat (first | refine blk_drewN ?_ _ | refine blk_drew ?_ | refine blk_alloc ?_ _)); exact BKA.out) hb)
            have n1_ := Aside0.mk (below_step (by repeat (first | (with_reducible first | exact HB.out | apply below_alloc | apply pw_below_drewN | apply below_drew1 | refine below_set ?_ GEA.out) | exact HB.out)) hb)
            clear BKA
            clear HB
            have BKA := n0_
            have HB := n1_
            clear n0_ n1_
            clear hb
            refine hK.out _ _ ⟨(blk_cell BKA.out 0).trans rfl, (blk_cell BKA.out 1).trans rfl, (blk_cell BKA.out 2).trans rfl, (blk_cell BKA.out 3).trans rfl, (blk_cell BKA.out 4).trans rfl, (blk_cell BKA.out 5).trans rfl, (blk_cell BKA.out 6).trans rfl, ((HB.out.cell (World.block_lt_of_cell? w _ hwB_0)).trans hwB_0), ((HB.out.cell (World.block_lt_of_cell? w _ hwB_1)).trans hwB_1), ((HB.out.cell (World.block_lt_of_cell? w _ hwB_2)).trans hwB_2), ((HB.out.cell (World.block_lt_of_cell? w _ hwC_0)).trans hwC_0), ((HB.out.cell (World.block_lt_of_cell? w _ hwC_1)).trans hwC_1), ((HB.out.cell (World.block_lt_of_cell? w _ hwC_2)).trans hwC_2), ((HB.out.cell (World.block_lt_of_cell? w _ hwD_0)).trans hwD_0), ((HB.out.cell (World.block_lt_of_cell? w _ hwD_1)).trans hwD_1), ((HB.out.cell (World.block_lt_of_cell? w _ hwD_2)).trans hwD_2)⟩ (fun hHeld => ?_)
            clear hK K
            refine norm_ (a' := ?_) ?_ ?_
            rotate_left
            ·show Act.put _ (some 58) _ = _
             simp only [Act.put, List.setIfInBounds_toArray, List.set_cons_zero, List.set_cons_succ, i64_w, i32_w]
             rfl
            refine pure_ (i := 8) (N := some 59) (v := ?_) (a' := ?_) #[true, true, true, true, true, true, true, true, true, true, true, true, true, true, true, false, false, true, true, true, true, true, true, false, false, false] rfl rfl (any_of HT_.out (by kernel_rfl)) (fun _ _ _ h => h) (Or.inl ⟨by rfl, ?_⟩) ?_ ?_
            rotate_left
            ·intro w'
             go_simp
             with_reducible rfl
            rotate_left
            ·simp only [Act.put, List.setIfInBounds_toArray, List.set_cons_zero, List.set_cons_succ, i64_w, i32_w]
             rfl
            refine one_ (i := 15) (N := some 66) #[true, true, true, true, true, true, true, true, true, true, true, true, true, true, true, true, false, true, true, true, true, true, true, false, false, false] rfl rfl (one_of HT_.out (by kernel_rfl)) (by decide) (fun K hK => ?_)
            refine goes_ Tryd.func26 (by kernel_rfl) rfl #[.string ((rd_T42 l0_6 x8_2).f1)] (by rfl) rfl rfl (by (try simp only [List.map_toArray, List.map_cons, List.map_nil]); first | done | rfl | (simp only [List.length_drop, List.length_take]; rfl)) ?_
            with_reducible refine (billetref01_Text.calls k2 ((rd_T42 l0_6 x8_2).f1) tF _ A21.out).mono ?_
            rintro e w28 ⟨rfl, hb⟩
            refine ⟨_, rfl, ?_⟩
            have n0_ := Aside0.mk (blk_below (g := gbA) (o := .cells #[.int .i64 a0_0, .int .i64 a0_1, .int .i64 a0_2, .int .i64 a0_3, .int .i64 a0_4, .int .i64 a0_5, .slice (some adB) l0_6.length c0_6] 24 (0, 0)) (by (with_reducible repeat (first | refine blk_drewN ?_ _ | refine blk_drew ?_ | refine blk_alloc ?_ _)); exact BKA.out) hb)
            have n1_ := Aside0.mk (below_step (by repeat (first | (with_reducible first | exact HB.out | apply below_alloc | apply pw_below_drewN | apply below_drew1 | refine below_set ?_ GEA.out) | exact HB.out)) hb)
            clear BKA
            clear HB
            have BKA := n0_
            have HB := n1_
            clear n0_ n1_
            clear hb
            refine hK.out _ _ ⟨(blk_cell BKA.out 0).trans rfl, (blk_cell BKA.out 1).trans rfl, (blk_cell BKA.out 2).trans rfl, (blk_cell BKA.out 3).trans rfl, (blk_cell BKA.out 4).trans rfl, (blk_cell BKA.out 5).trans rfl, (blk_cell BKA.out 6).trans rfl, ((HB.out.cell (World.block_lt_of_cell? w _ hwB_0)).trans hwB_0), ((HB.out.cell (World.block_lt_of_cell? w _ hwB_1)).trans hwB_1), ((HB.out.cell (World.block_lt_of_cell? w _ hwB_2)).trans hwB_2), ((HB.out.cell (World.block_lt_of_cell? w _ hwC_0)).trans hwC_0), ((HB.out.cell (World.block_lt_of_cell? w _ hwC_1)).trans hwC_1), ((HB.out.cell (World.block_lt_of_cell? w _ hwC_2)).trans hwC_2), ((HB.out.cell (World.block_lt_of_cell? w _ hwD_0)).trans hwD_0), ((HB.out.cell (World.block_lt_of_cell? w _ hwD_1)).trans hwD_1), ((HB.out.cell (World.block_lt_of_cell? w _ hwD_2)).trans hwD_2)⟩ (fun hHeld => ?_)
            clear hK K
            refine norm_ (a' := ?_) ?_ ?_
            rotate_left
            ·show Act.put _ (some 66) _ = _
             simp only [Act.put, List.setIfInBounds_toArray, List.set_cons_zero, List.set_cons_succ, i64_w, i32_w]
             rfl
            refine pure_ (i := 16) (N := some 67) (v := ?_) (a' := ?_) (upT 26 23) rfl rfl (any_of HT_.out (by kernel_rfl)) (fun _ _ _ h => h) (Or.inl ⟨by rfl, ?_⟩) ?_ ?_
            rotate_left
            ·intro w'
             go_simp
             with_reducible rfl
            rotate_left
            ·simp only [Act.put, List.setIfInBounds_toArray, List.set_cons_zero, List.set_cons_succ, i64_w, i32_w]
             rfl
            refine one_ (i := 23) (N := some 74) (upT 26 24) rfl rfl (one_of HT_.out (by kernel_rfl)) (by decide) (fun K hK => ?_)
            refine goes_ Tryd.func25 (by kernel_rfl) rfl #[.int .i64 ((rd_T42 l0_6 x8_2).f2)] (by rfl) rfl rfl (by (try simp only [List.map_toArray, List.map_cons, List.map_nil]); first | done | rfl | (simp only [List.length_drop, List.length_take]; rfl)) ?_
            with_reducible refine (billetref01_Num.calls k2 ((rd_T42 l0_6 x8_2).f2) tI _ A23.out).mono ?_
            rintro e w29 ⟨rfl, hb⟩
            refine ⟨_, rfl, ?_⟩
            have n0_ := Aside0.mk (blk_below (g := gbA) (o := .cells #[.int .i64 a0_0, .int .i64 a0_1, .int .i64 a0_2, .int .i64 a0_3, .int .i64 a0_4, .int .i64 a0_5, .slice (some adB) l0_6.length c0_6] 24 (0, 0)) (by (with_reducible repeat (first | refine blk_drewN ?_ _ | refine blk_drew ?_ | refine blk_alloc ?_ _)); exact BKA.out) hb)
            have n1_ := Aside0.mk (below_step (by repeat (first | (with_reducible first | exact HB.out | apply below_alloc | apply pw_below_drewN | apply below_drew1 | refine below_set ?_ GEA.out) | exact HB.out)) hb)
            clear BKA
            clear HB
            have BKA := n0_
            have HB := n1_
            clear n0_ n1_
            clear hb
            refine hK.out _ _ ⟨(blk_cell BKA.out 0).trans rfl, (blk_cell BKA.out 1).trans rfl, (blk_cell BKA.out 2).trans rfl, (blk_cell BKA.out 3).trans rfl, (blk_cell BKA.out 4).trans rfl, (blk_cell BKA.out 5).trans rfl, (blk_cell BKA.out 6).trans rfl, ((HB.out.cell (World.block_lt_of_cell? w _ hwB_0)).trans hwB_0), ((HB.out.cell (World.block_lt_of_cell? w _ hwB_1)).trans hwB_1), ((HB.out.cell (World.block_lt_of_cell? w _ hwB_2)).trans hwB_2), ((HB.out.cell (World.block_lt_of_cell? w _ hwC_0)).trans hwC_0), ((HB.out.cell (World.block_lt_of_cell? w _ hwC_1)).trans hwC_1), ((HB.out.cell (World.block_lt_of_cell? w _ hwC_2)).trans hwC_2), ((HB.out.cell (World.block_lt_of_cell? w _ hwD_0)).trans hwD_0), ((HB.out.cell (World.block_lt_of_cell? w _ hwD_1)).trans hwD_1), ((HB.out.cell (World.block_lt_of_cell? w _ hwD_2)).trans hwD_2)⟩ (fun hHeld => ?_)
            clear hK K
            refine norm_ (a' := ?_) ?_ ?_
            rotate_left
            ·show Act.put _ (some 74) _ = _
             simp only [Act.put, List.setIfInBounds_toArray, List.set_cons_zero, List.set_cons_succ, i64_w, i32_w]
             rfl
            refine pu 51 (v := ?_) (a' := ?_) rfl rfl (any_of HT_.out (by kernel_rfl)) (fun _ _ _ h => h) (Or.inl ⟨by rfl, ?_⟩) ?_ ?_; rotate_left; (·intro w'; go_simp; with_reducible rfl); rotate_left; (·simp only [Act.put, List.setIfInBounds_toArray, List.set_cons_zero, List.set_cons_succ, i64_w, i32_w, Nat.reduceAdd]; rfl); conv => arg 8; arg 2; simp only [Nat.reduceAdd]
            refine pure_ (i := 25) (N := some 6) (v := ?_) (a' := ?_) (upT 26 26) rfl rfl (any_of HT_.out (by kernel_rfl)) (fun _ _ _ h => h) (Or.inl ⟨by rfl, ?_⟩) ?_ ?_
            rotate_left
            ·intro w'
             go_simp
             with_reducible rfl
            rotate_left
            ·simp only [Act.put, List.setIfInBounds_toArray, List.set_cons_zero, List.set_cons_succ, i64_w, i32_w]
             rfl
            refine done_ (done_of HT_.out (by kernel_rfl)) ?_
            try go_wp2
            go_roundg k2
            case measure => have := HK1.out; have := HK2.out; omega
            case rel => exact ⟨(((x6_2 ++ tE) ++ tF) ++ tI), (wrap64 (x8_2 + 1)), (by first | rfl | (simp; done) | (simp [*]; done)), (by first | rfl | (simp; done) | (simp [*]; done)), H', ⟨by have := HK1.out; have := HK2.out; omega⟩, ⟨by (with_reducible repeat (first | refine blk_drewN ?_ _ | refine blk_drew ?_ | refine blk_alloc ?_ _)); exact BKA.out⟩, ⟨by repeat (first | (with_reducible first | exact HB.out | apply below_alloc | apply pw_below_drewN | apply below_drew1 | refine below_set ?_ GEA.out) | exact HB.out)⟩⟩
           ·rw [if_neg c24] at H
            exact absurd H (by simp)
          ·rw [if_neg c22] at H
           exact absurd H (by simp)
         ·rw [if_neg c20] at H
          exact absurd H (by simp)
        ·rw [if_neg c18] at H
         exact absurd H (by simp)
       ·rw [if_neg c17] at H
        have c17b0 : decide (x8_2 < (l0_6.length : Int)) = false := decide_eq_false c17
        clear c17
        replace H := Option.bind_eq_some_iff.mp H
        obtain ⟨⟨tS, tAA⟩, AX, H⟩ := H
        replace H : (some (tS, 0)) = some (r1, r2) := H
        have A30 := Aside0.mk AX
        clear AX
        simp only [Option.some.injEq, Prod.mk.injEq] at H
        obtain ⟨rfl, rfl⟩ := H
        have hcz31_0 : wr.cell? ⟨gbA, 0, none⟩ = some (.int .i64 a0_0) := (blk_cell BKA.out 0).trans rfl
        have hcz31_1 : wr.cell? ⟨gbA, 1, none⟩ = some (.int .i64 a0_1) := (blk_cell BKA.out 1).trans rfl
        have hcz31_2 : wr.cell? ⟨gbA, 2, none⟩ = some (.int .i64 a0_2) := (blk_cell BKA.out 2).trans rfl
        have hcz31_3 : wr.cell? ⟨gbA, 3, none⟩ = some (.int .i64 a0_3) := (blk_cell BKA.out 3).trans rfl
        have hcz31_4 : wr.cell? ⟨gbA, 4, none⟩ = some (.int .i64 a0_4) := (blk_cell BKA.out 4).trans rfl
        have hcz31_5 : wr.cell? ⟨gbA, 5, none⟩ = some (.int .i64 a0_5) := (blk_cell BKA.out 5).trans rfl
        have hcz31_6 : wr.cell? ⟨gbA, 6, none⟩ = some (.slice A0_6 l0_6.length c0_6) := (blk_cell BKA.out 6).trans rfl
        have hfz31_0 := blk_frozen BKA.out 0
        have hfz31_1 := blk_frozen BKA.out 1
        have hfz31_2 := blk_frozen BKA.out 2
        have hfz31_3 := blk_frozen BKA.out 3
        have hfz31_4 := blk_frozen BKA.out 4
        have hfz31_5 := blk_frozen BKA.out 5
        have hfz31_6 := blk_frozen BKA.out 6
        go_wp2_with (first | ((with_reducible refine gate_callee (f := 27) rfl ?_); refine goesL_ (some 78) rfl rfl Tryd.func27 (by kernel_rfl) rfl #[.string x6_2] rfl (by (try simp only [List.map_toArray, List.map_cons, List.map_nil]); first | done | rfl | (simp only [List.length_drop, List.length_take]; rfl)) ?_; (with_reducible refine (billetref03_Lay.calls k2 x6_2 tS tAA _ A30.out).mono ?_); rintro e w32 ⟨rfl, hb⟩; refine ⟨_, rfl, ?_⟩; have n0_ := Aside0.mk (blk_below (g := gbA) (o := .cells #[.int .i64 a0_0, .int .i64 a0_1, .int .i64 a0_2, .int .i64 a0_3, .int .i64 a0_4, .int .i64 a0_5, .slice A0_6 l0_6.length c0_6] 24 (0, 0)) (by (with_reducible repeat (first | refine blk_drewN ?_ _ | refine blk_drew ?_ | refine blk_alloc ?_ _)); exact BKA.out) hb); have n1_ := Aside0.mk (below_step (by repeat (first | (with_reducible first | exact HB.out | apply below_alloc | apply pw_below_drewN | apply below_drew1 | refine below_set ?_ GEA.out) | exact HB.out)) hb); clear BKA; clear HB; have BKA := n0_; have HB := n1_; clear n0_ n1_; (try clear hb); (try clear hb2); (try clear hk); (try clear hi); (try clear hge)))
        go_ret2
        exact ⟨by first | rfl | (simp [errW_none, errW_some] <;> rfl) | (simp [*, errW_none, errW_some] <;> rfl), by repeat (first | (with_reducible first | exact HB.out | apply below_alloc | apply pw_below_drewN | apply below_drew1 | refine below_set ?_ GEA.out) | exact HB.out)⟩
 ·replace c3 := Bool.eq_false_iff.mpr c3
  subst c3
  have H1 : (some ((⟨#[]⟩ : ByteArray), 160)) = some (r1, r2) := by rw [if_neg (show ¬ (false = true) by decide)] at H; exact H
  clear H
  have H := H1
  clear H1
  simp only [Option.some.injEq, Prod.mk.injEq] at H
  obtain ⟨rfl, rfl⟩ := H
  go_enter Tryd.func10, Tryd.ntmps10
  go_wp2_with (first | ((with_reducible refine gate_dst (N := 1) rfl ?_); refine box_event ?hg (N := 1) ?hd (cs := #[.int .i64 a0_0, .int .i64 a0_1, .int .i64 a0_2, .int .i64 a0_3, .int .i64 a0_4, .int .i64 a0_5, .slice A0_6 l0_6.length c0_6]) (t := 24) ?hr ?_; (case hd => rfl); (case hg => rfl); (case hr => first | (go_simp; done) | (go_simp; rfl)); intro gbA hg w33 hbox hb; have n0_ := Aside0.mk (below_step (by repeat (first | (with_reducible first | exact HB.out | apply below_alloc | apply pw_below_drewN | apply below_drew1) | exact HB.out)) hb); have n1_ := Aside0.mk (hbox); have n2_ := Aside0.mk ((by rw [hg]; exact (below_size (by repeat (first | (with_reducible first | exact HB.out | apply below_alloc | apply pw_below_drewN | apply below_drew1) | exact HB.out))) : w.heap.size ≤ gbA)); have n3_ := Aside0.mk ((by rw [hg]; exact (below_size (by repeat (first | (with_reducible first | exact HB.out | apply below_alloc | apply pw_below_drewN | apply below_drew1) | exact HB.out))) : w.heap.size ≤ gbA)); clear HB; have HB := n0_; have BKA := n1_; have GWA := n2_; have GEA := n3_; clear n0_ n1_ n2_ n3_; clear hb hbox hg; have hcz34_0 : w33.cell? ⟨gbA, 0, none⟩ = some (.int .i64 a0_0) := (blk_cell BKA.out 0).trans rfl; have hcz34_1 : w33.cell? ⟨gbA, 1, none⟩ = some (.int .i64 a0_1) := (blk_cell BKA.out 1).trans rfl; have hcz34_2 : w33.cell? ⟨gbA, 2, none⟩ = some (.int .i64 a0_2) := (blk_cell BKA.out 2).trans rfl; have hcz34_3 : w33.cell? ⟨gbA, 3, none⟩ = some (.int .i64 a0_3) := (blk_cell BKA.out 3).trans rfl; have hcz34_4 : w33.cell? ⟨gbA, 4, none⟩ = some (.int .i64 a0_4) := (blk_cell BKA.out 4).trans rfl; have hcz34_5 : w33.cell? ⟨gbA, 5, none⟩ = some (.int .i64 a0_5) := (blk_cell BKA.out 5).trans rfl; have hcz34_6 : w33.cell? ⟨gbA, 6, none⟩ = some (.slice A0_6 l0_6.length c0_6) := (blk_cell BKA.out 6).trans rfl; have hfz34_0 := blk_frozen BKA.out 0; have hfz34_1 := blk_frozen BKA.out 1; have hfz34_2 := blk_frozen BKA.out 2; have hfz34_3 := blk_frozen BKA.out 3; have hfz34_4 := blk_frozen BKA.out 4; have hfz34_5 := blk_frozen BKA.out 5; have hfz34_6 := blk_frozen BKA.out 6) | ((with_reducible refine gate_callee (f := 13) rfl ?_); refine goesL_ (some 12) rfl rfl Tryd.func13 (by kernel_rfl) rfl #[.agg #[.int .i64 a0_0, .int .i64 a0_1, .int .i64 a0_2, .int .i64 a0_3, .int .i64 a0_4, .int .i64 a0_5, .slice A0_6 l0_6.length c0_6]] rfl (by (try simp only [List.map_toArray, List.map_cons, List.map_nil]); first | done | rfl | (simp only [List.length_drop, List.length_take]; rfl)) ?_; (with_reducible refine (billetref16_Right.calls k a0_0 a0_1 a0_2 a0_3 a0_4 a0_5 _ _ l0_6 false _ ?side1 ?side2 A2.out).mono ?_); (case side1 => repeat (first | exact (Kd.C_below HR0_6.out HB.out) | (with_reducible refine Kd.C_alloc ?_ _) | (with_reducible refine Kd.C_drewN ?_ _) | (with_reducible refine Kd.C_drew ?_))); (case side2 => exact HC0_6.out); rintro e w35 ⟨rfl, hb⟩; refine ⟨_, rfl, ?_⟩; have n0_ := Aside0.mk (blk_below (g := gbA) (o := .cells #[.int .i64 a0_0, .int .i64 a0_1, .int .i64 a0_2, .int .i64 a0_3, .int .i64 a0_4, .int .i64 a0_5, .slice A0_6 l0_6.length c0_6] 24 (0, 0)) (by (with_reducible repeat (first | refine blk_drewN ?_ _ | refine blk_drew ?_ | refine blk_alloc ?_ _)); exact BKA.out) hb); have n1_ := Aside0.mk (below_step (by repeat (first | (with_reducible first | exact HB.out | apply below_alloc | apply pw_below_drewN | apply below_drew1 | refine below_set ?_ GEA.out) | exact HB.out)) hb); clear BKA; clear HB; have BKA := n0_; have HB := n1_; clear n0_ n1_; (try clear hb); (try clear hb2); (try clear hk); (try clear hi); (try clear hge)))
  go_ret2
  exact ⟨by first | rfl | (simp [errW_none, errW_some] <;> rfl) | (simp [*, errW_none, errW_some] <;> rfl), by repeat (first | (with_reducible first | exact HB.out | apply below_alloc | apply pw_below_drewN | apply below_drew1 | refine below_set ?_ GEA.out) | exact HB.out)⟩

end Go.Proofs.YtdgaancbeakfdaaDoor.Q
