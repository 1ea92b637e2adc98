/- thin -/
import Derived.Test.YtldlkbjbfgieeaaGreatDoorQx0
namespace Go.Proofs.YtldlkbjbfgieeaaGreatDoor.Q
open Go.RowKit Go.Proofs.YtldlkbjbfgieeaaGreatDoorW.PrintWords Go.Proofs.YtldlkbjbfgieeaaGreatDoorW.PrintLast Mo
attribute [local go_sem] max2_int min2_int max_two min_two max_three min_three max_four min_four   -- for this text's walks alone
open Giv Gn Ll Lb
set_option linter.unusedVariables false
set_option linter.unusedSimpArgs false

/-! ### billetlaw04_pick: function 100 -/
def billetlaw04_pick.f (a0 : Int) (a1 : Int) : Option (Int) := if a0 < 0 then (if a1 = 0 then (none) else (some (Int.tmod (wrap64 (-(wrap64 (a0 + 1)))) a1))) else (if a1 = 0 then (none) else (some (Int.tmod a0 a1)))
set_option maxHeartbeats 8000000 in
set_option maxRecDepth 100000 in
theorem billetlaw04_pick.calls (a0 : Int) (a1 : Int) (r : Int) (w : World) (h : billetlaw04_pick.f a0 a1 = some r) :
 Calls Tryz.prog 100 #[.int .i64 a0, .int .i64 a1] w fun e w' => e = .returned (.int .i64 r) ∧ Drawn0 w w' := by
 have H : (if a0 < 0 then (if a1 = 0 then (none) else (some (Int.tmod (wrap64 (-(wrap64 (a0 + 1)))) a1))) else (if a1 = 0 then (none) else (some (Int.tmod a0 a1)))) = some r := h
 clear h
 by_cases c3 : a0 < 0
 ·rw [if_pos c3] at H
  have c3b0 : decide (a0 < 0) = true := decide_eq_true c3
  clear c3
  by_cases c4 : a1 = 0
  ·rw [if_pos c4] at H
   exact absurd H (by simp)
  ·rw [if_neg c4] at H
   have c4b0 : (a1 == 0) = false := beq_eq_false_iff_ne.mpr c4
   have c4b1 : (a1 != 0) = true := bne_iff_ne.mpr c4
   obtain rfl := Option.some.inj H
   go_enter Tryz.func100, Tryz.ntmps100
   go_wp2
   go_ret
   exact ⟨by first | rfl | (simp; done) | (simp [*]; done), by repeat (first | exact Drawn0.refl _ | apply Drawn0.step)⟩
 ·rw [if_neg c3] at H
  have c3b0 : decide (a0 < 0) = false := decide_eq_false c3
  clear c3
  by_cases c5 : a1 = 0
  ·rw [if_pos c5] at H
   exact absurd H (by simp)
  ·rw [if_neg c5] at H
   have c5b0 : (a1 == 0) = false := beq_eq_false_iff_ne.mpr c5
   have c5b1 : (a1 != 0) = true := bne_iff_ne.mpr c5
   obtain rfl := Option.some.inj H
   go_enter Tryz.func100, Tryz.ntmps100
   go_wp2
   go_ret
   exact ⟨by first | rfl | (simp; done) | (simp [*]; done), by repeat (first | exact Drawn0.refl _ | apply Drawn0.step)⟩

end Go.Proofs.YtldlkbjbfgieeaaGreatDoor.Q
namespace Go.Proofs.YtldlkbjbfgieeaaGreatDoor.Q
open Go.RowKit Go.Proofs.YtldlkbjbfgieeaaGreatDoorW.PrintWords Go.Proofs.YtldlkbjbfgieeaaGreatDoorW.PrintLast Mo
attribute [local go_sem] max2_int min2_int max_two min_two max_three min_three max_four min_four   -- for this text's walks alone
open Giv Gn Ll Lb
set_option linter.unusedVariables false
set_option linter.unusedSimpArgs false

/-! ### billetlaw04_Name: function 99 -/
def billetlaw04_Name.f (a0 : Int) : Option (ByteArray) := (some (([(⟨#[97]⟩ : ByteArray), (⟨#[98]⟩ : ByteArray), (⟨#[122, 111, 110, 101]⟩ : ByteArray), (⟨#[100, 105, 115, 107]⟩ : ByteArray), (⟨#[103, 112, 117]⟩ : ByteArray), (⟨#[120, 57]⟩ : ByteArray), (⟨#[97, 98]⟩ : ByteArray), (⟨#[97, 98, 99, 100, 101, 102, 103, 104, 105, 106, 107, 108]⟩ : ByteArray)] : List ByteArray) : List ByteArray)).bind fun y221 => ((billetlaw04_pick.f a0 8).bind fun t224 => (if 0 ≤ t224 then (if t224 < (y221.length : Int) then (some (rdOf ByteArray.empty y221 t224)) else (none)) else (none)))
set_option maxHeartbeats 8000000 in
set_option maxRecDepth 100000 in
theorem billetlaw04_Name.calls (a0 : Int) (r : ByteArray) (w : World) (h : billetlaw04_Name.f a0 = some r) :
 Calls Tryz.prog 99 #[.int .i64 a0] w fun e w' => e = .returned (.string r) ∧ Below w.heap.size w w' := by
 have HB := Aside0.mk (Below.refl w.heap.size w)
 have H : ((some (([(⟨#[97]⟩ : ByteArray), (⟨#[98]⟩ : ByteArray), (⟨#[122, 111, 110, 101]⟩ : ByteArray), (⟨#[100, 105, 115, 107]⟩ : ByteArray), (⟨#[103, 112, 117]⟩ : ByteArray), (⟨#[120, 57]⟩ : ByteArray), (⟨#[97, 98]⟩ : ByteArray), (⟨#[97, 98, 99, 100, 101, 102, 103, 104, 105, 106, 107, 108]⟩ : ByteArray)] : List ByteArray) : List ByteArray)).bind fun y221 => ((billetlaw04_pick.f a0 8).bind fun t224 => (if 0 ≤ t224 then (if t224 < (y221.length : Int) then (some (rdOf ByteArray.empty y221 t224)) else (none)) else (none)))) = some r := h
 clear h
 obtain ⟨y221, hy221⟩ : ∃ y_ : List ByteArray, y_ = (([(⟨#[97]⟩ : ByteArray), (⟨#[98]⟩ : ByteArray), (⟨#[122, 111, 110, 101]⟩ : ByteArray), (⟨#[100, 105, 115, 107]⟩ : ByteArray), (⟨#[103, 112, 117]⟩ : ByteArray), (⟨#[120, 57]⟩ : ByteArray), (⟨#[97, 98]⟩ : ByteArray), (⟨#[97, 98, 99, 100, 101, 102, 103, 104, 105, 106, 107, 108]⟩ : ByteArray)] : List ByteArray)) := ⟨_, rfl⟩
 replace H : ((billetlaw04_pick.f a0 8).bind fun t224 => (if 0 ≤ t224 then (if t224 < (y221.length : Int) then (some (rdOf ByteArray.empty y221 t224)) else (none)) else (none))) = some r := by first | (rw [hy221]; with_reducible exact H) | (have H2_ := (Option.bind_some _ _).symm.trans H; rw [hy221]; with_reducible exact H2_) | (have H2_ := (Option.bind_some _ _).symm.trans H; with_reducible exact H2_) | with_reducible exact H | (rw [hy221]; exact H) | exact H
 have Ny221 := Aside0.mk hy221
 clear hy221
 replace H := Option.bind_eq_some_iff.mp H
 obtain ⟨t224, A20, H⟩ := H
 replace H : (if 0 ≤ t224 then (if t224 < (y221.length : Int) then (some (rdOf ByteArray.empty y221 t224)) else (none)) else (none)) = some r := H
 have A2 := Aside0.mk A20
 clear A20
 by_cases c3 : 0 ≤ t224
 ·rw [if_pos c3] at H
  have c3b0 : decide (0 ≤ t224) = true := decide_eq_true c3
  clear c3
  by_cases c4 : t224 < (y221.length : Int)
  ·rw [if_pos c4] at H
   have c4b0 : decide (t224 < (y221.length : Int)) = true := decide_eq_true c4
   clear c4
   obtain rfl := Option.some.inj H
   go_enter Tryz.func99, Tryz.ntmps99
   go_wp2_with (first | ((with_reducible refine gate_dst (N := 3) rfl ?_); refine Kd.R_lit Kd.string _ 9 ?hg (N := 3) ?hd (xs := ([(⟨#[97]⟩ : ByteArray), (⟨#[98]⟩ : ByteArray), (⟨#[122, 111, 110, 101]⟩ : ByteArray), (⟨#[100, 105, 115, 107]⟩ : ByteArray), (⟨#[103, 112, 117]⟩ : ByteArray), (⟨#[120, 57]⟩ : ByteArray), (⟨#[97, 98]⟩ : ByteArray), (⟨#[97, 98, 99, 100, 101, 102, 103, 104, 105, 106, 107, 108]⟩ : ByteArray)] : List ByteArray)) (inner := [.string (⟨#[97]⟩ : ByteArray), .string (⟨#[98]⟩ : ByteArray), .string (⟨#[122, 111, 110, 101]⟩ : ByteArray), .string (⟨#[100, 105, 115, 107]⟩ : ByteArray), .string (⟨#[103, 112, 117]⟩ : ByteArray), .string (⟨#[120, 57]⟩ : ByteArray), .string (⟨#[97, 98]⟩ : ByteArray), .string (⟨#[97, 98, 99, 100, 101, 102, 103, 104, 105, 106, 107, 108]⟩ : ByteArray)]) (ok := fun _ => True) (okp := fun _ => True) ?hr ?hp (fun _ hk => hk) trivial (Below.refl _ _) (Nat.le_refl _) (by simp) ?_; (case hd => rfl); (case hg => rfl); (case hr => first | (go_simp; done) | (go_simp; rfl)); (case hp => exact (Reps.one (show Kd.M Kd.string _ _ _ (⟨#[97]⟩ : ByteArray) [.string (⟨#[97]⟩ : ByteArray)] from rfl) (Reps.one (show Kd.M Kd.string _ _ _ (⟨#[98]⟩ : ByteArray) [.string (⟨#[98]⟩ : ByteArray)] from rfl) (Reps.one (show Kd.M Kd.string _ _ _ (⟨#[122, 111, 110, 101]⟩ : ByteArray) [.string (⟨#[122, 111, 110, 101]⟩ : ByteArray)] from rfl) (Reps.one (show Kd.M Kd.string _ _ _ (⟨#[100, 105, 115, 107]⟩ : ByteArray) [.string (⟨#[100, 105, 115, 107]⟩ : ByteArray)] from rfl) (Reps.one (show Kd.M Kd.string _ _ _ (⟨#[103, 112, 117]⟩ : ByteArray) [.string (⟨#[103, 112, 117]⟩ : ByteArray)] from rfl) (Reps.one (show Kd.M Kd.string _ _ _ (⟨#[120, 57]⟩ : ByteArray) [.string (⟨#[120, 57]⟩ : ByteArray)] from rfl) (Reps.one (show Kd.M Kd.string _ _ _ (⟨#[97, 98]⟩ : ByteArray) [.string (⟨#[97, 98]⟩ : ByteArray)] from rfl) (Reps.one (show Kd.M Kd.string _ _ _ (⟨#[97, 98, 99, 100, 101, 102, 103, 104, 105, 106, 107, 108]⟩ : ByteArray) [.string (⟨#[97, 98, 99, 100, 101, 102, 103, 104, 105, 106, 107, 108]⟩ : ByteArray)] from rfl) (Reps.none _ _)))))))))); intro v222 w5 ho6 hb hg_ hnew_; clear hg_ hnew_; (first | rw [← Ny221.out] at ho6 | (simp only [Int.reduceToNat] at ho6; rw [← Ny221.out] at ho6)); have n0_ := Aside0.mk (Kd.R_lower ho6 (below_size (by repeat (first | (with_reducible first | exact HB.out | apply below_alloc | apply pw_below_drewN | apply below_drew1) | exact HB.out)))); have n1_ := Aside0.mk (below_step (by repeat (first | (with_reducible first | exact HB.out | apply below_alloc | apply pw_below_drewN | apply below_drew1) | exact HB.out)) hb); clear HB; have HO223 := n0_; have HB := n1_; clear n0_ n1_; clear hb ho6) | ((with_reducible refine gate_callee (f := 100) rfl ?_); refine goesL_ (some 5) rfl rfl Tryz.func100 (by kernel_rfl) rfl #[.int .i64 a0, .int .i64 8] rfl (by (try simp only [List.map_toArray, List.map_cons, List.map_nil]); first | done | rfl | (simp only [List.length_drop, List.length_take]; rfl)) ?_; (with_reducible refine (billetlaw04_pick.calls a0 8 t224 _ A2.out).mono ?_); rintro e w' ⟨rfl, ⟨nd, rfl⟩⟩; refine ⟨_, rfl, ?_⟩; obtain ⟨Ao7, co7, eo7⟩ := Kd.R_slice HO223.out; subst eo7; have p225 : 0 ≤ (t224 : Int) := of_decide_eq_true (by first | (with_reducible assumption) | assumption); have q225 : t224 < (y221.length : Int) := of_decide_eq_true (by first | (with_reducible assumption) | assumption); obtain ⟨ad225, e225, hx225_0⟩ := Kd.at_string (Kd.R_reads' HO223.out).2.2 t224 p225 q225; cases e225; replace p225 := eq_true p225; replace q225 := eq_true q225))
   go_ret
   exact ⟨by first | rfl | (simp [errW_none, errW_some] <;> rfl) | (simp [*, errW_none, errW_some] <;> rfl), by repeat (first | (with_reducible first | exact HB.out | apply below_alloc | apply pw_below_drewN | apply below_drew1) | exact HB.out)⟩
  ·rw [if_neg c4] at H
   exact absurd H (by simp)
 ·rw [if_neg c3] at H
  exact absurd H (by simp)

end Go.Proofs.YtldlkbjbfgieeaaGreatDoor.Q
namespace Go.Proofs.YtldlkbjbfgieeaaGreatDoor.Q
open Go.RowKit Go.Proofs.YtldlkbjbfgieeaaGreatDoorW.PrintWords Go.Proofs.YtldlkbjbfgieeaaGreatDoorW.PrintLast Mo
attribute [local go_sem] max2_int min2_int max_two min_two max_three min_three max_four min_four   -- for this text's walks alone
open Giv Gn Ll Lb
set_option linter.unusedVariables false
set_option linter.unusedSimpArgs false

/-! ### billetlaw04_Term: function 79 -/
def billetlaw04_Term.f (a0 : Int) : Option (ByteArray) := (billetlaw04_Name.f a0).bind fun t226 => ((billetlaw04_pick.f a0 64).bind fun t227 => ((billetlaw04_Name.f (wrap64 (Int.tdiv t227 8))).bind fun t228 => ((billetlaw04_pick.f a0 256).bind fun t229 => (if (wrap64 (Int.tdiv t229 64)) = 0 then (some t226) else (if (wrap64 (Int.tdiv t229 64)) = 1 then (if 1 + t226.size ≤ 9223372036854775807 then (some ((⟨#[33]⟩ : ByteArray) ++ t226)) else (none)) else (if (wrap64 (Int.tdiv t229 64)) = 2 then (if t226.size + 1 ≤ 9223372036854775807 then (if (t226 ++ (⟨#[61]⟩ : ByteArray)).size + t228.size ≤ 9223372036854775807 then (some ((t226 ++ (⟨#[61]⟩ : ByteArray)) ++ t228)) else (none)) else (none)) else (if t226.size + 2 ≤ 9223372036854775807 then (if (t226 ++ (⟨#[33, 61]⟩ : ByteArray)).size + t228.size ≤ 9223372036854775807 then (some ((t226 ++ (⟨#[33, 61]⟩ : ByteArray)) ++ t228)) else (none)) else (none))))))))
set_option maxHeartbeats 8000000 in
set_option maxRecDepth 100000 in
theorem billetlaw04_Term.calls (a0 : Int) (r : ByteArray) (w : World) (h : billetlaw04_Term.f a0 = some r) :
 Calls Tryz.prog 79 #[.int .i64 a0] w fun e w' => e = .returned (.string r) ∧ Below w.heap.size w w' := by
 have HB := Aside0.mk (Below.refl w.heap.size w)
 have H : ((billetlaw04_Name.f a0).bind fun t226 => ((billetlaw04_pick.f a0 64).bind fun t227 => ((billetlaw04_Name.f (wrap64 (Int.tdiv t227 8))).bind fun t228 => ((billetlaw04_pick.f a0 256).bind fun t229 => (if (wrap64 (Int.tdiv t229 64)) = 0 then (some t226) else (if (wrap64 (Int.tdiv t229 64)) = 1 then (if 1 + t226.size ≤ 9223372036854775807 then (some ((⟨#[33]⟩ : ByteArray) ++ t226)) else (none)) else (if (wrap64 (Int.tdiv t229 64)) = 2 then (if t226.size + 1 ≤ 9223372036854775807 then (if (t226 ++ (⟨#[61]⟩ : ByteArray)).size + t228.size ≤ 9223372036854775807 then (some ((t226 ++ (⟨#[61]⟩ : ByteArray)) ++ t228)) else (none)) else (none)) else (if t226.size + 2 ≤ 9223372036854775807 then (if (t226 ++ (⟨#[33, 61]⟩ : ByteArray)).size + t228.size ≤ 9223372036854775807 then (some ((t226 ++ (⟨#[33, 61]⟩ : ByteArray)) ++ t228)) else (none)) else (none))))))))) = some r := h
 clear h
 replace H := Option.bind_eq_some_iff.mp H
 obtain ⟨t226, A20, H⟩ := H
 replace H : ((billetlaw04_pick.f a0 64).bind fun t227 => ((billetlaw04_Name.f (wrap64 (Int.tdiv t227 8))).bind fun t228 => ((billetlaw04_pick.f a0 256).bind fun t229 => (if (wrap64 (Int.tdiv t229 64)) = 0 then (some t226) else (if (wrap64 (Int.tdiv t229 64)) = 1 then (if 1 + t226.size ≤ 9223372036854775807 then (some ((⟨#[33]⟩ : ByteArray) ++ t226)) else (none)) else (if (wrap64 (Int.tdiv t229 64)) = 2 then (if t226.size + 1 ≤ 9223372036854775807 then (if (t226 ++ (⟨#[61]⟩ : ByteArray)).size + t228.size ≤ 9223372036854775807 then (some ((t226 ++ (⟨#[61]⟩ : ByteArray)) ++ t228)) else (none)) else (none)) else (if t226.size + 2 ≤ 9223372036854775807 then (if (t226 ++ (⟨#[33, 61]⟩ : ByteArray)).size + t228.size ≤ 9223372036854775807 then (some ((t226 ++ (⟨#[33, 61]⟩ : ByteArray)) ++ t228)) else (none)) else (none)))))))) = some r := H
 have A2 := Aside0.mk A20
 clear A20
 replace H := Option.bind_eq_some_iff.mp H
 obtain ⟨t227, A30, H⟩ := H
 replace H : ((billetlaw04_Name.f (wrap64 (Int.tdiv t227 8))).bind fun t228 => ((billetlaw04_pick.f a0 256).bind fun t229 => (if (wrap64 (Int.tdiv t229 64)) = 0 then (some t226) else (if (wrap64 (Int.tdiv t229 64)) = 1 then (if 1 + t226.size ≤ 9223372036854775807 then (some ((⟨#[33]⟩ : ByteArray) ++ t226)) else (none)) else (if (wrap64 (Int.tdiv t229 64)) = 2 then (if t226.size + 1 ≤ 9223372036854775807 then (if (t226 ++ (⟨#[61]⟩ : ByteArray)).size + t228.size ≤ 9223372036854775807 then (some ((t226 ++ (⟨#[61]⟩ : ByteArray)) ++ t228)) else (none)) else (none)) else (if t226.size + 2 ≤ 9223372036854775807 then (if (t226 ++ (⟨#[33, 61]⟩ : ByteArray)).size + t228.size ≤ 9223372036854775807 then (some ((t226 ++ (⟨#[33, 61]⟩ : ByteArray)) ++ t228)) else (none)) else (none))))))) = some r := H
 have A3 := Aside0.mk A30
 clear A30
 replace H := Option.bind_eq_some_iff.mp H
 obtain ⟨t228, A40, H⟩ := H
 replace H : ((billetlaw04_pick.f a0 256).bind fun t229 => (if (wrap64 (Int.tdiv t229 64)) = 0 then (some t226) else (if (wrap64 (Int.tdiv t229 64)) = 1 then (if 1 + t226.size ≤ 9223372036854775807 then (some ((⟨#[33]⟩ : ByteArray) ++ t226)) else (none)) else (if (wrap64 (Int.tdiv t229 64)) = 2 then (if t226.size + 1 ≤ 9223372036854775807 then (if (t226 ++ (⟨#[61]⟩ : ByteArray)).size + t228.size ≤ 9223372036854775807 then (some ((t226 ++ (⟨#[61]⟩ : ByteArray)) ++ t228)) else (none)) else (none)) else (if t226.size + 2 ≤ 9223372036854775807 then (if (t226 ++ (⟨#[33, 61]⟩ : ByteArray)).size + t228.size ≤ 9223372036854775807 then (some ((t226 ++ (⟨#[33, 61]⟩ : ByteArray)) ++ t228)) else (none)) else (none)))))) = some r := H
 have A4 := Aside0.mk A40
 clear A40
 replace H := Option.bind_eq_some_iff.mp H
 obtain ⟨t229, A50, H⟩ := H
 replace H : (if (wrap64 (Int.tdiv t229 64)) = 0 then (some t226) else (if (wrap64 (Int.tdiv t229 64)) = 1 then (if 1 + t226.size ≤ 9223372036854775807 then (some ((⟨#[33]⟩ : ByteArray) ++ t226)) else (none)) else (if (wrap64 (Int.tdiv t229 64)) = 2 then (if t226.size + 1 ≤ 9223372036854775807 then (if (t226 ++ (⟨#[61]⟩ : ByteArray)).size + t228.size ≤ 9223372036854775807 then (some ((t226 ++ (⟨#[61]⟩ : ByteArray)) ++ t228)) else (none)) else (none)) else (if t226.size + 2 ≤ 9223372036854775807 then (if (t226 ++ (⟨#[33, 61]⟩ : ByteArray)).size + t228.size ≤ 9223372036854775807 then (some ((t226 ++ (⟨#[33, 61]⟩ : ByteArray)) ++ t228)) else (none)) else (none))))) = some r := H
 have A5 := Aside0.mk A50
 clear A50
 by_cases c6 : (wrap64 (Int.tdiv t229 64)) = 0
 ·rw [if_pos c6] at H
  have c6b0 : ((wrap64 (Int.tdiv t229 64)) == 0) = true := beq_iff_eq.mpr c6
  have c6b1 : ((wrap64 (Int.tdiv t229 64)) != 0) = false := bne_eq_false_iff_eq.mpr c6
  clear c6
  obtain rfl := Option.some.inj H
  go_enter Tryz.func79, Tryz.ntmps79
  go_wp2_with (first | ((with_reducible refine gate_callee (f := 99) rfl ?_); refine goesL_ (some 6) rfl rfl Tryz.func99 (by kernel_rfl) rfl #[.int .i64 a0] rfl (by (try simp only [List.map_toArray, List.map_cons, List.map_nil]); first | done | rfl | (simp only [List.length_drop, List.length_take]; rfl)) ?_; (with_reducible refine (billetlaw04_Name.calls a0 t226 _ A2.out).mono ?_); rintro e w7 ⟨rfl, hb⟩; refine ⟨_, rfl, ?_⟩; have n0_ := Aside0.mk (below_step (by repeat (first | (with_reducible first | exact HB.out | apply below_alloc | apply pw_below_drewN | apply below_drew1) | exact HB.out)) hb); clear HB; have HB := n0_; clear n0_; (try clear hb); (try clear hb2); (try clear hk); (try clear hi); (try clear hge)) | ((with_reducible refine gate_callee (f := 100) rfl ?_); refine goesL_ (some 8) rfl rfl Tryz.func100 (by kernel_rfl) rfl #[.int .i64 a0, .int .i64 64] rfl (by (try simp only [List.map_toArray, List.map_cons, List.map_nil]); first | done | rfl | (simp only [List.length_drop, List.length_take]; rfl)) ?_; (with_reducible refine (billetlaw04_pick.calls a0 64 t227 _ A3.out).mono ?_); rintro e w' ⟨rfl, ⟨nd, rfl⟩⟩; refine ⟨_, rfl, ?_⟩) | ((with_reducible refine gate_callee (f := 99) rfl ?_); refine goesL_ (some 10) rfl rfl Tryz.func99 (by kernel_rfl) rfl #[.int .i64 (wrap64 (Int.tdiv t227 8))] rfl (by (try simp only [List.map_toArray, List.map_cons, List.map_nil]); first | done | rfl | (simp only [List.length_drop, List.length_take]; rfl)) ?_; (with_reducible refine (billetlaw04_Name.calls (wrap64 (Int.tdiv t227 8)) t228 _ A4.out).mono ?_); rintro e w8 ⟨rfl, hb⟩; refine ⟨_, rfl, ?_⟩; have n0_ := Aside0.mk (below_step (by repeat (first | (with_reducible first | exact HB.out | apply below_alloc | apply pw_below_drewN | apply below_drew1) | exact HB.out)) hb); clear HB; have HB := n0_; clear n0_; (try clear hb); (try clear hb2); (try clear hk); (try clear hi); (try clear hge)) | ((with_reducible refine gate_callee (f := 100) rfl ?_); refine goesL_ (some 12) rfl rfl Tryz.func100 (by kernel_rfl) rfl #[.int .i64 a0, .int .i64 256] rfl (by (try simp only [List.map_toArray, List.map_cons, List.map_nil]); first | done | rfl | (simp only [List.length_drop, List.length_take]; rfl)) ?_; (with_reducible refine (billetlaw04_pick.calls a0 256 t229 _ A5.out).mono ?_); rintro e w' ⟨rfl, ⟨nd, rfl⟩⟩; refine ⟨_, rfl, ?_⟩))
  go_ret
  exact ⟨by first | rfl | (simp [errW_none, errW_some] <;> rfl) | (simp [*, errW_none, errW_some] <;> rfl), by repeat (first | (with_reducible first | exact HB.out | apply below_alloc | apply pw_below_drewN | apply below_drew1) | exact HB.out)⟩
 ·rw [if_neg c6] at H
  have c6b0 : ((wrap64 (Int.tdiv t229 64)) == 0) = false := beq_eq_false_iff_ne.mpr c6
  have c6b1 : ((wrap64 (Int.tdiv t229 64)) != 0) = true := bne_iff_ne.mpr c6
  by_cases c9 : (wrap64 (Int.tdiv t229 64)) = 1
  ·rw [if_pos c9] at H
   have c9b0 : ((wrap64 (Int.tdiv t229 64)) == 1) = true := beq_iff_eq.mpr c9
   have c9b1 : ((wrap64 (Int.tdiv t229 64)) != 1) = false := bne_eq_false_iff_eq.mpr c9
   clear c9
   by_cases c10 : 1 + t226.size ≤ 9223372036854775807
   ·rw [if_pos c10] at H
    have c10b0 := eq_true c10
    have c10b1 : decide (1 + t226.size ≤ 9223372036854775807) = true := decide_eq_true c10
    try have c10b2 : (9223372036854775807 < 1 + t226.size) = False := eq_false (Nat.not_lt.2 c10)
    obtain rfl := Option.some.inj H
    go_enter Tryz.func79, Tryz.ntmps79
    go_wp2_with (first | ((with_reducible refine gate_callee (f := 99) rfl ?_); refine goesL_ (some 6) rfl rfl Tryz.func99 (by kernel_rfl) rfl #[.int .i64 a0] rfl (by (try simp only [List.map_toArray, List.map_cons, List.map_nil]); first | done | rfl | (simp only [List.length_drop, List.length_take]; rfl)) ?_; (with_reducible refine (billetlaw04_Name.calls a0 t226 _ A2.out).mono ?_); rintro e w11 ⟨rfl, hb⟩; refine ⟨_, rfl, ?_⟩; have n0_ := Aside0.mk (below_step (by repeat (first | (with_reducible first | exact HB.out | apply below_alloc | apply pw_below_drewN | apply below_drew1) | exact HB.out)) hb); clear HB; have HB := n0_; clear n0_; (try clear hb); (try clear hb2); (try clear hk); (try clear hi); (try clear hge)) | ((with_reducible refine gate_callee (f := 100) rfl ?_); refine goesL_ (some 8) rfl rfl Tryz.func100 (by kernel_rfl) rfl #[.int .i64 a0, .int .i64 64] rfl (by (try simp only [List.map_toArray, List.map_cons, List.map_nil]); first | done | rfl | (simp only [List.length_drop, List.length_take]; rfl)) ?_; (with_reducible refine (billetlaw04_pick.calls a0 64 t227 _ A3.out).mono ?_); rintro e w' ⟨rfl, ⟨nd, rfl⟩⟩; refine ⟨_, rfl, ?_⟩) | ((with_reducible refine gate_callee (f := 99) rfl ?_); refine goesL_ (some 10) rfl rfl Tryz.func99 (by kernel_rfl) rfl #[.int .i64 (wrap64 (Int.tdiv t227 8))] rfl (by (try simp only [List.map_toArray, List.map_cons, List.map_nil]); first | done | rfl | (simp only [List.length_drop, List.length_take]; rfl)) ?_; (with_reducible refine (billetlaw04_Name.calls (wrap64 (Int.tdiv t227 8)) t228 _ A4.out).mono ?_); rintro e w12 ⟨rfl, hb⟩; refine ⟨_, rfl, ?_⟩; have n0_ := Aside0.mk (below_step (by repeat (first | (with_reducible first | exact HB.out | apply below_alloc | apply pw_below_drewN | apply below_drew1) | exact HB.out)) hb); clear HB; have HB := n0_; clear n0_; (try clear hb); (try clear hb2); (try clear hk); (try clear hi); (try clear hge)) | ((with_reducible refine gate_callee (f := 100) rfl ?_); refine goesL_ (some 12) rfl rfl Tryz.func100 (by kernel_rfl) rfl #[.int .i64 a0, .int .i64 256] rfl (by (try simp only [List.map_toArray, List.map_cons, List.map_nil]); first | done | rfl | (simp only [List.length_drop, List.length_take]; rfl)) ?_; (with_reducible refine (billetlaw04_pick.calls a0 256 t229 _ A5.out).mono ?_); rintro e w' ⟨rfl, ⟨nd, rfl⟩⟩; refine ⟨_, rfl, ?_⟩))
    go_ret
    exact ⟨by first | rfl | (simp [errW_none, errW_some] <;> rfl) | (simp [*, errW_none, errW_some] <;> rfl), by repeat (first | (with_reducible first | exact HB.out | apply below_alloc | apply pw_below_drewN | apply below_drew1) | exact HB.out)⟩
   ·rw [if_neg c10] at H
    exact absurd H (by simp)
  ·rw [if_neg c9] at H
   have c9b0 : ((wrap64 (Int.tdiv t229 64)) == 1) = false := beq_eq_false_iff_ne.mpr c9
   have c9b1 : ((wrap64 (Int.tdiv t229 64)) != 1) = true := bne_iff_ne.mpr c9
   by_cases c13 : (wrap64 (Int.tdiv t229 64)) = 2
   ·rw [if_pos c13] at H
    have c13b0 : ((wrap64 (Int.tdiv t229 64)) == 2) = true := beq_iff_eq.mpr c13
    have c13b1 : ((wrap64 (Int.tdiv t229 64)) != 2) = false := bne_eq_false_iff_eq.mpr c13
    clear c13
    by_cases c14 : t226.size + 1 ≤ 9223372036854775807
    ·rw [if_pos c14] at H
     have c14b0 := eq_true c14
     have c14b1 : decide (t226.size + 1 ≤ 9223372036854775807) = true := decide_eq_true c14
     try have c14b2 : (9223372036854775807 < t226.size + 1) = False := eq_false (Nat.not_lt.2 c14)
     by_cases c15 : (t226 ++ (⟨#[61]⟩ : ByteArray)).size + t228.size ≤ 9223372036854775807
     ·rw [if_pos c15] at H
      (try (have c15s := c15; simp only [ByteArray.size_append] at c15s))
      (try have c15sb0 := eq_true c15s)
      (try have c15sb1 := decide_eq_true c15s)
      (try have c15sb2 := eq_false (Nat.not_lt.2 c15s))
      have c15b0 := eq_true c15
      have c15b1 : decide ((t226 ++ (⟨#[61]⟩ : ByteArray)).size + t228.size ≤ 9223372036854775807) = true := decide_eq_true c15
      try have c15b2 : (9223372036854775807 < (t226 ++ (⟨#[61]⟩ : ByteArray)).size + t228.size) = False := eq_false (Nat.not_lt.2 c15)
      obtain rfl := Option.some.inj H
      go_enter Tryz.func79, Tryz.ntmps79
      go_wp2_with (first | ((with_reducible refine gate_callee (f := 99) rfl ?_); refine goesL_ (some 6) rfl rfl Tryz.func99 (by kernel_rfl) rfl #[.int .i64 a0] rfl (by (try simp only [List.map_toArray, List.map_cons, List.map_nil]); first | done | rfl | (simp only [List.length_drop, List.length_take]; rfl)) ?_; (with_reducible refine (billetlaw04_Name.calls a0 t226 _ A2.out).mono ?_); rintro e w16 ⟨rfl, hb⟩; refine ⟨_, rfl, ?_⟩; have n0_ := Aside0.mk (below_step (by repeat (first | (with_reducible first | exact HB.out | apply below_alloc | apply pw_below_drewN | apply below_drew1) | exact HB.out)) hb); clear HB; have HB := n0_; clear n0_; (try clear hb); (try clear hb2); (try clear hk); (try clear hi); (try clear hge)) | ((with_reducible refine gate_callee (f := 100) rfl ?_); refine goesL_ (some 8) rfl rfl Tryz.func100 (by kernel_rfl) rfl #[.int .i64 a0, .int .i64 64] rfl (by (try simp only [List.map_toArray, List.map_cons, List.map_nil]); first | done | rfl | (simp only [List.length_drop, List.length_take]; rfl)) ?_; (with_reducible refine (billetlaw04_pick.calls a0 64 t227 _ A3.out).mono ?_); rintro e w' ⟨rfl, ⟨nd, rfl⟩⟩; refine ⟨_, rfl, ?_⟩) | ((with_reducible refine gate_callee (f := 99) rfl ?_); refine goesL_ (some 10) rfl rfl Tryz.func99 (by kernel_rfl) rfl #[.int .i64 (wrap64 (Int.tdiv t227 8))] rfl (by (try simp only [List.map_toArray, List.map_cons, List.map_nil]); first | done | rfl | (simp only [List.length_drop, List.length_take]; rfl)) ?_; (with_reducible refine (billetlaw04_Name.calls (wrap64 (Int.tdiv t227 8)) t228 _ A4.out).mono ?_); rintro e w17 ⟨rfl, hb⟩; refine ⟨_, rfl, ?_⟩; have n0_ := Aside0.mk (below_step (by repeat (first | (with_reducible first | exact HB.out | apply below_alloc | apply pw_below_drewN | apply below_drew1) | exact HB.out)) hb); clear HB; have HB := n0_; clear n0_; (try clear hb); (try clear hb2); (try clear hk); (try clear hi); (try clear hge)) | ((with_reducible refine gate_callee (f := 100) rfl ?_); refine goesL_ (some 12) rfl rfl Tryz.func100 (by kernel_rfl) rfl #[.int .i64 a0, .int .i64 256] rfl (by (try simp only [List.map_toArray, List.map_cons, List.map_nil]); first | done | rfl | (simp only [List.length_drop, List.length_take]; rfl)) ?_; (with_reducible refine (billetlaw04_pick.calls a0 256 t229 _ A5.out).mono ?_); rintro e w' ⟨rfl, ⟨nd, rfl⟩⟩; refine ⟨_, rfl, ?_⟩))
      go_ret
      exact ⟨by first | rfl | (simp [errW_none, errW_some] <;> rfl) | (simp [*, errW_none, errW_some] <;> rfl), by repeat (first | (with_reducible first | exact HB.out | apply below_alloc | apply pw_below_drewN | apply below_drew1) | exact HB.out)⟩
     ·rw [if_neg c15] at H
      exact absurd H (by simp)
    ·rw [if_neg c14] at H
     exact absurd H (by simp)
   ·rw [if_neg c13] at H
    have c13b0 : ((wrap64 (Int.tdiv t229 64)) == 2) = false := beq_eq_false_iff_ne.mpr c13
    have c13b1 : ((wrap64 (Int.tdiv t229 64)) != 2) = true := bne_iff_ne.mpr c13
    by_cases c18 : t226.size + 2 ≤ 9223372036854775807
    ·rw [if_pos c18] at H
     have c18b0 := eq_true c18
     have c18b1 : decide (t226.size + 2 ≤ 9223372036854775807) = true := decide_eq_true c18
     try have c18b2 : (9223372036854775807 < t226.size + 2) = False := eq_false (Nat.not_lt.2 c18)
     by_cases c19 : (t226 ++ (⟨#[33, 61]⟩ : ByteArray)).size + t228.size ≤ 9223372036854775807
     ·rw [if_pos c19] at H
      (try (have c19s := c19; simp only [ByteArray.size_append] at c19s))
      (try have c19sb0 := eq_true c19s)
      (try have c19sb1 := decide_eq_true c19s)
      (try have c19sb2 := eq_false (Nat.not_lt.2 c19s))
      have c19b0 := eq_true c19
      have c19b1 : decide ((t226 ++ (⟨#[33, 61]⟩ : ByteArray)).size + t228.size ≤ 9223372036854775807) = true := decide_eq_true c19
      try have c19b2 : (9223372036854775807 < (t226 ++ (⟨#[33, 61]⟩ : ByteArray)).size + t228.size) = False := eq_false (Nat.not_lt.2 c19)
      obtain rfl := Option.some.inj H
      go_enter Tryz.func79, Tryz.ntmps79
      go_wp2_with (first | ((with_reducible refine gate_callee (f := 99) rfl ?_); refine goesL_ (some 6) rfl rfl Tryz.func99 (by kernel_rfl) rfl #[.int .i64 a0] rfl (by (try simp only [List.map_toArray, List.map_cons, List.map_nil]); first | done | rfl | (simp only [List.length_drop, List.length_take]; rfl)) ?_; (with_reducible refine (billetlaw04_Name.calls a0 t226 _ A2.out).mono ?_); rintro e w20 ⟨rfl, hb⟩; refine ⟨_, rfl, ?_⟩; have n0_ := Aside0.mk (below_step (by repeat (first | (with_reducible first | exact HB.out | apply below_alloc | apply pw_below_drewN | apply below_drew1) | exact HB.out)) hb); clear HB; have HB := n0_; clear n0_; (try clear hb); (try clear hb2); (try clear hk); (try clear hi); (try clear hge)) | ((with_reducible refine gate_callee (f := 100) rfl ?_); refine goesL_ (some 8) rfl rfl Tryz.func100 (by kernel_rfl) rfl #[.int .i64 a0, .int .i64 64] rfl (by (try simp only [List.map_toArray, List.map_cons, List.map_nil]); first | done | rfl | (simp only [List.length_drop, List.length_take]; rfl)) ?_; (with_reducible refine (billetlaw04_pick.calls a0 64 t227 _ A3.out).mono ?_); rintro e w' ⟨rfl, ⟨nd, rfl⟩⟩; refine ⟨_, rfl, ?_⟩) | ((with_reducible refine gate_callee (f := 99) rfl ?_); refine goesL_ (some 10) rfl rfl Tryz.func99 (by kernel_rfl) rfl #[.int .i64 (wrap64 (Int.tdiv t227 8))] rfl (by (try simp only [List.map_toArray, List.map_cons, List.map_nil]); first | done | rfl | (simp only [List.length_drop, List.length_take]; rfl)) ?_; (with_reducible refine (billetlaw04_Name.calls (wrap64 (Int.tdiv t227 8)) t228 _ A4.out).mono ?_); rintro e w21 ⟨rfl, hb⟩; refine ⟨_, rfl, ?_⟩; have n0_ := Aside0.mk (below_step (by repeat (first | (with_reducible first | exact HB.out | apply below_alloc | apply pw_below_drewN | apply below_drew1) | exact HB.out)) hb); clear HB; have HB := n0_; clear n0_; (try clear hb); (try clear hb2); (try clear hk); (try clear hi); (try clear hge)) | ((with_reducible refine gate_callee (f := 100) rfl ?_); refine goesL_ (some 12) rfl rfl Tryz.func100 (by kernel_rfl) rfl #[.int .i64 a0, .int .i64 256] rfl (by (try simp only [List.map_toArray, List.map_cons, List.map_nil]); first | done | rfl | (simp only [List.length_drop, List.length_take]; rfl)) ?_; (with_reducible refine (billetlaw04_pick.calls a0 256 t229 _ A5.out).mono ?_); rintro e w' ⟨rfl, ⟨nd, rfl⟩⟩; refine ⟨_, rfl, ?_⟩))
      go_ret
      exact ⟨by first | rfl | (simp [errW_none, errW_some] <;> rfl) | (simp [*, errW_none, errW_some] <;> rfl), by repeat (first | (with_reducible first | exact HB.out | apply below_alloc | apply pw_below_drewN | apply below_drew1) | exact HB.out)⟩
     ·rw [if_neg c19] at H
      exact absurd H (by simp)
    ·rw [if_neg c18] at H
     exact absurd H (by simp)

end Go.Proofs.YtldlkbjbfgieeaaGreatDoor.Q
