-- Made by a program of this session (dedupe.py): the walk of a law whose text calls one function twice with the same arguments.
import Derived.Test.YtdcjakcbghokjaaPAdlerJoinsx0
import Derived.Test.YtdcjakcbghokjaaPAdlerJoinsx1
namespace Go.Proofs.Ytdcjakcbghokjaa.PAdlerJoins
open Go.RowKit Go.Proofs.YtdcjakcbghokjaaW.PrintWords Go.Proofs.YtdcjakcbghokjaaW.PrintLast Go.Proofs.YtdcjakcbghokjaaW.PrintMore
attribute [local go_sem] max2_int min2_int max_two min_two max_three min_three max_four min_four   -- for this text's walks alone
set_option linter.unusedVariables false
set_option linter.unusedSimpArgs false

/-! ### billetlaw02_AdlerJoins: function 8 -/
def billetlaw02_AdlerJoins.f (k : Nat) (a0 : ByteArray) (a1 : ByteArray) : Option (Bool) := (billetlaw02_awake.f k).bind fun t133 => (if a0.size + a1.size ≤ 9223372036854775807 then ((adler_Sum.f k (a0 ++ a1)).bind fun t134 => (if t133 = true then ((adler_Sum.f k a0).bind fun t135 => ((adler_Sum.f k a1).bind fun t136 => ((adler_Join.f t135 t136 (a1.size : Int)).bind fun t137 => (if t137 = t134 then ((adler_Sum.f k a0).bind fun t138 => ((adler_Add.f k t138 a1).bind fun t139 => (some (t139 == t134)))) else (some false))))) else (some false))) else (none))
theorem billetlaw02_AdlerJoins.mono : ∀ a0 a1 k, LeO (billetlaw02_AdlerJoins.f k a0 a1) (billetlaw02_AdlerJoins.f (k + 1) a0 a1) := by
  intro a0 a1 k
  unfold billetlaw02_AdlerJoins.f
  repeat' first
      | (with_reducible exact adler_Add.mono _ _ _)
      | (with_reducible exact adler_Sum.mono _ _)
      | (with_reducible exact billetlaw02_awake.mono _)
      | (with_reducible exact LeO.refl _)
      | (with_reducible exact LeO.none _)
      | (with_reducible refine LeO.ite ?_ ?_)
      | (with_reducible refine LeO.bind ?_ (fun _ => ?_))
      | exact adler_Add.mono _ _ _
      | exact adler_Sum.mono _ _
      | exact billetlaw02_awake.mono _
      | exact LeO.none _
      | refine LeO.ite ?_ ?_
      | refine LeO.bind ?_ (fun _ => ?_)
set_option maxHeartbeats 8000000 in
set_option maxRecDepth 100000 in
theorem billetlaw02_AdlerJoins.calls (k : Nat) (a0 : ByteArray) (a1 : ByteArray) (r : Bool) (w : World) (h : billetlaw02_AdlerJoins.f k a0 a1 = some r) :
    Calls Try.prog 8 #[.string a0, .string a1] w fun e w' => e = .returned (.bool r) ∧ Below w.heap.size w w' := by
  have HB := Aside0.mk (Below.refl w.heap.size w)
  have H : ((billetlaw02_awake.f k).bind fun t133 => (if a0.size + a1.size ≤ 9223372036854775807 then ((adler_Sum.f k (a0 ++ a1)).bind fun t134 => (if t133 = true then ((adler_Sum.f k a0).bind fun t135 => ((adler_Sum.f k a1).bind fun t136 => ((adler_Join.f t135 t136 (a1.size : Int)).bind fun t137 => (if t137 = t134 then ((adler_Sum.f k a0).bind fun t138 => ((adler_Add.f k t138 a1).bind fun t139 => (some (t139 == t134)))) else (some false))))) else (some false))) else (none))) = some r := h
  clear h
  replace H := Option.bind_eq_some_iff.mp H
  obtain ⟨t133, A30, H⟩ := H
  replace H : (if a0.size + a1.size ≤ 9223372036854775807 then ((adler_Sum.f k (a0 ++ a1)).bind fun t134 => (if t133 = true then ((adler_Sum.f k a0).bind fun t135 => ((adler_Sum.f k a1).bind fun t136 => ((adler_Join.f t135 t136 (a1.size : Int)).bind fun t137 => (if t137 = t134 then ((adler_Sum.f k a0).bind fun t138 => ((adler_Add.f k t138 a1).bind fun t139 => (some (t139 == t134)))) else (some false))))) else (some false))) else (none)) = some r := H
  have A3 := Aside0.mk A30
  clear A30
  by_cases c4 : a0.size + a1.size ≤ 9223372036854775807
  · rw [if_pos c4] at H
    have c4b0 := eq_true c4
    have c4b1 : decide (a0.size + a1.size ≤ 9223372036854775807) = true := decide_eq_true c4
    try have c4b2 : (9223372036854775807 < a0.size + a1.size) = False := eq_false (Nat.not_lt.2 c4)
    replace H := Option.bind_eq_some_iff.mp H
    obtain ⟨t134, A50, H⟩ := H
    replace H : (if t133 = true then ((adler_Sum.f k a0).bind fun t135 => ((adler_Sum.f k a1).bind fun t136 => ((adler_Join.f t135 t136 (a1.size : Int)).bind fun t137 => (if t137 = t134 then ((adler_Sum.f k a0).bind fun t138 => ((adler_Add.f k t138 a1).bind fun t139 => (some (t139 == t134)))) else (some false))))) else (some false)) = some r := H
    have A5 := Aside0.mk A50
    clear A50
    by_cases c6 : t133 = true
    · subst c6
      have H1 : ((adler_Sum.f k a0).bind fun t135 => ((adler_Sum.f k a1).bind fun t136 => ((adler_Join.f t135 t136 (a1.size : Int)).bind fun t137 => (if t137 = t134 then ((adler_Sum.f k a0).bind fun t138 => ((adler_Add.f k t138 a1).bind fun t139 => (some (t139 == t134)))) else (some false))))) = some r := by rw [if_pos rfl] at H; exact H
      clear H
      have H := H1
      clear H1
      replace H := Option.bind_eq_some_iff.mp H
      obtain ⟨t135, A70, H⟩ := H
      replace H : ((adler_Sum.f k a1).bind fun t136 => ((adler_Join.f t135 t136 (a1.size : Int)).bind fun t137 => (if t137 = t134 then ((adler_Sum.f k a0).bind fun t138 => ((adler_Add.f k t138 a1).bind fun t139 => (some (t139 == t134)))) else (some false)))) = some r := H
      have A7 := Aside0.mk A70
      clear A70
      replace H := Option.bind_eq_some_iff.mp H
      obtain ⟨t136, A80, H⟩ := H
      replace H : ((adler_Join.f t135 t136 (a1.size : Int)).bind fun t137 => (if t137 = t134 then ((adler_Sum.f k a0).bind fun t138 => ((adler_Add.f k t138 a1).bind fun t139 => (some (t139 == t134)))) else (some false))) = some r := H
      have A8 := Aside0.mk A80
      clear A80
      replace H := Option.bind_eq_some_iff.mp H
      obtain ⟨t137, A90, H⟩ := H
      replace H : (if t137 = t134 then ((adler_Sum.f k a0).bind fun t138 => ((adler_Add.f k t138 a1).bind fun t139 => (some (t139 == t134)))) else (some false)) = some r := H
      have A9 := Aside0.mk A90
      clear A90
      by_cases c10 : t137 = t134
      · rw [if_pos c10] at H
        have c10b0 : (t137 == t134) = true := beq_iff_eq.mpr c10
        have c10b1 : (t137 != t134) = false := bne_eq_false_iff_eq.mpr c10
        clear c10
        replace H := Option.bind_eq_some_iff.mp H
        obtain ⟨t138, A110, H⟩ := H
        replace H : ((adler_Add.f k t138 a1).bind fun t139 => (some (t139 == t134))) = some r := H
        have A11 := Aside0.mk A110
        clear A110
        replace H := Option.bind_eq_some_iff.mp H
        obtain ⟨t139, A120, H⟩ := H
        replace H : (some (t139 == t134)) = some r := H
        have A12 := Aside0.mk A120
        clear A120
        obtain rfl := Option.some.inj H
        obtain rfl : t135 = t138 := Option.some.inj (A7.out.symm.trans A11.out)
        go_enter Try.func8, Try.ntmps8
        go_wp2_with (first | ((with_reducible refine gate_callee (f := 10) rfl ?_); refine goesL_ (some 7) rfl rfl Try.func10 (by kernel_rfl) rfl #[] rfl (by (try simp only [List.map_toArray, List.map_cons, List.map_nil]); first | done | rfl | (simp only [List.length_drop, List.length_take]; rfl)) ?_; (with_reducible refine (billetlaw02_awake.calls k  true _ A3.out).mono ?_); rintro e w13 ⟨rfl, hb⟩; refine ⟨_, rfl, ?_⟩; have n0_ := Aside0.mk (below_step (by repeat (first | (with_reducible first | exact HB.out | apply below_alloc | apply pw_below_drewN | apply below_drew1) | exact HB.out)) hb); clear HB; have HB := n0_; clear n0_; (try clear hb); (try clear hb2); (try clear hk); (try clear hi)) | ((with_reducible refine gate_callee (f := 12) rfl ?_); refine goesL_ (some 11) rfl rfl Try.func12 (by kernel_rfl) rfl #[.string (a0 ++ a1)] rfl (by (try simp only [List.map_toArray, List.map_cons, List.map_nil]); first | done | rfl | (simp only [List.length_drop, List.length_take]; rfl)) ?_; (with_reducible refine (adler_Sum.calls k (a0 ++ a1) t134 _ A5.out).mono ?_); rintro e w14 ⟨rfl, hb⟩; refine ⟨_, rfl, ?_⟩; have n0_ := Aside0.mk (below_step (by repeat (first | (with_reducible first | exact HB.out | apply below_alloc | apply pw_below_drewN | apply below_drew1) | exact HB.out)) hb); clear HB; have HB := n0_; clear n0_; (try clear hb); (try clear hb2); (try clear hk); (try clear hi)) | (go_at_call 12; (with_reducible refine (adler_Sum.calls k a0 t135 _ A7.out).mono ?_); rintro e w15 ⟨rfl, hb⟩; have n0_ := Aside0.mk (below_step (by repeat (first | (with_reducible first | exact HB.out | apply below_alloc | apply pw_below_drewN | apply below_drew1) | exact HB.out)) hb); clear HB; have HB := n0_; clear n0_; (try clear hb); (try clear hb2); (try clear hk); (try clear hi)) | (go_at_call 12; (with_reducible refine (adler_Sum.calls k a1 t136 _ A8.out).mono ?_); rintro e w16 ⟨rfl, hb⟩; have n0_ := Aside0.mk (below_step (by repeat (first | (with_reducible first | exact HB.out | apply below_alloc | apply pw_below_drewN | apply below_drew1) | exact HB.out)) hb); clear HB; have HB := n0_; clear n0_; (try clear hb); (try clear hb2); (try clear hk); (try clear hi)) | (go_at_call 19; (with_reducible refine (adler_Join.calls t135 t136 (a1.size : Int) t137 _ A9.out).mono ?_); rintro e w17 ⟨rfl, hb⟩; have n0_ := Aside0.mk (below_step (by repeat (first | (with_reducible first | exact HB.out | apply below_alloc | apply pw_below_drewN | apply below_drew1) | exact HB.out)) hb); clear HB; have HB := n0_; clear n0_; (try clear hb); (try clear hb2); (try clear hk); (try clear hi)) | (go_at_call 12; (with_reducible refine (adler_Sum.calls k a0 t135 _ A11.out).mono ?_); rintro e w18 ⟨rfl, hb⟩; have n0_ := Aside0.mk (below_step (by repeat (first | (with_reducible first | exact HB.out | apply below_alloc | apply pw_below_drewN | apply below_drew1) | exact HB.out)) hb); clear HB; have HB := n0_; clear n0_; (try clear hb); (try clear hb2); (try clear hk); (try clear hi)) | (go_at_call 17; (with_reducible refine (adler_Add.calls k t135 a1 t139 _ A12.out).mono ?_); rintro e w19 ⟨rfl, hb⟩; have n0_ := Aside0.mk (below_step (by repeat (first | (with_reducible first | exact HB.out | apply below_alloc | apply pw_below_drewN | apply below_drew1) | exact HB.out)) hb); clear HB; have HB := n0_; clear n0_; (try clear hb); (try clear hb2); (try clear hk); (try clear hi)))
        go_ret
        exact ⟨by first | rfl | (simp [errW_none, errW_some] <;> rfl) | (simp [*, errW_none, errW_some] <;> rfl), by repeat (first | (with_reducible first | exact HB.out | apply below_alloc | apply pw_below_drewN | apply below_drew1) | exact HB.out)⟩
      · rw [if_neg c10] at H
        have c10b0 : (t137 == t134) = false := beq_eq_false_iff_ne.mpr c10
        have c10b1 : (t137 != t134) = true := bne_iff_ne.mpr c10
        obtain rfl := Option.some.inj H
        go_enter Try.func8, Try.ntmps8
        go_wp2_with (first | ((with_reducible refine gate_callee (f := 10) rfl ?_); refine goesL_ (some 7) rfl rfl Try.func10 (by kernel_rfl) rfl #[] rfl (by (try simp only [List.map_toArray, List.map_cons, List.map_nil]); first | done | rfl | (simp only [List.length_drop, List.length_take]; rfl)) ?_; (with_reducible refine (billetlaw02_awake.calls k  true _ A3.out).mono ?_); rintro e w20 ⟨rfl, hb⟩; refine ⟨_, rfl, ?_⟩; have n0_ := Aside0.mk (below_step (by repeat (first | (with_reducible first | exact HB.out | apply below_alloc | apply pw_below_drewN | apply below_drew1) | exact HB.out)) hb); clear HB; have HB := n0_; clear n0_; (try clear hb); (try clear hb2); (try clear hk); (try clear hi)) | ((with_reducible refine gate_callee (f := 12) rfl ?_); refine goesL_ (some 11) rfl rfl Try.func12 (by kernel_rfl) rfl #[.string (a0 ++ a1)] rfl (by (try simp only [List.map_toArray, List.map_cons, List.map_nil]); first | done | rfl | (simp only [List.length_drop, List.length_take]; rfl)) ?_; (with_reducible refine (adler_Sum.calls k (a0 ++ a1) t134 _ A5.out).mono ?_); rintro e w21 ⟨rfl, hb⟩; refine ⟨_, rfl, ?_⟩; have n0_ := Aside0.mk (below_step (by repeat (first | (with_reducible first | exact HB.out | apply below_alloc | apply pw_below_drewN | apply below_drew1) | exact HB.out)) hb); clear HB; have HB := n0_; clear n0_; (try clear hb); (try clear hb2); (try clear hk); (try clear hi)) | (go_at_call 12; (with_reducible refine (adler_Sum.calls k a0 t135 _ A7.out).mono ?_); rintro e w22 ⟨rfl, hb⟩; have n0_ := Aside0.mk (below_step (by repeat (first | (with_reducible first | exact HB.out | apply below_alloc | apply pw_below_drewN | apply below_drew1) | exact HB.out)) hb); clear HB; have HB := n0_; clear n0_; (try clear hb); (try clear hb2); (try clear hk); (try clear hi)) | (go_at_call 12; (with_reducible refine (adler_Sum.calls k a1 t136 _ A8.out).mono ?_); rintro e w23 ⟨rfl, hb⟩; have n0_ := Aside0.mk (below_step (by repeat (first | (with_reducible first | exact HB.out | apply below_alloc | apply pw_below_drewN | apply below_drew1) | exact HB.out)) hb); clear HB; have HB := n0_; clear n0_; (try clear hb); (try clear hb2); (try clear hk); (try clear hi)) | (go_at_call 19; (with_reducible refine (adler_Join.calls t135 t136 (a1.size : Int) t137 _ A9.out).mono ?_); rintro e w24 ⟨rfl, hb⟩; have n0_ := Aside0.mk (below_step (by repeat (first | (with_reducible first | exact HB.out | apply below_alloc | apply pw_below_drewN | apply below_drew1) | exact HB.out)) hb); clear HB; have HB := n0_; clear n0_; (try clear hb); (try clear hb2); (try clear hk); (try clear hi)))
        go_ret
        exact ⟨by first | rfl | (simp [errW_none, errW_some] <;> rfl) | (simp [*, errW_none, errW_some] <;> rfl), by repeat (first | (with_reducible first | exact HB.out | apply below_alloc | apply pw_below_drewN | apply below_drew1) | exact HB.out)⟩
    · replace c6 := Bool.eq_false_iff.mpr c6
      subst c6
      have H1 : (some false) = some r := by rw [if_neg (show ¬ (false = true) by decide)] at H; exact H
      clear H
      have H := H1
      clear H1
      obtain rfl := Option.some.inj H
      go_enter Try.func8, Try.ntmps8
      go_wp2_with (first | ((with_reducible refine gate_callee (f := 10) rfl ?_); refine goesL_ (some 7) rfl rfl Try.func10 (by kernel_rfl) rfl #[] rfl (by (try simp only [List.map_toArray, List.map_cons, List.map_nil]); first | done | rfl | (simp only [List.length_drop, List.length_take]; rfl)) ?_; (with_reducible refine (billetlaw02_awake.calls k  false _ A3.out).mono ?_); rintro e w25 ⟨rfl, hb⟩; refine ⟨_, rfl, ?_⟩; have n0_ := Aside0.mk (below_step (by repeat (first | (with_reducible first | exact HB.out | apply below_alloc | apply pw_below_drewN | apply below_drew1) | exact HB.out)) hb); clear HB; have HB := n0_; clear n0_; (try clear hb); (try clear hb2); (try clear hk); (try clear hi)) | ((with_reducible refine gate_callee (f := 12) rfl ?_); refine goesL_ (some 11) rfl rfl Try.func12 (by kernel_rfl) rfl #[.string (a0 ++ a1)] rfl (by (try simp only [List.map_toArray, List.map_cons, List.map_nil]); first | done | rfl | (simp only [List.length_drop, List.length_take]; rfl)) ?_; (with_reducible refine (adler_Sum.calls k (a0 ++ a1) t134 _ A5.out).mono ?_); rintro e w26 ⟨rfl, hb⟩; refine ⟨_, rfl, ?_⟩; have n0_ := Aside0.mk (below_step (by repeat (first | (with_reducible first | exact HB.out | apply below_alloc | apply pw_below_drewN | apply below_drew1) | exact HB.out)) hb); clear HB; have HB := n0_; clear n0_; (try clear hb); (try clear hb2); (try clear hk); (try clear hi)))
      go_ret
      exact ⟨by first | rfl | (simp [errW_none, errW_some] <;> rfl) | (simp [*, errW_none, errW_some] <;> rfl), by repeat (first | (with_reducible first | exact HB.out | apply below_alloc | apply pw_below_drewN | apply below_drew1) | exact HB.out)⟩
  · rw [if_neg c4] at H
    exact absurd H (by simp)

/-- THE ONE PURE STATEMENT of billetlaw02_AdlerJoins: yours. -/
def billetlaw02_AdlerJoins.Pure : Prop := ∀ (a0 : ByteArray) (a1 : ByteArray), a0.size ≤ 140737488351232 → a1.size ≤ 140737488351232 → ∃ k, billetlaw02_AdlerJoins.f k a0 a1 = some true
theorem billetlaw02_AdlerJoins.walk (P : billetlaw02_AdlerJoins.Pure) (a0 : ByteArray) (a1 : ByteArray) (w : World) (w0 : a0.size ≤ 140737488351232) (w1 : a1.size ≤ 140737488351232) :
    Calls Try.prog 8 #[.string a0, .string a1] w fun e w' => e = .returned (.bool true) ∧ Below w.heap.size w w' := by
  obtain ⟨k, h⟩ := P a0 a1 w0 w1
  refine (billetlaw02_AdlerJoins.calls k a0 a1 true w h).mono ?_
  rintro e w' ⟨rfl, hd⟩
  exact ⟨rfl, hd⟩

end Go.Proofs.Ytdcjakcbghokjaa.PAdlerJoins
