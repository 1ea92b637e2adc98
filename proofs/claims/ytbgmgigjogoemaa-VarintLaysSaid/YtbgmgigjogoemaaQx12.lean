-- Written by a program of this session (mp.py).
import Derived.Test.YtbgmgigjogoemaaQx0
import Derived.Test.YtbgmgigjogoemaaQx3
import Derived.Test.YtbgmgigjogoemaaQx9
import Derived.Test.YtbgmgigjogoemaaQx10
import Derived.Test.YtbgmgigjogoemaaQx11
namespace Go.Proofs.Ytbgmgigjogoemaa.Q
open Go.RowKit Go.Proofs.YtbgmgigjogoemaaW.PrintWords Go.Proofs.YtbgmgigjogoemaaW.PrintLast Go.Proofs.YtbgmgigjogoemaaW.PrintMore
attribute [local go_sem] max2_int min2_int max_two min_two max_three min_three max_four min_four   -- for this text's walks alone
open Go.Proofs.Ytbgmgigjogoemaa.Giv
set_option linter.unusedVariables false
set_option linter.unusedSimpArgs false

/-! ### billetlaw01_VarintLays: function 3 -/
def billetlaw01_VarintLays.f (k : Nat) (a0 : Int) (a1 : ByteArray) : Option (Bool) := (billetlaw01_awake.f k).bind fun t139 => (if t139 = true then ((varint_Num.f a0).bind fun t140 => ((billetref01_Num.f k a0).bind fun t141 => (if t140.toList = t141.toList then ((varint_Text.f a1).bind fun t142 => ((billetref01_Text.f k a1).bind fun t143 => (some (t142.toList == t143.toList)))) else (some false)))) else (some false))
theorem billetlaw01_VarintLays.mono : ∀ a0 a1 k, LeO (billetlaw01_VarintLays.f k a0 a1) (billetlaw01_VarintLays.f (k + 1) a0 a1) := by
  intro a0 a1 k
  unfold billetlaw01_VarintLays.f
  repeat' first
      | (with_reducible exact billetlaw01_awake.mono _)
      | (with_reducible exact billetref01_Num.mono _ _)
      | (with_reducible exact billetref01_Text.mono _ _)
      | (with_reducible exact LeO.refl _)
      | (with_reducible exact LeO.none _)
      | (with_reducible refine LeO.ite ?_ ?_)
      | (with_reducible refine LeO.bind ?_ (fun _ => ?_))
      | exact billetlaw01_awake.mono _
      | exact billetref01_Num.mono _ _
      | exact billetref01_Text.mono _ _
      | exact LeO.none _
      | refine LeO.ite ?_ ?_
      | refine LeO.bind ?_ (fun _ => ?_)
set_option maxHeartbeats 8000000 in
set_option maxRecDepth 100000 in
theorem billetlaw01_VarintLays.calls (k : Nat) (a0 : Int) (a1 : ByteArray) (r : Bool) (w : World) (h : billetlaw01_VarintLays.f k a0 a1 = some r) :
    Calls Try.prog 3 #[.int .i64 a0, .string a1] w fun e w' => e = .returned (.bool r) ∧ Below w.heap.size w w' := by
  have HB := Aside0.mk (Below.refl w.heap.size w)
  have H : ((billetlaw01_awake.f k).bind fun t139 => (if t139 = true then ((varint_Num.f a0).bind fun t140 => ((billetref01_Num.f k a0).bind fun t141 => (if t140.toList = t141.toList then ((varint_Text.f a1).bind fun t142 => ((billetref01_Text.f k a1).bind fun t143 => (some (t142.toList == t143.toList)))) else (some false)))) else (some false))) = some r := h
  clear h
  replace H := Option.bind_eq_some_iff.mp H
  obtain ⟨t139, A30, H⟩ := H
  replace H : (if t139 = true then ((varint_Num.f a0).bind fun t140 => ((billetref01_Num.f k a0).bind fun t141 => (if t140.toList = t141.toList then ((varint_Text.f a1).bind fun t142 => ((billetref01_Text.f k a1).bind fun t143 => (some (t142.toList == t143.toList)))) else (some false)))) else (some false)) = some r := H
  have A3 := Aside0.mk A30
  clear A30
  by_cases c4 : t139 = true
  · subst c4
    have H1 : ((varint_Num.f a0).bind fun t140 => ((billetref01_Num.f k a0).bind fun t141 => (if t140.toList = t141.toList then ((varint_Text.f a1).bind fun t142 => ((billetref01_Text.f k a1).bind fun t143 => (some (t142.toList == t143.toList)))) else (some false)))) = some r := by rw [if_pos rfl] at H; exact H
    clear H
    have H := H1
    clear H1
    replace H := Option.bind_eq_some_iff.mp H
    obtain ⟨t140, A50, H⟩ := H
    replace H : ((billetref01_Num.f k a0).bind fun t141 => (if t140.toList = t141.toList then ((varint_Text.f a1).bind fun t142 => ((billetref01_Text.f k a1).bind fun t143 => (some (t142.toList == t143.toList)))) else (some false))) = some r := H
    have A5 := Aside0.mk A50
    clear A50
    replace H := Option.bind_eq_some_iff.mp H
    obtain ⟨t141, A60, H⟩ := H
    replace H : (if t140.toList = t141.toList then ((varint_Text.f a1).bind fun t142 => ((billetref01_Text.f k a1).bind fun t143 => (some (t142.toList == t143.toList)))) else (some false)) = some r := H
    have A6 := Aside0.mk A60
    clear A60
    by_cases c7 : t140.toList = t141.toList
    · rw [if_pos c7] at H
      have c7b0 : (t140.toList == t141.toList) = true := beq_iff_eq.mpr c7
      have c7b1 : (t140.toList != t141.toList) = false := bne_eq_false_iff_eq.mpr c7
      clear c7
      replace H := Option.bind_eq_some_iff.mp H
      obtain ⟨t142, A80, H⟩ := H
      replace H : ((billetref01_Text.f k a1).bind fun t143 => (some (t142.toList == t143.toList))) = some r := H
      have A8 := Aside0.mk A80
      clear A80
      replace H := Option.bind_eq_some_iff.mp H
      obtain ⟨t143, A90, H⟩ := H
      replace H : (some (t142.toList == t143.toList)) = some r := H
      have A9 := Aside0.mk A90
      clear A90
      obtain rfl := Option.some.inj H
      go_enter Try.func3, Try.ntmps3
      go_wp2_with (first | ((with_reducible refine gate_callee (f := 13) rfl ?_); refine goesL_ (some 6) rfl rfl Try.func13 (by kernel_rfl) rfl #[] rfl (by (try simp only [List.map_toArray, List.map_cons, List.map_nil]); first | done | rfl | (simp only [List.length_drop, List.length_take]; rfl)) ?_; (with_reducible refine (billetlaw01_awake.calls k  true _ A3.out).mono ?_); rintro e w10 ⟨rfl, hb⟩; refine ⟨_, rfl, ?_⟩; have n0_ := Aside0.mk (below_step (by repeat (first | (with_reducible first | exact HB.out | apply below_alloc | apply pw_below_drewN | apply below_drew1) | exact HB.out)) hb); clear HB; have HB := n0_; clear n0_; (try clear hb); (try clear hb2); (try clear hk); (try clear hi)) | (go_at_call 14; (with_reducible refine (varint_Num.calls a0 t140 _ A5.out).mono ?_); rintro e w11 ⟨rfl, hb⟩; have n0_ := Aside0.mk (below_step (by repeat (first | (with_reducible first | exact HB.out | apply below_alloc | apply pw_below_drewN | apply below_drew1) | exact HB.out)) hb); clear HB; have HB := n0_; clear n0_; (try clear hb); (try clear hb2); (try clear hk); (try clear hi)) | (go_at_call 15; (with_reducible refine (billetref01_Num.calls k a0 t141 _ A6.out).mono ?_); rintro e w12 ⟨rfl, hb⟩; have n0_ := Aside0.mk (below_step (by repeat (first | (with_reducible first | exact HB.out | apply below_alloc | apply pw_below_drewN | apply below_drew1) | exact HB.out)) hb); clear HB; have HB := n0_; clear n0_; (try clear hb); (try clear hb2); (try clear hk); (try clear hi)) | (go_at_call 16; (with_reducible refine (varint_Text.calls a1 t142 _ A8.out).mono ?_); rintro e w13 ⟨rfl, hb⟩; have n0_ := Aside0.mk (below_step (by repeat (first | (with_reducible first | exact HB.out | apply below_alloc | apply pw_below_drewN | apply below_drew1) | exact HB.out)) hb); clear HB; have HB := n0_; clear n0_; (try clear hb); (try clear hb2); (try clear hk); (try clear hi)) | (go_at_call 17; (with_reducible refine (billetref01_Text.calls k a1 t143 _ A9.out).mono ?_); rintro e w14 ⟨rfl, hb⟩; have n0_ := Aside0.mk (below_step (by repeat (first | (with_reducible first | exact HB.out | apply below_alloc | apply pw_below_drewN | apply below_drew1) | exact HB.out)) hb); clear HB; have HB := n0_; clear n0_; (try clear hb); (try clear hb2); (try clear hk); (try clear hi)))
      go_ret
      exact ⟨by first | rfl | (simp [errW_none, errW_some] <;> rfl) | (simp [*, errW_none, errW_some] <;> rfl), by repeat (first | (with_reducible first | exact HB.out | apply below_alloc | apply pw_below_drewN | apply below_drew1) | exact HB.out)⟩
    · rw [if_neg c7] at H
      have c7b0 : (t140.toList == t141.toList) = false := beq_eq_false_iff_ne.mpr c7
      have c7b1 : (t140.toList != t141.toList) = true := bne_iff_ne.mpr c7
      obtain rfl := Option.some.inj H
      go_enter Try.func3, Try.ntmps3
      go_wp2_with (first | ((with_reducible refine gate_callee (f := 13) rfl ?_); refine goesL_ (some 6) rfl rfl Try.func13 (by kernel_rfl) rfl #[] rfl (by (try simp only [List.map_toArray, List.map_cons, List.map_nil]); first | done | rfl | (simp only [List.length_drop, List.length_take]; rfl)) ?_; (with_reducible refine (billetlaw01_awake.calls k  true _ A3.out).mono ?_); rintro e w15 ⟨rfl, hb⟩; refine ⟨_, rfl, ?_⟩; have n0_ := Aside0.mk (below_step (by repeat (first | (with_reducible first | exact HB.out | apply below_alloc | apply pw_below_drewN | apply below_drew1) | exact HB.out)) hb); clear HB; have HB := n0_; clear n0_; (try clear hb); (try clear hb2); (try clear hk); (try clear hi)) | (go_at_call 14; (with_reducible refine (varint_Num.calls a0 t140 _ A5.out).mono ?_); rintro e w16 ⟨rfl, hb⟩; have n0_ := Aside0.mk (below_step (by repeat (first | (with_reducible first | exact HB.out | apply below_alloc | apply pw_below_drewN | apply below_drew1) | exact HB.out)) hb); clear HB; have HB := n0_; clear n0_; (try clear hb); (try clear hb2); (try clear hk); (try clear hi)) | (go_at_call 15; (with_reducible refine (billetref01_Num.calls k a0 t141 _ A6.out).mono ?_); rintro e w17 ⟨rfl, hb⟩; have n0_ := Aside0.mk (below_step (by repeat (first | (with_reducible first | exact HB.out | apply below_alloc | apply pw_below_drewN | apply below_drew1) | exact HB.out)) hb); clear HB; have HB := n0_; clear n0_; (try clear hb); (try clear hb2); (try clear hk); (try clear hi)))
      go_ret
      exact ⟨by first | rfl | (simp [errW_none, errW_some] <;> rfl) | (simp [*, errW_none, errW_some] <;> rfl), by repeat (first | (with_reducible first | exact HB.out | apply below_alloc | apply pw_below_drewN | apply below_drew1) | exact HB.out)⟩
  · replace c4 := Bool.eq_false_iff.mpr c4
    subst c4
    have H1 : (some false) = some r := by rw [if_neg (show ¬ (false = true) by decide)] at H; exact H
    clear H
    have H := H1
    clear H1
    obtain rfl := Option.some.inj H
    go_enter Try.func3, Try.ntmps3
    go_wp2_with (first | ((with_reducible refine gate_callee (f := 13) rfl ?_); refine goesL_ (some 6) rfl rfl Try.func13 (by kernel_rfl) rfl #[] rfl (by (try simp only [List.map_toArray, List.map_cons, List.map_nil]); first | done | rfl | (simp only [List.length_drop, List.length_take]; rfl)) ?_; (with_reducible refine (billetlaw01_awake.calls k  false _ A3.out).mono ?_); rintro e w18 ⟨rfl, hb⟩; refine ⟨_, rfl, ?_⟩; have n0_ := Aside0.mk (below_step (by repeat (first | (with_reducible first | exact HB.out | apply below_alloc | apply pw_below_drewN | apply below_drew1) | exact HB.out)) hb); clear HB; have HB := n0_; clear n0_; (try clear hb); (try clear hb2); (try clear hk); (try clear hi)))
    go_ret
    exact ⟨by first | rfl | (simp [errW_none, errW_some] <;> rfl) | (simp [*, errW_none, errW_some] <;> rfl), by repeat (first | (with_reducible first | exact HB.out | apply below_alloc | apply pw_below_drewN | apply below_drew1) | exact HB.out)⟩

/-- THE ONE PURE STATEMENT of billetlaw01_VarintLays: yours. -/
def billetlaw01_VarintLays.Pure : Prop := ∀ (a0 : Int) (a1 : ByteArray), (Lit.int .i64 a0).wf = true → a1.size ≤ 140737488351232 → ∃ k, billetlaw01_VarintLays.f k a0 a1 = some true
theorem billetlaw01_VarintLays.walk (P : billetlaw01_VarintLays.Pure) (a0 : Int) (a1 : ByteArray) (w : World) (w0 : (Lit.int .i64 a0).wf = true) (w1 : a1.size ≤ 140737488351232) :
    Calls Try.prog 3 #[.int .i64 a0, .string a1] w fun e w' => e = .returned (.bool true) ∧ Below w.heap.size w w' := by
  obtain ⟨k, h⟩ := P a0 a1 w0 w1
  refine (billetlaw01_VarintLays.calls k a0 a1 true w h).mono ?_
  rintro e w' ⟨rfl, hd⟩
  exact ⟨rfl, hd⟩

end Go.Proofs.Ytbgmgigjogoemaa.Q
