-- Written by a program of this session (mp.py).
import Derived.Test.YtblhcbnejfmaaaaQx0
import Derived.Test.YtblhcbnejfmaaaaQx24
namespace Go.Proofs.Ytblhcbnejfmaaaa.Q
open Go.RowKit Go.Proofs.YtblhcbnejfmaaaaW.PrintWords Go.Proofs.YtblhcbnejfmaaaaW.PrintLast Go.Proofs.YtblhcbnejfmaaaaW.PrintMore
attribute [local go_sem] max2_int min2_int max_two min_two max_three min_three max_four min_four   -- for this text's walks alone
open Go.Proofs.Ytblhcbnejfmaaaa.Giv
set_option linter.unusedVariables false
set_option linter.unusedSimpArgs false

/-! ### billetref02_Sum: function 27 -/
def billetref02_Sum.f (k : Nat) (a0 : ByteArray) : Option (Int) := (billetref02_Add.f k 1 a0).bind fun t185 => (some t185)
theorem billetref02_Sum.mono : ∀ a0 k, LeO (billetref02_Sum.f k a0) (billetref02_Sum.f (k + 1) a0) := by
  intro a0 k
  unfold billetref02_Sum.f
  repeat' first
      | (with_reducible exact billetref02_Add.mono _ _ _)
      | (with_reducible exact LeO.refl _)
      | (with_reducible exact LeO.none _)
      | (with_reducible refine LeO.ite ?_ ?_)
      | (with_reducible refine LeO.bind ?_ (fun _ => ?_))
      | exact billetref02_Add.mono _ _ _
      | exact LeO.none _
      | refine LeO.ite ?_ ?_
      | refine LeO.bind ?_ (fun _ => ?_)
set_option maxHeartbeats 8000000 in
set_option maxRecDepth 100000 in
theorem billetref02_Sum.calls (k : Nat) (a0 : ByteArray) (r : Int) (w : World) (h : billetref02_Sum.f k a0 = some r) :
    Calls Try.prog 27 #[.string a0] w fun e w' => e = .returned (.int .u32 r) ∧ Drawn0 w w' := by
  have H : ((billetref02_Add.f k 1 a0).bind fun t185 => (some t185)) = some r := h
  clear h
  replace H := Option.bind_eq_some_iff.mp H
  obtain ⟨t185, A20, H⟩ := H
  replace H : (some t185) = some r := H
  have A2 := Aside0.mk A20
  clear A20
  obtain rfl := Option.some.inj H
  go_enter Try.func27, Try.ntmps27
  go_wp2_with (first | ((with_reducible refine gate_callee (f := 36) rfl ?_); refine goesL_ (some 4) rfl rfl Try.func36 (by kernel_rfl) rfl #[.int .u32 1, .string a0] rfl (by (try simp only [List.map_toArray, List.map_cons, List.map_nil]); first | done | rfl | (simp only [List.length_drop, List.length_take]; rfl)) ?_; (with_reducible refine (billetref02_Add.calls k 1 a0 t185 _ A2.out).mono ?_); rintro e w' ⟨rfl, ⟨nd, rfl⟩⟩; refine ⟨_, rfl, ?_⟩))
  go_ret
  exact ⟨by first | rfl | (simp; done) | (simp [*]; done), by repeat (first | exact Drawn0.refl _ | apply Drawn0.step)⟩

end Go.Proofs.Ytblhcbnejfmaaaa.Q
