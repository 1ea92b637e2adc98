-- Written by a program of this session (mp.py).
import Derived.Test.YtpgifeoigconbaaDoorQx0
import Derived.Test.YtpgifeoigconbaaDoorQx39
namespace Go.Proofs.YtpgifeoigconbaaDoor.Q
open Go.RowKit Go.Proofs.YtpgifeoigconbaaDoorW.PrintWords Go.Proofs.YtpgifeoigconbaaDoorW.PrintLast Go.Proofs.YtpgifeoigconbaaDoor.Mo
attribute [local go_sem] max2_int min2_int max_two min_two max_three min_three max_four min_four   -- for this text's walks alone
open Go.Proofs.YtpgifeoigconbaaDoor.Gn
set_option linter.unusedVariables false
set_option linter.unusedSimpArgs false

/-! ### lease_Holds: function 26 -/
def lease_Holds.f (a0 : Int) (a1 : Int) : Option (Bool) := (lease_when.f a0).bind fun t134 => ((lease_when.f a1).bind fun t135 => (some (decide (t134 < t135))))
set_option maxHeartbeats 8000000 in
set_option maxRecDepth 100000 in
theorem lease_Holds.calls (a0 : Int) (a1 : Int) (r : Bool) (w : World) (h : lease_Holds.f a0 a1 = some r) :
    Calls Tryd.prog 26 #[.int .i64 a0, .int .i64 a1] w fun e w' => e = .returned (.bool r) ∧ Below w.heap.size w w' := by
  have HB := Aside0.mk (Below.refl w.heap.size w)
  have H : ((lease_when.f a0).bind fun t134 => ((lease_when.f a1).bind fun t135 => (some (decide (t134 < t135))))) = some r := h
  clear h
  replace H := Option.bind_eq_some_iff.mp H
  obtain ⟨t134, A30, H⟩ := H
  replace H : ((lease_when.f a1).bind fun t135 => (some (decide (t134 < t135)))) = some r := H
  have A3 := Aside0.mk A30
  clear A30
  replace H := Option.bind_eq_some_iff.mp H
  obtain ⟨t135, A40, H⟩ := H
  replace H : (some (decide (t134 < t135))) = some r := H
  have A4 := Aside0.mk A40
  clear A40
  obtain rfl := Option.some.inj H
  go_enter Tryd.func26, Tryd.ntmps26
  go_wp2_with (first | ((with_reducible refine gate_callee (f := 34) rfl ?_); refine goesL_ (some 6) rfl rfl Tryd.func34 (by kernel_rfl) rfl #[.int .i64 a0] rfl (by (try simp only [List.map_toArray, List.map_cons, List.map_nil]); first | done | rfl | (simp only [List.length_drop, List.length_take]; rfl)) ?_; (with_reducible refine (lease_when.calls a0 t134 _ A3.out).mono ?_); rintro e w5 ⟨rfl, hb⟩; refine ⟨_, rfl, ?_⟩; have n0_ := Aside0.mk (below_step (by repeat (first | (with_reducible first | exact HB.out | apply below_alloc | apply pw_below_drewN | apply below_drew1) | exact HB.out)) hb); clear HB; have HB := n0_; clear n0_; (try clear hb); (try clear hb2); (try clear hk); (try clear hi); (try clear hge)) | ((with_reducible refine gate_callee (f := 34) rfl ?_); refine goesL_ (some 8) rfl rfl Tryd.func34 (by kernel_rfl) rfl #[.int .i64 a1] rfl (by (try simp only [List.map_toArray, List.map_cons, List.map_nil]); first | done | rfl | (simp only [List.length_drop, List.length_take]; rfl)) ?_; (with_reducible refine (lease_when.calls a1 t135 _ A4.out).mono ?_); rintro e w6 ⟨rfl, hb⟩; refine ⟨_, rfl, ?_⟩; have n0_ := Aside0.mk (below_step (by repeat (first | (with_reducible first | exact HB.out | apply below_alloc | apply pw_below_drewN | apply below_drew1) | exact HB.out)) hb); clear HB; have HB := n0_; clear n0_; (try clear hb); (try clear hb2); (try clear hk); (try clear hi); (try clear hge)))
  go_ret
  exact ⟨by first | rfl | (simp [errW_none, errW_some] <;> rfl) | (simp [*, errW_none, errW_some] <;> rfl), by repeat (first | (with_reducible first | exact HB.out | apply below_alloc | apply pw_below_drewN | apply below_drew1) | exact HB.out)⟩

end Go.Proofs.YtpgifeoigconbaaDoor.Q
