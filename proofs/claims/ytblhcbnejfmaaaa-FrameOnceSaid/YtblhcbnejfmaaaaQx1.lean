-- Written by a program of this session (mp.py).
import Derived.Test.YtblhcbnejfmaaaaQx0
namespace Go.Proofs.Ytblhcbnejfmaaaa.Q
open Go.RowKit Go.Proofs.YtblhcbnejfmaaaaW.PrintWords Go.Proofs.YtblhcbnejfmaaaaW.PrintLast Go.Proofs.YtblhcbnejfmaaaaW.PrintMore
attribute [local go_sem] max2_int min2_int max_two min_two max_three min_three max_four min_four   -- for this text's walks alone
open Go.Proofs.Ytblhcbnejfmaaaa.Giv
set_option linter.unusedVariables false
set_option linter.unusedSimpArgs false

/-! ### adler_rest_uint32: function 46 -/
def adler_rest_uint32.f (a0 : Int) : Option (Int) := if (Int.tmod (wrap64 (a0)) 65521) < 0 then (some (wrap64 ((Int.tmod (wrap64 (a0)) 65521) + 65521))) else (some (Int.tmod (wrap64 (a0)) 65521))
set_option maxHeartbeats 8000000 in
set_option maxRecDepth 100000 in
theorem adler_rest_uint32.calls (a0 : Int) (r : Int) (w : World) (h : adler_rest_uint32.f a0 = some r) :
    Calls Try.prog 46 #[.int .u32 a0] w fun e w' => e = .returned (.int .i64 r) ∧ Drawn0 w w' := by
  have H : (if (Int.tmod (wrap64 (a0)) 65521) < 0 then (some (wrap64 ((Int.tmod (wrap64 (a0)) 65521) + 65521))) else (some (Int.tmod (wrap64 (a0)) 65521))) = some r := h
  clear h
  by_cases c2 : (Int.tmod (wrap64 (a0)) 65521) < 0
  · rw [if_pos c2] at H
    have c2b0 : decide ((Int.tmod (wrap64 (a0)) 65521) < 0) = true := decide_eq_true c2
    clear c2
    obtain rfl := Option.some.inj H
    go_enter Try.func46, Try.ntmps46
    go_wp2
    go_ret
    exact ⟨by first | rfl | (simp; done) | (simp [*]; done), by repeat (first | exact Drawn0.refl _ | apply Drawn0.step)⟩
  · rw [if_neg c2] at H
    have c2b0 : decide ((Int.tmod (wrap64 (a0)) 65521) < 0) = false := decide_eq_false c2
    clear c2
    obtain rfl := Option.some.inj H
    go_enter Try.func46, Try.ntmps46
    go_wp2
    go_ret
    exact ⟨by first | rfl | (simp; done) | (simp [*]; done), by repeat (first | exact Drawn0.refl _ | apply Drawn0.step)⟩

end Go.Proofs.Ytblhcbnejfmaaaa.Q
