-- Written by a program of this session (mp.py).
import Derived.Test.YtblhcbnejfmaaaaQx0
namespace Go.Proofs.Ytblhcbnejfmaaaa.Q
open Go.RowKit Go.Proofs.YtblhcbnejfmaaaaW.PrintWords Go.Proofs.YtblhcbnejfmaaaaW.PrintLast Go.Proofs.YtblhcbnejfmaaaaW.PrintMore
attribute [local go_sem] max2_int min2_int max_two min_two max_three min_three max_four min_four   -- for this text's walks alone
open Go.Proofs.Ytblhcbnejfmaaaa.Giv
set_option linter.unusedVariables false
set_option linter.unusedSimpArgs false

/-! ### billetref02_made: function 41 -/
def billetref02_made.f (a0 : Int) (a1 : Int) : Option (Int) := some ((wrap64 ((wrap64 (65536 * (Int.tmod (wrap64 ((Int.tmod a1 65521) + 65521)) 65521))) + (Int.tmod (wrap64 ((Int.tmod a0 65521) + 65521)) 65521))) % 4294967296)
set_option maxHeartbeats 8000000 in
set_option maxRecDepth 100000 in
theorem billetref02_made.calls (a0 : Int) (a1 : Int) (r : Int) (w : World) (h : billetref02_made.f a0 a1 = some r) :
    Calls Try.prog 41 #[.int .i64 a0, .int .i64 a1] w fun e w' => e = .returned (.int .u32 r) ∧ Drawn0 w w' := by
  have H : (some ((wrap64 ((wrap64 (65536 * (Int.tmod (wrap64 ((Int.tmod a1 65521) + 65521)) 65521))) + (Int.tmod (wrap64 ((Int.tmod a0 65521) + 65521)) 65521))) % 4294967296)) = some r := h
  clear h
  obtain rfl := Option.some.inj H
  go_enter Try.func41, Try.ntmps41
  go_wp2
  go_ret
  exact ⟨by first | rfl | (simp; done) | (simp [*]; done), by repeat (first | exact Drawn0.refl _ | apply Drawn0.step)⟩

end Go.Proofs.Ytblhcbnejfmaaaa.Q
