-- Written by a program of this session (mp.py).
import Derived.Test.YtblhcbnejfmaaaaQx0
namespace Go.Proofs.Ytblhcbnejfmaaaa.Q
open Go.RowKit Go.Proofs.YtblhcbnejfmaaaaW.PrintWords Go.Proofs.YtblhcbnejfmaaaaW.PrintLast Go.Proofs.YtblhcbnejfmaaaaW.PrintMore
attribute [local go_sem] max2_int min2_int max_two min_two max_three min_three max_four min_four   -- for this text's walks alone
open Go.Proofs.Ytblhcbnejfmaaaa.Giv
set_option linter.unusedVariables false
set_option linter.unusedSimpArgs false

/-! ### billetref02_halves: function 40 -/
def billetref02_halves.f (a0 : Int) : Option (Int × Int) := some (Int.tmod (Int.tmod (wrap64 (a0)) 65536) 65521, Int.tmod (wrap64 (Int.tdiv (wrap64 (a0)) 65536)) 65521)
set_option maxHeartbeats 8000000 in
set_option maxRecDepth 100000 in
theorem billetref02_halves.calls (a0 : Int) (r1 : Int) (r2 : Int) (w : World) (h : billetref02_halves.f a0 = some (r1, r2)) :
    Calls Try.prog 40 #[.int .u32 a0] w fun e w' => e = .returned (.tuple #[.int .i64 r1, .int .i64 r2]) ∧ Drawn0 w w' := by
  have H : (some (Int.tmod (Int.tmod (wrap64 (a0)) 65536) 65521, Int.tmod (wrap64 (Int.tdiv (wrap64 (a0)) 65536)) 65521)) = some (r1, r2) := h
  clear h
  simp only [Option.some.injEq, Prod.mk.injEq] at H
  obtain ⟨rfl, rfl⟩ := H
  go_enter Try.func40, Try.ntmps40
  go_wp2
  go_ret2
  exact ⟨by first | rfl | (simp; done) | (simp [*]; done), by repeat (first | exact Drawn0.refl _ | apply Drawn0.step)⟩

end Go.Proofs.Ytblhcbnejfmaaaa.Q
