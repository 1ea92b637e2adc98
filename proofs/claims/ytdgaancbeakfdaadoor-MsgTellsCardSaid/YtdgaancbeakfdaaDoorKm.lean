/- A message as a value. -/
import Derived.Test.YtdgaancbeakfdaaDoorQx29
namespace Go.Proofs.YtdgaancbeakfdaaDoor.Q
open Go.RowKit Go.Proofs.YtdgaancbeakfdaaDoorW.PrintWords
structure S24 where
  f0 : Int
  f1 : Int
  f2 : Int
  f3 : Int
  f4 : Int
  f5 : Int
  f6 : List S42
def k24 : Kd S24 := Kd.iso (Kd.pair (Kd.int .i64) (Kd.pair (Kd.int .i64) (Kd.pair (Kd.int .i64) (Kd.pair (Kd.int .i64) (Kd.pair (Kd.int .i64) (Kd.pair (Kd.int .i64) (Kd.slice 42 k42))))))) (fun x : S24 => (x.f0, x.f1, x.f2, x.f3, x.f4, x.f5, x.f6))
theorem k24_open {w : World} {x : S24} {cs : List Value} (h : k24.K w x cs) : ∃ A c, cs = [.int .i64 x.f0, .int .i64 x.f1, .int .i64 x.f2, .int .i64 x.f3, .int .i64 x.f4, .int .i64 x.f5, .slice A x.f6.length c] ∧ x.f6.length ≤ c ∧ Kd.C k42 w A x.f6.length x.f6 := by
  obtain ⟨_, _, rfl, rfl, ⟨_, _, rfl, rfl, ⟨_, _, rfl, rfl, ⟨_, _, rfl, rfl, ⟨_, _, rfl, rfl, ⟨_, _, rfl, rfl, ⟨A, c, rfl, hc, hC⟩⟩⟩⟩⟩⟩⟩ := h
  exact ⟨A, c, rfl, hc, hC⟩
end Go.Proofs.YtdgaancbeakfdaaDoor.Q
