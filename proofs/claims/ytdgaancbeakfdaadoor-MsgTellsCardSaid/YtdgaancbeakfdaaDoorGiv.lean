/- varint.Num in the print's own form. -/
import Derived.Test.YtdgaancbeakfdaaDoorNum
namespace Go.Proofs.YtdgaancbeakfdaaDoor.Giv
open Go.RowKit Go.Proofs.YtdgaancbeakfdaaDoor.Num
def varint_Num.f (a0 : Int) : Option (ByteArray) := if -9223372036854775808 ≤ a0 ∧ a0 ≤ 9223372036854775807 then some (num a0) else none
theorem varint_Num.calls (a0 : Int) (r : ByteArray) (w : World) (h : varint_Num.f a0 = some r) :
    Calls Tryd.prog 44 #[.int .i64 a0] w fun e w' => e = .returned (.string r) ∧ Below w.heap.size w w' := by
  unfold varint_Num.f at h
  split at h
  · rename_i hb
    obtain rfl := Option.some.inj h
    exact num_calls a0 w hb.1 hb.2
  · cases h
end Go.Proofs.YtdgaancbeakfdaaDoor.Giv
