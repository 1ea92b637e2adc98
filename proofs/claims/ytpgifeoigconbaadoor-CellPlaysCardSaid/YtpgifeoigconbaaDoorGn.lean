/- label.IsName in the print's own form. -/
import Derived.Test.YtpgifeoigconbaaDoorNm
namespace Go.Proofs.YtpgifeoigconbaaDoor.Gn
open Go.RowKit Go.Proofs.YtpgifeoigconbaaDoor.Nm
def label_IsName.f (a0 : ByteArray) : Option (Bool) := some (nm a0)
theorem label_IsName.calls (a0 : ByteArray) (r : Bool) (w : World) (h : label_IsName.f a0 = some r) :
    Calls Tryd.prog 29 #[.string a0] w fun e w' => e = .returned (.bool r) ∧ Below w.heap.size w w' := by
  obtain rfl := Option.some.inj h
  exact name_any a0 w
end Go.Proofs.YtpgifeoigconbaaDoor.Gn
