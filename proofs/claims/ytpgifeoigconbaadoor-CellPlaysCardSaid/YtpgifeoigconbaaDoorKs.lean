/- Words: those of the print's words (print.sh) that this seat's proofs use. -/
import Derived.SizedLaws
import Derived.ChangeSlices
namespace Go.Proofs.YtpgifeoigconbaaDoorW.PrintWords
open Go.ChangeShapes Go.WideShapes
end Go.Proofs.YtpgifeoigconbaaDoorW.PrintWords
