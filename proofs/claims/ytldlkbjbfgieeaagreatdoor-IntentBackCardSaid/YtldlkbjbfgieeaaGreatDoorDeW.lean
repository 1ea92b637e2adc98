/- slices.Delete of one work: a row of the call's own. -/
/- thin -/
import Derived.Test.YtldlkbjbfgieeaaGreatDoorInW
namespace Go.Proofs.YtldlkbjbfgieeaaGreatDoor.DeW
set_option linter.unusedVariables false
set_option linter.unusedSimpArgs false
open Go.RowKit Go.Proofs.YtldlkbjbfgieeaaGreatDoorW.PrintWords Go.Proofs.YtldlkbjbfgieeaaGreatDoorW.PrintLast Mo Q Rw InW
/-- the cells that move one place down -/
def tl (cur : Array Value) (i m : Nat) : List Value := (cur.toList.drop ((i + 1) * 6)).take ((m - i) * 6)
def dA (cur : Array Value) (i m : Nat) : Array Value := (cur.toList.take (i * 6) ++ tl cur i m ++ cur.toList.drop (i * 6 + (tl cur i m).length)).toArray
def dB (cur : Array Value) (i m : Nat) : Array Value := ((dA cur i m).toList.take (m * 6) ++ (zc 1).toList ++ (dA cur i m).toList.drop (m * 6 + (zc 1).toList.length)).toArray
end Go.Proofs.YtldlkbjbfgieeaaGreatDoor.DeW
namespace Go.Proofs.YtldlkbjbfgieeaaGreatDoor.DeN
set_option linter.unusedVariables false
set_option linter.unusedSimpArgs false
open Go.RowKit Go.Proofs.YtldlkbjbfgieeaaGreatDoorW.PrintWords Go.Proofs.YtldlkbjbfgieeaaGreatDoorW.PrintLast Mo Q Rw InN
/-- the cells that move one place down -/
def tl (cur : Array Value) (i m : Nat) : List Value := (cur.toList.drop ((i + 1) * 5)).take ((m - i) * 5)
def dA (cur : Array Value) (i m : Nat) : Array Value := (cur.toList.take (i * 5) ++ tl cur i m ++ cur.toList.drop (i * 5 + (tl cur i m).length)).toArray
def dB (cur : Array Value) (i m : Nat) : Array Value := ((dA cur i m).toList.take (m * 5) ++ (zc 1).toList ++ (dA cur i m).toList.drop (m * 5 + (zc 1).toList.length)).toArray
end Go.Proofs.YtldlkbjbfgieeaaGreatDoor.DeN
