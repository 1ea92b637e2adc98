-- Written by a program of this session (mp.py).
import Derived.Test.YtblhcbnejfmaaaaProg
import Derived.Below
import Derived.Deep.Draws
import Derived.Deep.AppendLies
import Derived.Maps.AppendAt
import Derived.OwnWalk
import Derived.Laws.BytesArg
import Derived.Laws.MakeOwn
import Derived.Laws.OwnMore
import Derived.Deep.OwnRows
import Derived.Tactics
import Derived.Lib.ConvBytes
import Derived.Laws.Slices
import Derived.WalkKit
import Derived.KernelRfl
import Derived.RowKit3
import Derived.Deep.LoopGhost
import Derived.Deep.QuietTactic
import Derived.BigQuiet
import Derived.WideLaws
import Derived.Deep.DeepCutAuto
import Derived.Deep.CutBlock
import Derived.Deep.RegionHeld3
import Derived.Laws.Rows
import Derived.Lib.AppendStr
import Derived.ArgAppend
import Derived.Laws.IdiomCopy
import Derived.OrdersHeld
import Derived.Laws.BitsLemmas
import Derived.RowKit
import Derived.Test.YtblhcbnejfmaaaaGiv
import Derived.Test.YtblhcbnejfmaaaaWWords
import Derived.Test.YtblhcbnejfmaaaaWLast
import Derived.Test.YtblhcbnejfmaaaaWTab
import Derived.Test.YtblhcbnejfmaaaaWFour
import Derived.Test.YtblhcbnejfmaaaaWQPut
import Derived.Test.YtblhcbnejfmaaaaWApart
import Derived.Test.YtblhcbnejfmaaaaWArr
import Derived.Test.YtblhcbnejfmaaaaWZeros
import Derived.Test.YtblhcbnejfmaaaaWFoot
import Derived.Test.YtblhcbnejfmaaaaWKept
import Derived.Test.YtblhcbnejfmaaaaWShare
import Derived.Test.YtblhcbnejfmaaaaWN
import Derived.Test.YtblhcbnejfmaaaaWFootNe
import Derived.Test.YtblhcbnejfmaaaaWAt
import Derived.Test.YtblhcbnejfmaaaaWEqStruct
import Derived.Test.YtblhcbnejfmaaaaWRepsOne
import Derived.Test.YtblhcbnejfmaaaaWInv
import Derived.Test.YtblhcbnejfmaaaaWInvWords
import Derived.Test.YtblhcbnejfmaaaaWGuard
import Derived.Test.YtblhcbnejfmaaaaWNEv
import Derived.Test.YtblhcbnejfmaaaaWMore
namespace Go.Proofs.Ytblhcbnejfmaaaa.Q
open Go.RowKit Go.Proofs.YtblhcbnejfmaaaaW.PrintWords Go.Proofs.YtblhcbnejfmaaaaW.PrintLast Go.Proofs.YtblhcbnejfmaaaaW.PrintMore
attribute [local go_sem] max2_int min2_int max_two min_two max_three min_three max_four min_four   -- for this text's walks alone
open Go.Proofs.Ytblhcbnejfmaaaa.Giv
set_option linter.unusedVariables false
set_option linter.unusedSimpArgs false



def errW : Option Int → Value
  | none => .nilIface
  | some c => .iface 0 (.int .i64 c)
theorem errW_none : errW none = .nilIface := rfl
theorem errW_some (c : Int) : errW (some c) = .iface 0 (.int .i64 c) := rfl

theorem info5 : (Try.prog.info? 5).map (fun i => (i.zero, i.size, i.bytes)) = some (some (.int .u8 0), 1, 1) := by kernel_rfl
theorem info9 : (Try.prog.info? 9).map (fun i => (i.zero, i.size, i.bytes)) = some (some (.string ⟨#[]⟩), 1, 16) := by kernel_rfl
-- the values' own types

end Go.Proofs.Ytblhcbnejfmaaaa.Q
