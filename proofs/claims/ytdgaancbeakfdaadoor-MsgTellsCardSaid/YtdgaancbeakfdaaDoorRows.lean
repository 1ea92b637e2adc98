/-
  NARROWER THAN 'FOR EVERY INPUT', by the rows' own cells (each row's printed sentence says how): MsgTells: laid · MsgBack: laid · MsgWhole: laid · MsgShort: laid.
  DERIVED. THE GIVEN ROWS OF THIS SEAT. 4 by the template 'for every input the law returns true; each argument reads behind the call as it read before'; 0 by the template 'total and deterministic' (their statements: YtdgaancbeakfdaaDoorTotals.lean).
  GIVEN WITH THE SEED: the statements are not yours to turn. If you find one false, say at which input.
  Laid BY PROGRAM, IN A SANDBOX (cutbox-rows.mjs): the forced cells as the released guide's own fill.sh prints them over the translation a5e1e9571658ee59… (all of the seat's roots in one cut). By AI agents, Wed Nov 11 2026. No macro, syntax, notation, axiom, sorry.
-/
import Derived.Test.YtdgaancbeakfdaaDoorChecked
import GoSem.PinnedTables
import GoSem.Claim
import GoSem.ClaimJoined
import GoSem.ClaimMapViews
import Derived.JoinedTies
import Derived.KernelRfl
namespace Go.Proofs.YtdgaancbeakfdaaDoor
/- THE CELL 'sum', in the pinned program and in every row, IS THE sha256 OF THE DUMP (.gsa) THAT YtdgaancbeakfdaaDoorProg.lean LOADS. Nothing in Lean hashes anything: it is a label: what it is worth is what the hold of that sum in a sandbox is worth. -/
noncomputable def Tryd.pinned : Pinned := { name := "ytdgaancbeakfdaadoor", sum := "a5e1e9571658ee59abfcd9bea6018c741f50b7f8a153c56af40a65b89d2e861b", checked := Tryd.checked }
namespace Rows
def none {H : Type} : Left H := { results := [], args := [] }

/- WHAT THE LISTED PACKAGE-LEVEL VARIABLES READ AS WHEN THE CALL BEGINS. Each datum BY PROGRAM (the guide's laid-datum.mjs) off the statement by which the dump's own 'gosem.cut.vars' lays the variable. In a bare row this is a premise. The card (YtdgaancbeakfdaaDoorCards.lean) ties it to the program's text. -/
def laid_unicode_utf8_acceptRanges {H : Type} : DataW H := .agg [.agg [.lit (.int .u8 128), .lit (.int .u8 191)], .agg [.lit (.int .u8 160), .lit (.int .u8 191)], .agg [.lit (.int .u8 128), .lit (.int .u8 159)], .agg [.lit (.int .u8 144), .lit (.int .u8 191)], .agg [.lit (.int .u8 128), .lit (.int .u8 143)], .agg [.lit (.int .u8 0), .lit (.int .u8 0)], .agg [.lit (.int .u8 0), .lit (.int .u8 0)], .agg [.lit (.int .u8 0), .lit (.int .u8 0)], .agg [.lit (.int .u8 0), .lit (.int .u8 0)], .agg [.lit (.int .u8 0), .lit (.int .u8 0)], .agg [.lit (.int .u8 0), .lit (.int .u8 0)], .agg [.lit (.int .u8 0), .lit (.int .u8 0)], .agg [.lit (.int .u8 0), .lit (.int .u8 0)], .agg [.lit (.int .u8 0), .lit (.int .u8 0)], .agg [.lit (.int .u8 0), .lit (.int .u8 0)], .agg [.lit (.int .u8 0), .lit (.int .u8 0)]]
/-- One of Go's own tables, pinned by name: the form's constant. -/
def laid_unicode_utf8_first : DataW Unit := Go.Pinned.utf8First

/-- 'billetlaw16.MsgTells': WHATEVER THE INPUT: true; the input reads as it did. -/
def msgTellsSpec : ChangeSpec := { name := "msgTells", fn := fun _ => fun
  | [d1, d2] => { results := [.lit (.bool true)], args := [d1, d2] }
  | _ => none }
def msgTellsRow : OpenClaim := { program := "ytdgaancbeakfdaadoor", sum := "a5e1e9571658ee59abfcd9bea6018c741f50b7f8a153c56af40a65b89d2e861b", func := "billet/billetlaw16.MsgTells", spec := "msgTells", inPlace := ["internal/bytealg.IndexByteString", "internal/bytealg.IndexString", "internal/abi.NoEscape"], unfollowed := true, recurses := true, named := ["unicode/utf8.first", "unicode/utf8.acceptRanges", "internal/bytealg.MaxLen"], apart := false, laid := [("unicode/utf8.acceptRanges", laid_unicode_utf8_acceptRanges), ("unicode/utf8.first", laid_unicode_utf8_first)] }
def MsgTellsSaid : Prop := msgTellsRow.holds Tryd.pinned (OpenSpec.ofChange msgTellsSpec)

/-- ITS FALSE NEIGHBOUR: 'it returns false'. Refute it at one input. -/
def msgTellsWrong : ChangeSpec := { name := "msgTells", fn := fun _ => fun
  | [d1, d2] => { results := [.lit (.bool false)], args := [d1, d2] }
  | _ => none }
def MsgTellsWrongFalsely : Prop := msgTellsRow.holds Tryd.pinned (OpenSpec.ofChange msgTellsWrong)

/-- 'billetlaw16.MsgBack': WHATEVER THE INPUT: true; the input reads as it did. -/
def msgBackSpec : ChangeSpec := { name := "msgBack", fn := fun _ => fun
  | [d1, d2, d3, d4] => { results := [.lit (.bool true)], args := [d1, d2, d3, d4] }
  | _ => none }
def msgBackRow : OpenClaim := { program := "ytdgaancbeakfdaadoor", sum := "a5e1e9571658ee59abfcd9bea6018c741f50b7f8a153c56af40a65b89d2e861b", func := "billet/billetlaw16.MsgBack", spec := "msgBack", inPlace := ["internal/bytealg.IndexByteString", "internal/bytealg.IndexString", "internal/abi.NoEscape"], unfollowed := true, recurses := true, named := ["unicode/utf8.first", "unicode/utf8.acceptRanges", "internal/bytealg.MaxLen"], apart := false, laid := [("unicode/utf8.acceptRanges", laid_unicode_utf8_acceptRanges), ("unicode/utf8.first", laid_unicode_utf8_first)] }
def MsgBackSaid : Prop := msgBackRow.holds Tryd.pinned (OpenSpec.ofChange msgBackSpec)

/-- ITS FALSE NEIGHBOUR: 'it returns false'. Refute it at one input. -/
def msgBackWrong : ChangeSpec := { name := "msgBack", fn := fun _ => fun
  | [d1, d2, d3, d4] => { results := [.lit (.bool false)], args := [d1, d2, d3, d4] }
  | _ => none }
def MsgBackWrongFalsely : Prop := msgBackRow.holds Tryd.pinned (OpenSpec.ofChange msgBackWrong)

/-- 'billetlaw16.MsgWhole': WHATEVER THE INPUT: true; the input reads as it did. -/
def msgWholeSpec : ChangeSpec := { name := "msgWhole", fn := fun _ => fun
  | [d1, d2, d3, d4, d5] => { results := [.lit (.bool true)], args := [d1, d2, d3, d4, d5] }
  | _ => none }
def msgWholeRow : OpenClaim := { program := "ytdgaancbeakfdaadoor", sum := "a5e1e9571658ee59abfcd9bea6018c741f50b7f8a153c56af40a65b89d2e861b", func := "billet/billetlaw16.MsgWhole", spec := "msgWhole", inPlace := ["internal/bytealg.IndexByteString", "internal/bytealg.IndexString", "internal/abi.NoEscape"], unfollowed := true, recurses := true, named := ["unicode/utf8.first", "unicode/utf8.acceptRanges", "internal/bytealg.MaxLen"], apart := false, laid := [("unicode/utf8.acceptRanges", laid_unicode_utf8_acceptRanges), ("unicode/utf8.first", laid_unicode_utf8_first)] }
def MsgWholeSaid : Prop := msgWholeRow.holds Tryd.pinned (OpenSpec.ofChange msgWholeSpec)

/-- ITS FALSE NEIGHBOUR: 'it returns false'. Refute it at one input. -/
def msgWholeWrong : ChangeSpec := { name := "msgWhole", fn := fun _ => fun
  | [d1, d2, d3, d4, d5] => { results := [.lit (.bool false)], args := [d1, d2, d3, d4, d5] }
  | _ => none }
def MsgWholeWrongFalsely : Prop := msgWholeRow.holds Tryd.pinned (OpenSpec.ofChange msgWholeWrong)

/-- 'billetlaw16.MsgShort': WHATEVER THE INPUT: true; the input reads as it did. -/
def msgShortSpec : ChangeSpec := { name := "msgShort", fn := fun _ => fun
  | [d1, d2] => { results := [.lit (.bool true)], args := [d1, d2] }
  | _ => none }
def msgShortRow : OpenClaim := { program := "ytdgaancbeakfdaadoor", sum := "a5e1e9571658ee59abfcd9bea6018c741f50b7f8a153c56af40a65b89d2e861b", func := "billet/billetlaw16.MsgShort", spec := "msgShort", inPlace := ["internal/bytealg.IndexByteString", "internal/bytealg.IndexString", "internal/abi.NoEscape"], unfollowed := true, recurses := true, named := ["unicode/utf8.first", "unicode/utf8.acceptRanges", "internal/bytealg.MaxLen"], apart := false, laid := [("unicode/utf8.acceptRanges", laid_unicode_utf8_acceptRanges), ("unicode/utf8.first", laid_unicode_utf8_first)] }
def MsgShortSaid : Prop := msgShortRow.holds Tryd.pinned (OpenSpec.ofChange msgShortSpec)

/-- ITS FALSE NEIGHBOUR: 'it returns false'. Refute it at one input. -/
def msgShortWrong : ChangeSpec := { name := "msgShort", fn := fun _ => fun
  | [d1, d2] => { results := [.lit (.bool false)], args := [d1, d2] }
  | _ => none }
def MsgShortWrongFalsely : Prop := msgShortRow.holds Tryd.pinned (OpenSpec.ofChange msgShortWrong)

/- THE SECOND FORM. 'bulk': how many values and letters a reading holds, each counted each time it is reached (what is shared counts as often as it is met; a slice's spare places count too). A statement '..UptoSaid' is the law's where the arguments, and the package variables that the reading takes, are together of bulk at most 1048576: NARROWER than '..Said'. Prove '..Said' where nothing that the law and all that it calls make is longer than what came in: it says more and counts as full. Else prove '..UptoSaid'. A law counts once. -/
mutual
def uptoBulk {H : Type} : DataW H → Nat
  | .lit (.string bytes) => bytes.length + 1
  | .lit _ => 1
  | .nil => 1
  | .ptr d => uptoBulk d + 1
  | .slice elems spare => uptoBulkAll elems + uptoBulkAll spare + 1
  | .agg parts => uptoBulkAll parts + 1
  | .iface _ d => uptoBulk d + 1
  | .map entries => uptoBulkEntries entries + 1
  | .held _ => 1
def uptoBulkAll {H : Type} : List (DataW H) → Nat
  | [] => 0
  | d :: r => uptoBulk d + uptoBulkAll r
def uptoBulkEntries {H : Type} : List (Lit × DataW H) → Nat
  | [] => 0
  | x :: r => uptoBulkEntry x + uptoBulkEntries r
def uptoBulkEntry {H : Type} : Lit × DataW H → Nat
  | (.string bytes, d) => bytes.length + uptoBulk d + 1
  | (_, d) => uptoBulk d + 1
 end
def uptoSmall : (H : Type) → List (DataW H) → Bool := fun _ ds => decide (uptoBulkAll ds ≤ 1048576)
def OpenSpec.upto (s : _root_.Go.ChangeSpec) : _root_.Go.OpenSpec := { _root_.Go.OpenSpec.ofChange s with cond := some uptoSmall }

/-- 'billetlaw16.MsgTells', WHERE WHAT IT READS IS OF BULK AT MOST 1048576: true; the input reads as it did. -/
def msgTellsUptoRow : OpenClaim := { program := "ytdgaancbeakfdaadoor", sum := "a5e1e9571658ee59abfcd9bea6018c741f50b7f8a153c56af40a65b89d2e861b", func := "billet/billetlaw16.MsgTells", spec := "msgTells", inPlace := ["internal/bytealg.IndexByteString", "internal/bytealg.IndexString", "internal/abi.NoEscape"], unfollowed := true, recurses := true, named := ["unicode/utf8.first", "unicode/utf8.acceptRanges", "internal/bytealg.MaxLen"], apart := false, laid := [("unicode/utf8.acceptRanges", laid_unicode_utf8_acceptRanges), ("unicode/utf8.first", laid_unicode_utf8_first)], narrowed := true }
def MsgTellsUptoSaid : Prop := msgTellsUptoRow.holds Tryd.pinned (OpenSpec.upto msgTellsSpec)

/-- 'billetlaw16.MsgBack', WHERE WHAT IT READS IS OF BULK AT MOST 1048576: true; the input reads as it did. -/
def msgBackUptoRow : OpenClaim := { program := "ytdgaancbeakfdaadoor", sum := "a5e1e9571658ee59abfcd9bea6018c741f50b7f8a153c56af40a65b89d2e861b", func := "billet/billetlaw16.MsgBack", spec := "msgBack", inPlace := ["internal/bytealg.IndexByteString", "internal/bytealg.IndexString", "internal/abi.NoEscape"], unfollowed := true, recurses := true, named := ["unicode/utf8.first", "unicode/utf8.acceptRanges", "internal/bytealg.MaxLen"], apart := false, laid := [("unicode/utf8.acceptRanges", laid_unicode_utf8_acceptRanges), ("unicode/utf8.first", laid_unicode_utf8_first)], narrowed := true }
def MsgBackUptoSaid : Prop := msgBackUptoRow.holds Tryd.pinned (OpenSpec.upto msgBackSpec)

/-- 'billetlaw16.MsgWhole', WHERE WHAT IT READS IS OF BULK AT MOST 1048576: true; the input reads as it did. -/
def msgWholeUptoRow : OpenClaim := { program := "ytdgaancbeakfdaadoor", sum := "a5e1e9571658ee59abfcd9bea6018c741f50b7f8a153c56af40a65b89d2e861b", func := "billet/billetlaw16.MsgWhole", spec := "msgWhole", inPlace := ["internal/bytealg.IndexByteString", "internal/bytealg.IndexString", "internal/abi.NoEscape"], unfollowed := true, recurses := true, named := ["unicode/utf8.first", "unicode/utf8.acceptRanges", "internal/bytealg.MaxLen"], apart := false, laid := [("unicode/utf8.acceptRanges", laid_unicode_utf8_acceptRanges), ("unicode/utf8.first", laid_unicode_utf8_first)], narrowed := true }
def MsgWholeUptoSaid : Prop := msgWholeUptoRow.holds Tryd.pinned (OpenSpec.upto msgWholeSpec)

/-- 'billetlaw16.MsgShort', WHERE WHAT IT READS IS OF BULK AT MOST 1048576: true; the input reads as it did. -/
def msgShortUptoRow : OpenClaim := { program := "ytdgaancbeakfdaadoor", sum := "a5e1e9571658ee59abfcd9bea6018c741f50b7f8a153c56af40a65b89d2e861b", func := "billet/billetlaw16.MsgShort", spec := "msgShort", inPlace := ["internal/bytealg.IndexByteString", "internal/bytealg.IndexString", "internal/abi.NoEscape"], unfollowed := true, recurses := true, named := ["unicode/utf8.first", "unicode/utf8.acceptRanges", "internal/bytealg.MaxLen"], apart := false, laid := [("unicode/utf8.acceptRanges", laid_unicode_utf8_acceptRanges), ("unicode/utf8.first", laid_unicode_utf8_first)], narrowed := true }
def MsgShortUptoSaid : Prop := msgShortUptoRow.holds Tryd.pinned (OpenSpec.upto msgShortSpec)

end Rows
end Go.Proofs.YtdgaancbeakfdaaDoor
