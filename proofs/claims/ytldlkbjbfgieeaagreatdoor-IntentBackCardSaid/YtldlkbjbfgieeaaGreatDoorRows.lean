/-
  NARROWER THAN 'FOR EVERY INPUT', by the rows' own cells (each row's printed sentence says how): IntentStays: laid · IntentUndoes: laid · IntentOrder: laid · IntentMap: laid · IntentTwice: laid · IntentTells: laid · IntentPlays: laid · IntentBack: laid.
  DERIVED. THE GIVEN ROWS OF THIS SEAT. 8 by the template 'for every input the law returns true; each argument reads behind the call as it read before'; 0 by the template 'total and deterministic' (their statements: YtldlkbjbfgieeaaGreatDoorTotals.lean).
  GIVEN WITH THE SEED: the statements are not yours to turn. If you find one false, say at which input.
  Laid BY PROGRAM, IN A SANDBOX (cutbox-rows.mjs): the forced cells as the released guide's own fill.sh prints them over the translation b98b999e27d1bc65… (all of the seat's roots in one cut). By AI agents, Wed Nov 11 2026. No macro, syntax, notation, axiom, sorry.
-/
import Derived.Test.YtldlkbjbfgieeaaGreatDoorChecked
import GoSem.PinnedTables
import GoSem.Claim
import GoSem.ClaimJoined
import GoSem.ClaimMapViews
import Derived.JoinedTies
import Derived.KernelRfl
namespace Go.Proofs.YtldlkbjbfgieeaaGreatDoor
/- THE CELL 'sum', in the pinned program and in every row, IS THE sha256 OF THE DUMP (.gsa) THAT YtldlkbjbfgieeaaGreatDoorProg.lean LOADS. Nothing in Lean hashes anything: it is a label: what it is worth is what the hold of that sum in a sandbox is worth. -/
noncomputable def Tryz.pinned : Pinned := { name := "ytldlkbjbfgieeaagreatdoor", sum := "b98b999e27d1bc655adca1e78ba53eb83086ef2dd61f0b9577bcd5983acd57a1", checked := Tryz.checked }
namespace Rows
def none {H : Type} : Left H := { results := [], args := [] }

/- WHAT THE LISTED PACKAGE-LEVEL VARIABLES READ AS WHEN THE CALL BEGINS. Each datum BY PROGRAM (the guide's laid-datum.mjs) off the statement by which the dump's own 'gosem.cut.vars' lays the variable. In a bare row this is a premise. The card (YtldlkbjbfgieeaaGreatDoorCards.lean) ties it to the program's text. -/
def laid_unicode_utf8_acceptRanges {H : Type} : DataW H := .agg [.agg [.lit (.int .u8 128), .lit (.int .u8 191)], .agg [.lit (.int .u8 160), .lit (.int .u8 191)], .agg [.lit (.int .u8 128), .lit (.int .u8 159)], .agg [.lit (.int .u8 144), .lit (.int .u8 191)], .agg [.lit (.int .u8 128), .lit (.int .u8 143)], .agg [.lit (.int .u8 0), .lit (.int .u8 0)], .agg [.lit (.int .u8 0), .lit (.int .u8 0)], .agg [.lit (.int .u8 0), .lit (.int .u8 0)], .agg [.lit (.int .u8 0), .lit (.int .u8 0)], .agg [.lit (.int .u8 0), .lit (.int .u8 0)], .agg [.lit (.int .u8 0), .lit (.int .u8 0)], .agg [.lit (.int .u8 0), .lit (.int .u8 0)], .agg [.lit (.int .u8 0), .lit (.int .u8 0)], .agg [.lit (.int .u8 0), .lit (.int .u8 0)], .agg [.lit (.int .u8 0), .lit (.int .u8 0)], .agg [.lit (.int .u8 0), .lit (.int .u8 0)]]
/-- One of Go's own tables, pinned by name: the form's constant. -/
def laid_unicode_utf8_first : DataW Unit := Go.Pinned.utf8First

/-- 'billetlaw12.IntentStays': WHATEVER THE INPUT: true; the input reads as it did. -/
def intentStaysSpec : ChangeSpec := { name := "intentStays", fn := fun _ => fun
  | [d] => { results := [.lit (.bool true)], args := [d] }
  | _ => none }
def intentStaysRow : OpenClaim := { program := "ytldlkbjbfgieeaagreatdoor", sum := "b98b999e27d1bc655adca1e78ba53eb83086ef2dd61f0b9577bcd5983acd57a1", func := "billet/billetlaw12.IntentStays", spec := "intentStays", inPlace := ["internal/bytealg.IndexByteString", "internal/bytealg.IndexString", "internal/bytealg.CountString", "internal/bytealg.abigen_runtime_cmpstring", "slices.overlaps[billet/api.Work]", "slices.overlaps[billet/api.Node]"], unfollowed := true, recurses := true, named := ["unicode/utf8.first", "unicode/utf8.acceptRanges", "internal/bytealg.MaxLen"], apart := false, laid := [("unicode/utf8.acceptRanges", laid_unicode_utf8_acceptRanges), ("unicode/utf8.first", laid_unicode_utf8_first)] }
def IntentStaysSaid : Prop := intentStaysRow.holds Tryz.pinned (OpenSpec.ofChange intentStaysSpec)

/-- ITS FALSE NEIGHBOUR: 'it returns false'. Refute it at one input. -/
def intentStaysWrong : ChangeSpec := { name := "intentStays", fn := fun _ => fun
  | [d] => { results := [.lit (.bool false)], args := [d] }
  | _ => none }
def IntentStaysWrongFalsely : Prop := intentStaysRow.holds Tryz.pinned (OpenSpec.ofChange intentStaysWrong)

/-- 'billetlaw12.IntentUndoes': WHATEVER THE INPUT: true; the input reads as it did. -/
def intentUndoesSpec : ChangeSpec := { name := "intentUndoes", fn := fun _ => fun
  | [d1, d2] => { results := [.lit (.bool true)], args := [d1, d2] }
  | _ => none }
def intentUndoesRow : OpenClaim := { program := "ytldlkbjbfgieeaagreatdoor", sum := "b98b999e27d1bc655adca1e78ba53eb83086ef2dd61f0b9577bcd5983acd57a1", func := "billet/billetlaw12.IntentUndoes", spec := "intentUndoes", inPlace := ["internal/bytealg.IndexByteString", "internal/bytealg.IndexString", "internal/bytealg.CountString", "internal/bytealg.abigen_runtime_cmpstring", "slices.overlaps[billet/api.Work]", "slices.overlaps[billet/api.Node]"], unfollowed := true, recurses := true, named := ["unicode/utf8.first", "unicode/utf8.acceptRanges", "internal/bytealg.MaxLen"], apart := false, laid := [("unicode/utf8.acceptRanges", laid_unicode_utf8_acceptRanges), ("unicode/utf8.first", laid_unicode_utf8_first)] }
def IntentUndoesSaid : Prop := intentUndoesRow.holds Tryz.pinned (OpenSpec.ofChange intentUndoesSpec)

/-- ITS FALSE NEIGHBOUR: 'it returns false'. Refute it at one input. -/
def intentUndoesWrong : ChangeSpec := { name := "intentUndoes", fn := fun _ => fun
  | [d1, d2] => { results := [.lit (.bool false)], args := [d1, d2] }
  | _ => none }
def IntentUndoesWrongFalsely : Prop := intentUndoesRow.holds Tryz.pinned (OpenSpec.ofChange intentUndoesWrong)

/-- 'billetlaw12.IntentOrder': WHATEVER THE INPUT: true; the input reads as it did. -/
def intentOrderSpec : ChangeSpec := { name := "intentOrder", fn := fun _ => fun
  | [d1, d2, d3] => { results := [.lit (.bool true)], args := [d1, d2, d3] }
  | _ => none }
def intentOrderRow : OpenClaim := { program := "ytldlkbjbfgieeaagreatdoor", sum := "b98b999e27d1bc655adca1e78ba53eb83086ef2dd61f0b9577bcd5983acd57a1", func := "billet/billetlaw12.IntentOrder", spec := "intentOrder", inPlace := ["internal/bytealg.IndexByteString", "internal/bytealg.IndexString", "internal/bytealg.CountString", "internal/bytealg.abigen_runtime_cmpstring", "slices.overlaps[billet/api.Work]", "slices.overlaps[billet/api.Node]"], unfollowed := true, recurses := true, named := ["unicode/utf8.first", "unicode/utf8.acceptRanges", "internal/bytealg.MaxLen"], apart := false, laid := [("unicode/utf8.acceptRanges", laid_unicode_utf8_acceptRanges), ("unicode/utf8.first", laid_unicode_utf8_first)] }
def IntentOrderSaid : Prop := intentOrderRow.holds Tryz.pinned (OpenSpec.ofChange intentOrderSpec)

/-- ITS FALSE NEIGHBOUR: 'it returns false'. Refute it at one input. -/
def intentOrderWrong : ChangeSpec := { name := "intentOrder", fn := fun _ => fun
  | [d1, d2, d3] => { results := [.lit (.bool false)], args := [d1, d2, d3] }
  | _ => none }
def IntentOrderWrongFalsely : Prop := intentOrderRow.holds Tryz.pinned (OpenSpec.ofChange intentOrderWrong)

/-- 'billetlaw12.IntentMap': WHATEVER THE INPUT: true; the input reads as it did. -/
def intentMapSpec : ChangeSpec := { name := "intentMap", fn := fun _ => fun
  | [d] => { results := [.lit (.bool true)], args := [d] }
  | _ => none }
def intentMapRow : OpenClaim := { program := "ytldlkbjbfgieeaagreatdoor", sum := "b98b999e27d1bc655adca1e78ba53eb83086ef2dd61f0b9577bcd5983acd57a1", func := "billet/billetlaw12.IntentMap", spec := "intentMap", inPlace := ["internal/bytealg.IndexByteString", "internal/bytealg.IndexString", "internal/bytealg.CountString", "internal/bytealg.abigen_runtime_cmpstring", "slices.overlaps[billet/api.Work]", "slices.overlaps[billet/api.Node]"], unfollowed := true, recurses := true, named := ["unicode/utf8.first", "unicode/utf8.acceptRanges", "internal/bytealg.MaxLen"], apart := false, laid := [("unicode/utf8.acceptRanges", laid_unicode_utf8_acceptRanges), ("unicode/utf8.first", laid_unicode_utf8_first)] }
def IntentMapSaid : Prop := intentMapRow.holds Tryz.pinned (OpenSpec.ofChange intentMapSpec)

/-- ITS FALSE NEIGHBOUR: 'it returns false'. Refute it at one input. -/
def intentMapWrong : ChangeSpec := { name := "intentMap", fn := fun _ => fun
  | [d] => { results := [.lit (.bool false)], args := [d] }
  | _ => none }
def IntentMapWrongFalsely : Prop := intentMapRow.holds Tryz.pinned (OpenSpec.ofChange intentMapWrong)

/-- 'billetlaw12.IntentTwice': WHATEVER THE INPUT: true; the input reads as it did. -/
def intentTwiceSpec : ChangeSpec := { name := "intentTwice", fn := fun _ => fun
  | [d1, d2, d3] => { results := [.lit (.bool true)], args := [d1, d2, d3] }
  | _ => none }
def intentTwiceRow : OpenClaim := { program := "ytldlkbjbfgieeaagreatdoor", sum := "b98b999e27d1bc655adca1e78ba53eb83086ef2dd61f0b9577bcd5983acd57a1", func := "billet/billetlaw12.IntentTwice", spec := "intentTwice", inPlace := ["internal/bytealg.IndexByteString", "internal/bytealg.IndexString", "internal/bytealg.CountString", "internal/bytealg.abigen_runtime_cmpstring", "slices.overlaps[billet/api.Work]", "slices.overlaps[billet/api.Node]"], unfollowed := true, recurses := true, named := ["unicode/utf8.first", "unicode/utf8.acceptRanges", "internal/bytealg.MaxLen"], apart := false, laid := [("unicode/utf8.acceptRanges", laid_unicode_utf8_acceptRanges), ("unicode/utf8.first", laid_unicode_utf8_first)] }
def IntentTwiceSaid : Prop := intentTwiceRow.holds Tryz.pinned (OpenSpec.ofChange intentTwiceSpec)

/-- ITS FALSE NEIGHBOUR: 'it returns false'. Refute it at one input. -/
def intentTwiceWrong : ChangeSpec := { name := "intentTwice", fn := fun _ => fun
  | [d1, d2, d3] => { results := [.lit (.bool false)], args := [d1, d2, d3] }
  | _ => none }
def IntentTwiceWrongFalsely : Prop := intentTwiceRow.holds Tryz.pinned (OpenSpec.ofChange intentTwiceWrong)

/-- 'billetlaw12.IntentTells': WHATEVER THE INPUT: true; the input reads as it did. -/
def intentTellsSpec : ChangeSpec := { name := "intentTells", fn := fun _ => fun
  | [d1, d2, d3] => { results := [.lit (.bool true)], args := [d1, d2, d3] }
  | _ => none }
def intentTellsRow : OpenClaim := { program := "ytldlkbjbfgieeaagreatdoor", sum := "b98b999e27d1bc655adca1e78ba53eb83086ef2dd61f0b9577bcd5983acd57a1", func := "billet/billetlaw12.IntentTells", spec := "intentTells", inPlace := ["internal/bytealg.IndexByteString", "internal/bytealg.IndexString", "internal/bytealg.CountString", "internal/bytealg.abigen_runtime_cmpstring", "slices.overlaps[billet/api.Work]", "slices.overlaps[billet/api.Node]", "internal/abi.NoEscape"], unfollowed := true, recurses := true, named := ["unicode/utf8.first", "unicode/utf8.acceptRanges", "internal/bytealg.MaxLen"], apart := false, laid := [("unicode/utf8.acceptRanges", laid_unicode_utf8_acceptRanges), ("unicode/utf8.first", laid_unicode_utf8_first)] }
def IntentTellsSaid : Prop := intentTellsRow.holds Tryz.pinned (OpenSpec.ofChange intentTellsSpec)

/-- ITS FALSE NEIGHBOUR: 'it returns false'. Refute it at one input. -/
def intentTellsWrong : ChangeSpec := { name := "intentTells", fn := fun _ => fun
  | [d1, d2, d3] => { results := [.lit (.bool false)], args := [d1, d2, d3] }
  | _ => none }
def IntentTellsWrongFalsely : Prop := intentTellsRow.holds Tryz.pinned (OpenSpec.ofChange intentTellsWrong)

/-- 'billetlaw12.IntentPlays': WHATEVER THE INPUT: true; the input reads as it did. -/
def intentPlaysSpec : ChangeSpec := { name := "intentPlays", fn := fun _ => fun
  | [d1, d2] => { results := [.lit (.bool true)], args := [d1, d2] }
  | _ => none }
def intentPlaysRow : OpenClaim := { program := "ytldlkbjbfgieeaagreatdoor", sum := "b98b999e27d1bc655adca1e78ba53eb83086ef2dd61f0b9577bcd5983acd57a1", func := "billet/billetlaw12.IntentPlays", spec := "intentPlays", inPlace := ["internal/bytealg.IndexByteString", "internal/bytealg.IndexString", "internal/bytealg.CountString", "internal/bytealg.abigen_runtime_cmpstring", "slices.overlaps[billet/api.Work]", "slices.overlaps[billet/api.Node]", "internal/abi.NoEscape"], unfollowed := true, recurses := true, named := ["unicode/utf8.first", "unicode/utf8.acceptRanges", "internal/bytealg.MaxLen"], apart := false, laid := [("unicode/utf8.acceptRanges", laid_unicode_utf8_acceptRanges), ("unicode/utf8.first", laid_unicode_utf8_first)] }
def IntentPlaysSaid : Prop := intentPlaysRow.holds Tryz.pinned (OpenSpec.ofChange intentPlaysSpec)

/-- ITS FALSE NEIGHBOUR: 'it returns false'. Refute it at one input. -/
def intentPlaysWrong : ChangeSpec := { name := "intentPlays", fn := fun _ => fun
  | [d1, d2] => { results := [.lit (.bool false)], args := [d1, d2] }
  | _ => none }
def IntentPlaysWrongFalsely : Prop := intentPlaysRow.holds Tryz.pinned (OpenSpec.ofChange intentPlaysWrong)

/-- 'billetlaw12.IntentBack': WHATEVER THE INPUT: true; the input reads as it did. -/
def intentBackSpec : ChangeSpec := { name := "intentBack", fn := fun _ => fun
  | [d1, d2, d3] => { results := [.lit (.bool true)], args := [d1, d2, d3] }
  | _ => none }
def intentBackRow : OpenClaim := { program := "ytldlkbjbfgieeaagreatdoor", sum := "b98b999e27d1bc655adca1e78ba53eb83086ef2dd61f0b9577bcd5983acd57a1", func := "billet/billetlaw12.IntentBack", spec := "intentBack", inPlace := ["internal/bytealg.IndexByteString", "internal/bytealg.IndexString", "internal/bytealg.CountString", "internal/bytealg.abigen_runtime_cmpstring", "slices.overlaps[billet/api.Work]", "slices.overlaps[billet/api.Node]", "internal/abi.NoEscape"], unfollowed := true, recurses := true, named := ["unicode/utf8.first", "unicode/utf8.acceptRanges", "internal/bytealg.MaxLen"], apart := false, laid := [("unicode/utf8.acceptRanges", laid_unicode_utf8_acceptRanges), ("unicode/utf8.first", laid_unicode_utf8_first)] }
def IntentBackSaid : Prop := intentBackRow.holds Tryz.pinned (OpenSpec.ofChange intentBackSpec)

/-- ITS FALSE NEIGHBOUR: 'it returns false'. Refute it at one input. -/
def intentBackWrong : ChangeSpec := { name := "intentBack", fn := fun _ => fun
  | [d1, d2, d3] => { results := [.lit (.bool false)], args := [d1, d2, d3] }
  | _ => none }
def IntentBackWrongFalsely : Prop := intentBackRow.holds Tryz.pinned (OpenSpec.ofChange intentBackWrong)

/- THE SECOND FORM. 'bulk': how many values and letters a reading holds, each counted each time it is reached (what is shared counts as often as it is met; a slice's spare places count too). A statement '..UptoSaid' is the law's where the arguments, and the package variables that the reading takes, are together of bulk at most 1048576: NARROWER than '..Said'. Prove '..Said' where nothing that the law and all that it calls make is longer than what came in: it says more and counts as full. Else prove '..UptoSaid'. A law counts once. -/
mutual
def uptoBulk {H : Type} : DataW H → Nat
  | .lit (.string bytes) => bytes.length + 1
  | .lit _ => 1
  | .nil => 1
  | .ptr d => uptoBulk d + 1
  | .slice elems spare => uptoBulkAll elems + uptoBulkAll spare + 1
  | .agg parts => uptoBulkAll parts + 1
  | .iface _ d => uptoBulk d + 1
  | .map entries => uptoBulkEntries entries + 1
  | .held _ => 1
def uptoBulkAll {H : Type} : List (DataW H) → Nat
  | [] => 0
  | d :: r => uptoBulk d + uptoBulkAll r
def uptoBulkEntries {H : Type} : List (Lit × DataW H) → Nat
  | [] => 0
  | x :: r => uptoBulkEntry x + uptoBulkEntries r
def uptoBulkEntry {H : Type} : Lit × DataW H → Nat
  | (.string bytes, d) => bytes.length + uptoBulk d + 1
  | (_, d) => uptoBulk d + 1
 end
def uptoSmall : (H : Type) → List (DataW H) → Bool := fun _ ds => decide (uptoBulkAll ds ≤ 1048576)
def OpenSpec.upto (s : _root_.Go.ChangeSpec) : _root_.Go.OpenSpec := { _root_.Go.OpenSpec.ofChange s with cond := some uptoSmall }

/-- 'billetlaw12.IntentStays', WHERE WHAT IT READS IS OF BULK AT MOST 1048576: true; the input reads as it did. -/
def intentStaysUptoRow : OpenClaim := { program := "ytldlkbjbfgieeaagreatdoor", sum := "b98b999e27d1bc655adca1e78ba53eb83086ef2dd61f0b9577bcd5983acd57a1", func := "billet/billetlaw12.IntentStays", spec := "intentStays", inPlace := ["internal/bytealg.IndexByteString", "internal/bytealg.IndexString", "internal/bytealg.CountString", "internal/bytealg.abigen_runtime_cmpstring", "slices.overlaps[billet/api.Work]", "slices.overlaps[billet/api.Node]"], unfollowed := true, recurses := true, named := ["unicode/utf8.first", "unicode/utf8.acceptRanges", "internal/bytealg.MaxLen"], apart := false, laid := [("unicode/utf8.acceptRanges", laid_unicode_utf8_acceptRanges), ("unicode/utf8.first", laid_unicode_utf8_first)], narrowed := true }
def IntentStaysUptoSaid : Prop := intentStaysUptoRow.holds Tryz.pinned (OpenSpec.upto intentStaysSpec)

/-- 'billetlaw12.IntentUndoes', WHERE WHAT IT READS IS OF BULK AT MOST 1048576: true; the input reads as it did. -/
def intentUndoesUptoRow : OpenClaim := { program := "ytldlkbjbfgieeaagreatdoor", sum := "b98b999e27d1bc655adca1e78ba53eb83086ef2dd61f0b9577bcd5983acd57a1", func := "billet/billetlaw12.IntentUndoes", spec := "intentUndoes", inPlace := ["internal/bytealg.IndexByteString", "internal/bytealg.IndexString", "internal/bytealg.CountString", "internal/bytealg.abigen_runtime_cmpstring", "slices.overlaps[billet/api.Work]", "slices.overlaps[billet/api.Node]"], unfollowed := true, recurses := true, named := ["unicode/utf8.first", "unicode/utf8.acceptRanges", "internal/bytealg.MaxLen"], apart := false, laid := [("unicode/utf8.acceptRanges", laid_unicode_utf8_acceptRanges), ("unicode/utf8.first", laid_unicode_utf8_first)], narrowed := true }
def IntentUndoesUptoSaid : Prop := intentUndoesUptoRow.holds Tryz.pinned (OpenSpec.upto intentUndoesSpec)

/-- 'billetlaw12.IntentOrder', WHERE WHAT IT READS IS OF BULK AT MOST 1048576: true; the input reads as it did. -/
def intentOrderUptoRow : OpenClaim := { program := "ytldlkbjbfgieeaagreatdoor", sum := "b98b999e27d1bc655adca1e78ba53eb83086ef2dd61f0b9577bcd5983acd57a1", func := "billet/billetlaw12.IntentOrder", spec := "intentOrder", inPlace := ["internal/bytealg.IndexByteString", "internal/bytealg.IndexString", "internal/bytealg.CountString", "internal/bytealg.abigen_runtime_cmpstring", "slices.overlaps[billet/api.Work]", "slices.overlaps[billet/api.Node]"], unfollowed := true, recurses := true, named := ["unicode/utf8.first", "unicode/utf8.acceptRanges", "internal/bytealg.MaxLen"], apart := false, laid := [("unicode/utf8.acceptRanges", laid_unicode_utf8_acceptRanges), ("unicode/utf8.first", laid_unicode_utf8_first)], narrowed := true }
def IntentOrderUptoSaid : Prop := intentOrderUptoRow.holds Tryz.pinned (OpenSpec.upto intentOrderSpec)

/-- 'billetlaw12.IntentMap', WHERE WHAT IT READS IS OF BULK AT MOST 1048576: true; the input reads as it did. -/
def intentMapUptoRow : OpenClaim := { program := "ytldlkbjbfgieeaagreatdoor", sum := "b98b999e27d1bc655adca1e78ba53eb83086ef2dd61f0b9577bcd5983acd57a1", func := "billet/billetlaw12.IntentMap", spec := "intentMap", inPlace := ["internal/bytealg.IndexByteString", "internal/bytealg.IndexString", "internal/bytealg.CountString", "internal/bytealg.abigen_runtime_cmpstring", "slices.overlaps[billet/api.Work]", "slices.overlaps[billet/api.Node]"], unfollowed := true, recurses := true, named := ["unicode/utf8.first", "unicode/utf8.acceptRanges", "internal/bytealg.MaxLen"], apart := false, laid := [("unicode/utf8.acceptRanges", laid_unicode_utf8_acceptRanges), ("unicode/utf8.first", laid_unicode_utf8_first)], narrowed := true }
def IntentMapUptoSaid : Prop := intentMapUptoRow.holds Tryz.pinned (OpenSpec.upto intentMapSpec)

/-- 'billetlaw12.IntentTwice', WHERE WHAT IT READS IS OF BULK AT MOST 1048576: true; the input reads as it did. -/
def intentTwiceUptoRow : OpenClaim := { program := "ytldlkbjbfgieeaagreatdoor", sum := "b98b999e27d1bc655adca1e78ba53eb83086ef2dd61f0b9577bcd5983acd57a1", func := "billet/billetlaw12.IntentTwice", spec := "intentTwice", inPlace := ["internal/bytealg.IndexByteString", "internal/bytealg.IndexString", "internal/bytealg.CountString", "internal/bytealg.abigen_runtime_cmpstring", "slices.overlaps[billet/api.Work]", "slices.overlaps[billet/api.Node]"], unfollowed := true, recurses := true, named := ["unicode/utf8.first", "unicode/utf8.acceptRanges", "internal/bytealg.MaxLen"], apart := false, laid := [("unicode/utf8.acceptRanges", laid_unicode_utf8_acceptRanges), ("unicode/utf8.first", laid_unicode_utf8_first)], narrowed := true }
def IntentTwiceUptoSaid : Prop := intentTwiceUptoRow.holds Tryz.pinned (OpenSpec.upto intentTwiceSpec)

/-- 'billetlaw12.IntentTells', WHERE WHAT IT READS IS OF BULK AT MOST 1048576: true; the input reads as it did. -/
def intentTellsUptoRow : OpenClaim := { program := "ytldlkbjbfgieeaagreatdoor", sum := "b98b999e27d1bc655adca1e78ba53eb83086ef2dd61f0b9577bcd5983acd57a1", func := "billet/billetlaw12.IntentTells", spec := "intentTells", inPlace := ["internal/bytealg.IndexByteString", "internal/bytealg.IndexString", "internal/bytealg.CountString", "internal/bytealg.abigen_runtime_cmpstring", "slices.overlaps[billet/api.Work]", "slices.overlaps[billet/api.Node]", "internal/abi.NoEscape"], unfollowed := true, recurses := true, named := ["unicode/utf8.first", "unicode/utf8.acceptRanges", "internal/bytealg.MaxLen"], apart := false, laid := [("unicode/utf8.acceptRanges", laid_unicode_utf8_acceptRanges), ("unicode/utf8.first", laid_unicode_utf8_first)], narrowed := true }
def IntentTellsUptoSaid : Prop := intentTellsUptoRow.holds Tryz.pinned (OpenSpec.upto intentTellsSpec)

/-- 'billetlaw12.IntentPlays', WHERE WHAT IT READS IS OF BULK AT MOST 1048576: true; the input reads as it did. -/
def intentPlaysUptoRow : OpenClaim := { program := "ytldlkbjbfgieeaagreatdoor", sum := "b98b999e27d1bc655adca1e78ba53eb83086ef2dd61f0b9577bcd5983acd57a1", func := "billet/billetlaw12.IntentPlays", spec := "intentPlays", inPlace := ["internal/bytealg.IndexByteString", "internal/bytealg.IndexString", "internal/bytealg.CountString", "internal/bytealg.abigen_runtime_cmpstring", "slices.overlaps[billet/api.Work]", "slices.overlaps[billet/api.Node]", "internal/abi.NoEscape"], unfollowed := true, recurses := true, named := ["unicode/utf8.first", "unicode/utf8.acceptRanges", "internal/bytealg.MaxLen"], apart := false, laid := [("unicode/utf8.acceptRanges", laid_unicode_utf8_acceptRanges), ("unicode/utf8.first", laid_unicode_utf8_first)], narrowed := true }
def IntentPlaysUptoSaid : Prop := intentPlaysUptoRow.holds Tryz.pinned (OpenSpec.upto intentPlaysSpec)

/-- 'billetlaw12.IntentBack', WHERE WHAT IT READS IS OF BULK AT MOST 1048576: true; the input reads as it did. -/
def intentBackUptoRow : OpenClaim := { program := "ytldlkbjbfgieeaagreatdoor", sum := "b98b999e27d1bc655adca1e78ba53eb83086ef2dd61f0b9577bcd5983acd57a1", func := "billet/billetlaw12.IntentBack", spec := "intentBack", inPlace := ["internal/bytealg.IndexByteString", "internal/bytealg.IndexString", "internal/bytealg.CountString", "internal/bytealg.abigen_runtime_cmpstring", "slices.overlaps[billet/api.Work]", "slices.overlaps[billet/api.Node]", "internal/abi.NoEscape"], unfollowed := true, recurses := true, named := ["unicode/utf8.first", "unicode/utf8.acceptRanges", "internal/bytealg.MaxLen"], apart := false, laid := [("unicode/utf8.acceptRanges", laid_unicode_utf8_acceptRanges), ("unicode/utf8.first", laid_unicode_utf8_first)], narrowed := true }
def IntentBackUptoSaid : Prop := intentBackUptoRow.holds Tryz.pinned (OpenSpec.upto intentBackSpec)

end Rows
end Go.Proofs.YtldlkbjbfgieeaaGreatDoor
