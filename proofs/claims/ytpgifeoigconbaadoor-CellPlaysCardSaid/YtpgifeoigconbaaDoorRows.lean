/-
  NARROWER THAN 'FOR EVERY INPUT', by the rows' own cells (each row's printed sentence says how): CellPlays: laid · CellRises: laid · CellLast: laid · CellRuns: laid · CellTwice: laid.
  DERIVED. THE GIVEN ROWS OF THIS SEAT. 5 by the template 'for every input the law returns true; each argument reads behind the call as it read before'; 0 by the template 'total and deterministic' (their statements: YtpgifeoigconbaaDoorTotals.lean).
  GIVEN WITH THE SEED: the statements are not yours to turn. If you find one false, say at which input.
  Laid BY PROGRAM, IN A SANDBOX (cutbox-rows.mjs): the forced cells as the released guide's own fill.sh prints them over the translation 801bbdd8a80519a4… (all of the seat's roots in one cut). By AI agents, Wed Nov 11 2026. No macro, syntax, notation, axiom, sorry.
-/
import Derived.Test.YtpgifeoigconbaaDoorChecked
import GoSem.PinnedTables
import GoSem.Claim
import GoSem.ClaimJoined
import GoSem.ClaimMapViews
import Derived.JoinedTies
import Derived.KernelRfl
namespace Go.Proofs.YtpgifeoigconbaaDoor
/- THE CELL 'sum', in the pinned program and in every row, IS THE sha256 OF THE DUMP (.gsa) THAT YtpgifeoigconbaaDoorProg.lean LOADS. Nothing in Lean hashes anything: it is a label: what it is worth is what the hold of that sum in a sandbox is worth. -/
noncomputable def Tryd.pinned : Pinned := { name := "ytpgifeoigconbaadoor", sum := "801bbdd8a80519a4027928118bdea32908f24def846b6e10e13fb04d29e9d3f1", checked := Tryd.checked }
namespace Rows
def none {H : Type} : Left H := { results := [], args := [] }

/- WHAT THE LISTED PACKAGE-LEVEL VARIABLES READ AS WHEN THE CALL BEGINS. Each datum BY PROGRAM (the guide's laid-datum.mjs) off the statement by which the dump's own 'gosem.cut.vars' lays the variable. In a bare row this is a premise. The card (YtpgifeoigconbaaDoorCards.lean) ties it to the program's text. -/
def laid_unicode_utf8_acceptRanges {H : Type} : DataW H := .agg [.agg [.lit (.int .u8 128), .lit (.int .u8 191)], .agg [.lit (.int .u8 160), .lit (.int .u8 191)], .agg [.lit (.int .u8 128), .lit (.int .u8 159)], .agg [.lit (.int .u8 144), .lit (.int .u8 191)], .agg [.lit (.int .u8 128), .lit (.int .u8 143)], .agg [.lit (.int .u8 0), .lit (.int .u8 0)], .agg [.lit (.int .u8 0), .lit (.int .u8 0)], .agg [.lit (.int .u8 0), .lit (.int .u8 0)], .agg [.lit (.int .u8 0), .lit (.int .u8 0)], .agg [.lit (.int .u8 0), .lit (.int .u8 0)], .agg [.lit (.int .u8 0), .lit (.int .u8 0)], .agg [.lit (.int .u8 0), .lit (.int .u8 0)], .agg [.lit (.int .u8 0), .lit (.int .u8 0)], .agg [.lit (.int .u8 0), .lit (.int .u8 0)], .agg [.lit (.int .u8 0), .lit (.int .u8 0)], .agg [.lit (.int .u8 0), .lit (.int .u8 0)]]
/-- One of Go's own tables, pinned by name: the form's constant. -/
def laid_unicode_utf8_first : DataW Unit := Go.Pinned.utf8First

/-- 'billetlaw18.CellPlays': WHATEVER THE INPUT: true; the input reads as it did. -/
def cellPlaysSpec : ChangeSpec := { name := "cellPlays", fn := fun _ => fun
  | [d1, d2, d3, d4, d5] => { results := [.lit (.bool true)], args := [d1, d2, d3, d4, d5] }
  | _ => none }
def cellPlaysRow : OpenClaim := { program := "ytpgifeoigconbaadoor", sum := "801bbdd8a80519a4027928118bdea32908f24def846b6e10e13fb04d29e9d3f1", func := "billet/billetlaw18.CellPlays", spec := "cellPlays", inPlace := ["internal/bytealg.IndexByteString", "internal/bytealg.IndexString"], named := ["unicode/utf8.first", "unicode/utf8.acceptRanges", "internal/bytealg.MaxLen"], apart := false, laid := [("unicode/utf8.acceptRanges", laid_unicode_utf8_acceptRanges), ("unicode/utf8.first", laid_unicode_utf8_first)] }
def CellPlaysSaid : Prop := cellPlaysRow.holds Tryd.pinned (OpenSpec.ofChange cellPlaysSpec)

/-- ITS FALSE NEIGHBOUR: 'it returns false'. Refute it at one input. -/
def cellPlaysWrong : ChangeSpec := { name := "cellPlays", fn := fun _ => fun
  | [d1, d2, d3, d4, d5] => { results := [.lit (.bool false)], args := [d1, d2, d3, d4, d5] }
  | _ => none }
def CellPlaysWrongFalsely : Prop := cellPlaysRow.holds Tryd.pinned (OpenSpec.ofChange cellPlaysWrong)

/-- 'billetlaw18.CellRises': WHATEVER THE INPUT: true; the input reads as it did. -/
def cellRisesSpec : ChangeSpec := { name := "cellRises", fn := fun _ => fun
  | [d] => { results := [.lit (.bool true)], args := [d] }
  | _ => none }
def cellRisesRow : OpenClaim := { program := "ytpgifeoigconbaadoor", sum := "801bbdd8a80519a4027928118bdea32908f24def846b6e10e13fb04d29e9d3f1", func := "billet/billetlaw18.CellRises", spec := "cellRises", inPlace := ["internal/bytealg.IndexByteString", "internal/bytealg.IndexString"], named := ["unicode/utf8.first", "unicode/utf8.acceptRanges", "internal/bytealg.MaxLen"], apart := false, laid := [("unicode/utf8.acceptRanges", laid_unicode_utf8_acceptRanges), ("unicode/utf8.first", laid_unicode_utf8_first)] }
def CellRisesSaid : Prop := cellRisesRow.holds Tryd.pinned (OpenSpec.ofChange cellRisesSpec)

/-- ITS FALSE NEIGHBOUR: 'it returns false'. Refute it at one input. -/
def cellRisesWrong : ChangeSpec := { name := "cellRises", fn := fun _ => fun
  | [d] => { results := [.lit (.bool false)], args := [d] }
  | _ => none }
def CellRisesWrongFalsely : Prop := cellRisesRow.holds Tryd.pinned (OpenSpec.ofChange cellRisesWrong)

/-- 'billetlaw18.CellLast': WHATEVER THE INPUT: true; the input reads as it did. -/
def cellLastSpec : ChangeSpec := { name := "cellLast", fn := fun _ => fun
  | [d1, d2] => { results := [.lit (.bool true)], args := [d1, d2] }
  | _ => none }
def cellLastRow : OpenClaim := { program := "ytpgifeoigconbaadoor", sum := "801bbdd8a80519a4027928118bdea32908f24def846b6e10e13fb04d29e9d3f1", func := "billet/billetlaw18.CellLast", spec := "cellLast", inPlace := ["internal/bytealg.IndexByteString", "internal/bytealg.IndexString"], named := ["unicode/utf8.first", "unicode/utf8.acceptRanges", "internal/bytealg.MaxLen"], apart := false, laid := [("unicode/utf8.acceptRanges", laid_unicode_utf8_acceptRanges), ("unicode/utf8.first", laid_unicode_utf8_first)] }
def CellLastSaid : Prop := cellLastRow.holds Tryd.pinned (OpenSpec.ofChange cellLastSpec)

/-- ITS FALSE NEIGHBOUR: 'it returns false'. Refute it at one input. -/
def cellLastWrong : ChangeSpec := { name := "cellLast", fn := fun _ => fun
  | [d1, d2] => { results := [.lit (.bool false)], args := [d1, d2] }
  | _ => none }
def CellLastWrongFalsely : Prop := cellLastRow.holds Tryd.pinned (OpenSpec.ofChange cellLastWrong)

/-- 'billetlaw18.CellRuns': WHATEVER THE INPUT: true; the input reads as it did. -/
def cellRunsSpec : ChangeSpec := { name := "cellRuns", fn := fun _ => fun
  | [d1, d2] => { results := [.lit (.bool true)], args := [d1, d2] }
  | _ => none }
def cellRunsRow : OpenClaim := { program := "ytpgifeoigconbaadoor", sum := "801bbdd8a80519a4027928118bdea32908f24def846b6e10e13fb04d29e9d3f1", func := "billet/billetlaw18.CellRuns", spec := "cellRuns", inPlace := ["internal/bytealg.IndexByteString", "internal/bytealg.IndexString"], named := ["unicode/utf8.first", "unicode/utf8.acceptRanges", "internal/bytealg.MaxLen"], apart := false, laid := [("unicode/utf8.acceptRanges", laid_unicode_utf8_acceptRanges), ("unicode/utf8.first", laid_unicode_utf8_first)] }
def CellRunsSaid : Prop := cellRunsRow.holds Tryd.pinned (OpenSpec.ofChange cellRunsSpec)

/-- ITS FALSE NEIGHBOUR: 'it returns false'. Refute it at one input. -/
def cellRunsWrong : ChangeSpec := { name := "cellRuns", fn := fun _ => fun
  | [d1, d2] => { results := [.lit (.bool false)], args := [d1, d2] }
  | _ => none }
def CellRunsWrongFalsely : Prop := cellRunsRow.holds Tryd.pinned (OpenSpec.ofChange cellRunsWrong)

/-- 'billetlaw18.CellTwice': WHATEVER THE INPUT: true; the input reads as it did. -/
def cellTwiceSpec : ChangeSpec := { name := "cellTwice", fn := fun _ => fun
  | [d] => { results := [.lit (.bool true)], args := [d] }
  | _ => none }
def cellTwiceRow : OpenClaim := { program := "ytpgifeoigconbaadoor", sum := "801bbdd8a80519a4027928118bdea32908f24def846b6e10e13fb04d29e9d3f1", func := "billet/billetlaw18.CellTwice", spec := "cellTwice", inPlace := ["internal/bytealg.IndexByteString", "internal/bytealg.IndexString"], named := ["unicode/utf8.first", "unicode/utf8.acceptRanges", "internal/bytealg.MaxLen"], apart := false, laid := [("unicode/utf8.acceptRanges", laid_unicode_utf8_acceptRanges), ("unicode/utf8.first", laid_unicode_utf8_first)] }
def CellTwiceSaid : Prop := cellTwiceRow.holds Tryd.pinned (OpenSpec.ofChange cellTwiceSpec)

/-- ITS FALSE NEIGHBOUR: 'it returns false'. Refute it at one input. -/
def cellTwiceWrong : ChangeSpec := { name := "cellTwice", fn := fun _ => fun
  | [d] => { results := [.lit (.bool false)], args := [d] }
  | _ => none }
def CellTwiceWrongFalsely : Prop := cellTwiceRow.holds Tryd.pinned (OpenSpec.ofChange cellTwiceWrong)

/- THE SECOND FORM. 'bulk': how many values and letters a reading holds, each counted each time it is reached (what is shared counts as often as it is met; a slice's spare places count too). A statement '..UptoSaid' is the law's where the arguments, and the package variables that the reading takes, are together of bulk at most 1048576: NARROWER than '..Said'. Prove '..Said' where nothing that the law and all that it calls make is longer than what came in: it says more and counts as full. Else prove '..UptoSaid'. A law counts once. -/
mutual
def uptoBulk {H : Type} : DataW H → Nat
  | .lit (.string bytes) => bytes.length + 1
  | .lit _ => 1
  | .nil => 1
  | .ptr d => uptoBulk d + 1
  | .slice elems spare => uptoBulkAll elems + uptoBulkAll spare + 1
  | .agg parts => uptoBulkAll parts + 1
  | .iface _ d => uptoBulk d + 1
  | .map entries => uptoBulkEntries entries + 1
  | .held _ => 1
def uptoBulkAll {H : Type} : List (DataW H) → Nat
  | [] => 0
  | d :: r => uptoBulk d + uptoBulkAll r
def uptoBulkEntries {H : Type} : List (Lit × DataW H) → Nat
  | [] => 0
  | x :: r => uptoBulkEntry x + uptoBulkEntries r
def uptoBulkEntry {H : Type} : Lit × DataW H → Nat
  | (.string bytes, d) => bytes.length + uptoBulk d + 1
  | (_, d) => uptoBulk d + 1
 end
def uptoSmall : (H : Type) → List (DataW H) → Bool := fun _ ds => decide (uptoBulkAll ds ≤ 1048576)
def OpenSpec.upto (s : _root_.Go.ChangeSpec) : _root_.Go.OpenSpec := { _root_.Go.OpenSpec.ofChange s with cond := some uptoSmall }

/-- 'billetlaw18.CellPlays', WHERE WHAT IT READS IS OF BULK AT MOST 1048576: true; the input reads as it did. -/
def cellPlaysUptoRow : OpenClaim := { program := "ytpgifeoigconbaadoor", sum := "801bbdd8a80519a4027928118bdea32908f24def846b6e10e13fb04d29e9d3f1", func := "billet/billetlaw18.CellPlays", spec := "cellPlays", inPlace := ["internal/bytealg.IndexByteString", "internal/bytealg.IndexString"], named := ["unicode/utf8.first", "unicode/utf8.acceptRanges", "internal/bytealg.MaxLen"], apart := false, laid := [("unicode/utf8.acceptRanges", laid_unicode_utf8_acceptRanges), ("unicode/utf8.first", laid_unicode_utf8_first)], narrowed := true }
def CellPlaysUptoSaid : Prop := cellPlaysUptoRow.holds Tryd.pinned (OpenSpec.upto cellPlaysSpec)

/-- 'billetlaw18.CellRises', WHERE WHAT IT READS IS OF BULK AT MOST 1048576: true; the input reads as it did. -/
def cellRisesUptoRow : OpenClaim := { program := "ytpgifeoigconbaadoor", sum := "801bbdd8a80519a4027928118bdea32908f24def846b6e10e13fb04d29e9d3f1", func := "billet/billetlaw18.CellRises", spec := "cellRises", inPlace := ["internal/bytealg.IndexByteString", "internal/bytealg.IndexString"], named := ["unicode/utf8.first", "unicode/utf8.acceptRanges", "internal/bytealg.MaxLen"], apart := false, laid := [("unicode/utf8.acceptRanges", laid_unicode_utf8_acceptRanges), ("unicode/utf8.first", laid_unicode_utf8_first)], narrowed := true }
def CellRisesUptoSaid : Prop := cellRisesUptoRow.holds Tryd.pinned (OpenSpec.upto cellRisesSpec)

/-- 'billetlaw18.CellLast', WHERE WHAT IT READS IS OF BULK AT MOST 1048576: true; the input reads as it did. -/
def cellLastUptoRow : OpenClaim := { program := "ytpgifeoigconbaadoor", sum := "801bbdd8a80519a4027928118bdea32908f24def846b6e10e13fb04d29e9d3f1", func := "billet/billetlaw18.CellLast", spec := "cellLast", inPlace := ["internal/bytealg.IndexByteString", "internal/bytealg.IndexString"], named := ["unicode/utf8.first", "unicode/utf8.acceptRanges", "internal/bytealg.MaxLen"], apart := false, laid := [("unicode/utf8.acceptRanges", laid_unicode_utf8_acceptRanges), ("unicode/utf8.first", laid_unicode_utf8_first)], narrowed := true }
def CellLastUptoSaid : Prop := cellLastUptoRow.holds Tryd.pinned (OpenSpec.upto cellLastSpec)

/-- 'billetlaw18.CellRuns', WHERE WHAT IT READS IS OF BULK AT MOST 1048576: true; the input reads as it did. -/
def cellRunsUptoRow : OpenClaim := { program := "ytpgifeoigconbaadoor", sum := "801bbdd8a80519a4027928118bdea32908f24def846b6e10e13fb04d29e9d3f1", func := "billet/billetlaw18.CellRuns", spec := "cellRuns", inPlace := ["internal/bytealg.IndexByteString", "internal/bytealg.IndexString"], named := ["unicode/utf8.first", "unicode/utf8.acceptRanges", "internal/bytealg.MaxLen"], apart := false, laid := [("unicode/utf8.acceptRanges", laid_unicode_utf8_acceptRanges), ("unicode/utf8.first", laid_unicode_utf8_first)], narrowed := true }
def CellRunsUptoSaid : Prop := cellRunsUptoRow.holds Tryd.pinned (OpenSpec.upto cellRunsSpec)

/-- 'billetlaw18.CellTwice', WHERE WHAT IT READS IS OF BULK AT MOST 1048576: true; the input reads as it did. -/
def cellTwiceUptoRow : OpenClaim := { program := "ytpgifeoigconbaadoor", sum := "801bbdd8a80519a4027928118bdea32908f24def846b6e10e13fb04d29e9d3f1", func := "billet/billetlaw18.CellTwice", spec := "cellTwice", inPlace := ["internal/bytealg.IndexByteString", "internal/bytealg.IndexString"], named := ["unicode/utf8.first", "unicode/utf8.acceptRanges", "internal/bytealg.MaxLen"], apart := false, laid := [("unicode/utf8.acceptRanges", laid_unicode_utf8_acceptRanges), ("unicode/utf8.first", laid_unicode_utf8_first)], narrowed := true }
def CellTwiceUptoSaid : Prop := cellTwiceUptoRow.holds Tryd.pinned (OpenSpec.upto cellTwiceSpec)

end Rows
end Go.Proofs.YtpgifeoigconbaaDoor
