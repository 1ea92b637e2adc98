/-
  No cell of these rows narrows 'for every input' (looked for: loops, veiled, ifaces, maps, wideKeys, modest, calm, conditions, laid).
  DERIVED. THE GIVEN ROWS OF THIS SEAT. 10 by the template 'for every input the law returns true; each argument reads behind the call as it read before'; 0 by the template 'total and deterministic' (their statements: YtbgmgigjogoemaaTotals.lean).
  GIVEN WITH THE SEED: the statements are not yours to turn. If you find one false, say at which input.
  Laid BY PROGRAM, IN A SANDBOX (cutbox-rows.mjs): the forced cells as the released guide's own fill.sh prints them over the translation cafbd1227ac6a283… (all of the seat's roots in one cut). By AI agents, Wed Nov 11 2026. No macro, syntax, notation, axiom, sorry.
-/
import Derived.Test.YtbgmgigjogoemaaChecked
import GoSem.Claim
import GoSem.ClaimJoined
import GoSem.ClaimMapViews
import Derived.JoinedTies
import Derived.KernelRfl
namespace Go.Proofs.Ytbgmgigjogoemaa
/- THE CELL 'sum', in the pinned program and in every row, IS THE sha256 OF THE DUMP (.gsa) THAT YtbgmgigjogoemaaProg.lean LOADS. Nothing in Lean hashes anything: it is a label: what it is worth is what the hold of that sum in a sandbox is worth. -/
noncomputable def Try.pinned : Pinned := { name := "ytbgmgigjogoemaa", sum := "cafbd1227ac6a2833516ed9c3870814d776dedee5e96cf39e9a3aae92bc2e4ce", checked := Try.checked }
namespace Rows
def none {H : Type} : Left H := { results := [], args := [] }

/-- 'billetlaw01.VarintLays': WHATEVER THE INPUT: true; the input reads as it did. -/
def varintLaysSpec : ChangeSpec := { name := "varintLays", fn := fun _ => fun
  | [d1, d2] => { results := [.lit (.bool true)], args := [d1, d2] }
  | _ => none }
def varintLaysRow : OpenClaim := { program := "ytbgmgigjogoemaa", sum := "cafbd1227ac6a2833516ed9c3870814d776dedee5e96cf39e9a3aae92bc2e4ce", func := "billet/billetlaw01.VarintLays", spec := "varintLays", unfollowed := true, recurses := true, apart := false }
def VarintLaysSaid : Prop := varintLaysRow.holds Try.pinned (OpenSpec.ofChange varintLaysSpec)

/-- ITS FALSE NEIGHBOUR: 'it returns false'. Refute it at one input. -/
def varintLaysWrong : ChangeSpec := { name := "varintLays", fn := fun _ => fun
  | [d1, d2] => { results := [.lit (.bool false)], args := [d1, d2] }
  | _ => none }
def VarintLaysWrongFalsely : Prop := varintLaysRow.holds Try.pinned (OpenSpec.ofChange varintLaysWrong)

/-- 'billetlaw01.VarintOnce': WHATEVER THE INPUT: true; the input reads as it did. -/
def varintOnceSpec : ChangeSpec := { name := "varintOnce", fn := fun _ => fun
  | [d1, d2] => { results := [.lit (.bool true)], args := [d1, d2] }
  | _ => none }
def varintOnceRow : OpenClaim := { program := "ytbgmgigjogoemaa", sum := "cafbd1227ac6a2833516ed9c3870814d776dedee5e96cf39e9a3aae92bc2e4ce", func := "billet/billetlaw01.VarintOnce", spec := "varintOnce", unfollowed := true, recurses := true, apart := false }
def VarintOnceSaid : Prop := varintOnceRow.holds Try.pinned (OpenSpec.ofChange varintOnceSpec)

/-- ITS FALSE NEIGHBOUR: 'it returns false'. Refute it at one input. -/
def varintOnceWrong : ChangeSpec := { name := "varintOnce", fn := fun _ => fun
  | [d1, d2] => { results := [.lit (.bool false)], args := [d1, d2] }
  | _ => none }
def VarintOnceWrongFalsely : Prop := varintOnceRow.holds Try.pinned (OpenSpec.ofChange varintOnceWrong)

/-- 'billetlaw01.VarintShort': WHATEVER THE INPUT: true; the input reads as it did. -/
def varintShortSpec : ChangeSpec := { name := "varintShort", fn := fun _ => fun
  | [d] => { results := [.lit (.bool true)], args := [d] }
  | _ => none }
def varintShortRow : OpenClaim := { program := "ytbgmgigjogoemaa", sum := "cafbd1227ac6a2833516ed9c3870814d776dedee5e96cf39e9a3aae92bc2e4ce", func := "billet/billetlaw01.VarintShort", spec := "varintShort", unfollowed := true, recurses := true, apart := false }
def VarintShortSaid : Prop := varintShortRow.holds Try.pinned (OpenSpec.ofChange varintShortSpec)

/-- ITS FALSE NEIGHBOUR: 'it returns false'. Refute it at one input. -/
def varintShortWrong : ChangeSpec := { name := "varintShort", fn := fun _ => fun
  | [d] => { results := [.lit (.bool false)], args := [d] }
  | _ => none }
def VarintShortWrongFalsely : Prop := varintShortRow.holds Try.pinned (OpenSpec.ofChange varintShortWrong)

/-- 'billetlaw01.VarintLists': WHATEVER THE INPUT: true; the input reads as it did. -/
def varintListsSpec : ChangeSpec := { name := "varintLists", fn := fun _ => fun
  | [d1, d2] => { results := [.lit (.bool true)], args := [d1, d2] }
  | _ => none }
def varintListsRow : OpenClaim := { program := "ytbgmgigjogoemaa", sum := "cafbd1227ac6a2833516ed9c3870814d776dedee5e96cf39e9a3aae92bc2e4ce", func := "billet/billetlaw01.VarintLists", spec := "varintLists", unfollowed := true, recurses := true, apart := false }
def VarintListsSaid : Prop := varintListsRow.holds Try.pinned (OpenSpec.ofChange varintListsSpec)

/-- ITS FALSE NEIGHBOUR: 'it returns false'. Refute it at one input. -/
def varintListsWrong : ChangeSpec := { name := "varintLists", fn := fun _ => fun
  | [d1, d2] => { results := [.lit (.bool false)], args := [d1, d2] }
  | _ => none }
def VarintListsWrongFalsely : Prop := varintListsRow.holds Try.pinned (OpenSpec.ofChange varintListsWrong)

/-- 'billetlaw01.VarintSides': WHATEVER THE INPUT: true; the input reads as it did. -/
def varintSidesSpec : ChangeSpec := { name := "varintSides", fn := fun _ => fun
  | [d] => { results := [.lit (.bool true)], args := [d] }
  | _ => none }
def varintSidesRow : OpenClaim := { program := "ytbgmgigjogoemaa", sum := "cafbd1227ac6a2833516ed9c3870814d776dedee5e96cf39e9a3aae92bc2e4ce", func := "billet/billetlaw01.VarintSides", spec := "varintSides", unfollowed := true, recurses := true, apart := false }
def VarintSidesSaid : Prop := varintSidesRow.holds Try.pinned (OpenSpec.ofChange varintSidesSpec)

/-- ITS FALSE NEIGHBOUR: 'it returns false'. Refute it at one input. -/
def varintSidesWrong : ChangeSpec := { name := "varintSides", fn := fun _ => fun
  | [d] => { results := [.lit (.bool false)], args := [d] }
  | _ => none }
def VarintSidesWrongFalsely : Prop := varintSidesRow.holds Try.pinned (OpenSpec.ofChange varintSidesWrong)

/-- 'billetlaw01.VarintMost': WHATEVER THE INPUT: true; the input reads as it did. -/
def varintMostSpec : ChangeSpec := { name := "varintMost", fn := fun _ => fun
  | [d1, d2, d3] => { results := [.lit (.bool true)], args := [d1, d2, d3] }
  | _ => none }
def varintMostRow : OpenClaim := { program := "ytbgmgigjogoemaa", sum := "cafbd1227ac6a2833516ed9c3870814d776dedee5e96cf39e9a3aae92bc2e4ce", func := "billet/billetlaw01.VarintMost", spec := "varintMost", unfollowed := true, recurses := true, apart := false }
def VarintMostSaid : Prop := varintMostRow.holds Try.pinned (OpenSpec.ofChange varintMostSpec)

/-- ITS FALSE NEIGHBOUR: 'it returns false'. Refute it at one input. -/
def varintMostWrong : ChangeSpec := { name := "varintMost", fn := fun _ => fun
  | [d1, d2, d3] => { results := [.lit (.bool false)], args := [d1, d2, d3] }
  | _ => none }
def VarintMostWrongFalsely : Prop := varintMostRow.holds Try.pinned (OpenSpec.ofChange varintMostWrong)

/-- 'billetlaw01.VarintReads': WHATEVER THE INPUT: true; the input reads as it did. -/
def varintReadsSpec : ChangeSpec := { name := "varintReads", fn := fun _ => fun
  | [d1, d2] => { results := [.lit (.bool true)], args := [d1, d2] }
  | _ => none }
def varintReadsRow : OpenClaim := { program := "ytbgmgigjogoemaa", sum := "cafbd1227ac6a2833516ed9c3870814d776dedee5e96cf39e9a3aae92bc2e4ce", func := "billet/billetlaw01.VarintReads", spec := "varintReads", unfollowed := true, recurses := true, apart := false }
def VarintReadsSaid : Prop := varintReadsRow.holds Try.pinned (OpenSpec.ofChange varintReadsSpec)

/-- ITS FALSE NEIGHBOUR: 'it returns false'. Refute it at one input. -/
def varintReadsWrong : ChangeSpec := { name := "varintReads", fn := fun _ => fun
  | [d1, d2] => { results := [.lit (.bool false)], args := [d1, d2] }
  | _ => none }
def VarintReadsWrongFalsely : Prop := varintReadsRow.holds Try.pinned (OpenSpec.ofChange varintReadsWrong)

/-- 'billetlaw01.VarintBack': WHATEVER THE INPUT: true; the input reads as it did. -/
def varintBackSpec : ChangeSpec := { name := "varintBack", fn := fun _ => fun
  | [d1, d2] => { results := [.lit (.bool true)], args := [d1, d2] }
  | _ => none }
def varintBackRow : OpenClaim := { program := "ytbgmgigjogoemaa", sum := "cafbd1227ac6a2833516ed9c3870814d776dedee5e96cf39e9a3aae92bc2e4ce", func := "billet/billetlaw01.VarintBack", spec := "varintBack", unfollowed := true, recurses := true, apart := false }
def VarintBackSaid : Prop := varintBackRow.holds Try.pinned (OpenSpec.ofChange varintBackSpec)

/-- ITS FALSE NEIGHBOUR: 'it returns false'. Refute it at one input. -/
def varintBackWrong : ChangeSpec := { name := "varintBack", fn := fun _ => fun
  | [d1, d2] => { results := [.lit (.bool false)], args := [d1, d2] }
  | _ => none }
def VarintBackWrongFalsely : Prop := varintBackRow.holds Try.pinned (OpenSpec.ofChange varintBackWrong)

/-- 'billetlaw01.VarintBad': WHATEVER THE INPUT: true; the input reads as it did. -/
def varintBadSpec : ChangeSpec := { name := "varintBad", fn := fun _ => fun
  | [d1, d2] => { results := [.lit (.bool true)], args := [d1, d2] }
  | _ => none }
def varintBadRow : OpenClaim := { program := "ytbgmgigjogoemaa", sum := "cafbd1227ac6a2833516ed9c3870814d776dedee5e96cf39e9a3aae92bc2e4ce", func := "billet/billetlaw01.VarintBad", spec := "varintBad", unfollowed := true, recurses := true, apart := false }
def VarintBadSaid : Prop := varintBadRow.holds Try.pinned (OpenSpec.ofChange varintBadSpec)

/-- ITS FALSE NEIGHBOUR: 'it returns false'. Refute it at one input. -/
def varintBadWrong : ChangeSpec := { name := "varintBad", fn := fun _ => fun
  | [d1, d2] => { results := [.lit (.bool false)], args := [d1, d2] }
  | _ => none }
def VarintBadWrongFalsely : Prop := varintBadRow.holds Try.pinned (OpenSpec.ofChange varintBadWrong)

/-- 'billetlaw01.VarintMore': WHATEVER THE INPUT: true; the input reads as it did. -/
def varintMoreSpec : ChangeSpec := { name := "varintMore", fn := fun _ => fun
  | [d1, d2, d3] => { results := [.lit (.bool true)], args := [d1, d2, d3] }
  | _ => none }
def varintMoreRow : OpenClaim := { program := "ytbgmgigjogoemaa", sum := "cafbd1227ac6a2833516ed9c3870814d776dedee5e96cf39e9a3aae92bc2e4ce", func := "billet/billetlaw01.VarintMore", spec := "varintMore", unfollowed := true, recurses := true, apart := false }
def VarintMoreSaid : Prop := varintMoreRow.holds Try.pinned (OpenSpec.ofChange varintMoreSpec)

/-- ITS FALSE NEIGHBOUR: 'it returns false'. Refute it at one input. -/
def varintMoreWrong : ChangeSpec := { name := "varintMore", fn := fun _ => fun
  | [d1, d2, d3] => { results := [.lit (.bool false)], args := [d1, d2, d3] }
  | _ => none }
def VarintMoreWrongFalsely : Prop := varintMoreRow.holds Try.pinned (OpenSpec.ofChange varintMoreWrong)

/- THE SECOND FORM. 'bulk': how many values and letters a reading holds, each counted each time it is reached (what is shared counts as often as it is met; a slice's spare places count too). A statement '..UptoSaid' is the law's where the arguments, and the package variables that the reading takes, are together of bulk at most 1048576: NARROWER than '..Said'. Prove '..Said' where nothing that the law and all that it calls make is longer than what came in: it says more and counts as full. Else prove '..UptoSaid'. A law counts once. -/
mutual
def uptoBulk {H : Type} : DataW H → Nat
  | .lit (.string bytes) => bytes.length + 1
  | .lit _ => 1
  | .nil => 1
  | .ptr d => uptoBulk d + 1
  | .slice elems spare => uptoBulkAll elems + uptoBulkAll spare + 1
  | .agg parts => uptoBulkAll parts + 1
  | .iface _ d => uptoBulk d + 1
  | .map entries => uptoBulkEntries entries + 1
  | .held _ => 1
def uptoBulkAll {H : Type} : List (DataW H) → Nat
  | [] => 0
  | d :: r => uptoBulk d + uptoBulkAll r
def uptoBulkEntries {H : Type} : List (Lit × DataW H) → Nat
  | [] => 0
  | x :: r => uptoBulkEntry x + uptoBulkEntries r
def uptoBulkEntry {H : Type} : Lit × DataW H → Nat
  | (.string bytes, d) => bytes.length + uptoBulk d + 1
  | (_, d) => uptoBulk d + 1
 end
def uptoSmall : (H : Type) → List (DataW H) → Bool := fun _ ds => decide (uptoBulkAll ds ≤ 1048576)
def OpenSpec.upto (s : _root_.Go.ChangeSpec) : _root_.Go.OpenSpec := { _root_.Go.OpenSpec.ofChange s with cond := some uptoSmall }

/-- 'billetlaw01.VarintLays', WHERE WHAT IT READS IS OF BULK AT MOST 1048576: true; the input reads as it did. -/
def varintLaysUptoRow : OpenClaim := { program := "ytbgmgigjogoemaa", sum := "cafbd1227ac6a2833516ed9c3870814d776dedee5e96cf39e9a3aae92bc2e4ce", func := "billet/billetlaw01.VarintLays", spec := "varintLays", unfollowed := true, recurses := true, apart := false, narrowed := true }
def VarintLaysUptoSaid : Prop := varintLaysUptoRow.holds Try.pinned (OpenSpec.upto varintLaysSpec)

/-- 'billetlaw01.VarintOnce', WHERE WHAT IT READS IS OF BULK AT MOST 1048576: true; the input reads as it did. -/
def varintOnceUptoRow : OpenClaim := { program := "ytbgmgigjogoemaa", sum := "cafbd1227ac6a2833516ed9c3870814d776dedee5e96cf39e9a3aae92bc2e4ce", func := "billet/billetlaw01.VarintOnce", spec := "varintOnce", unfollowed := true, recurses := true, apart := false, narrowed := true }
def VarintOnceUptoSaid : Prop := varintOnceUptoRow.holds Try.pinned (OpenSpec.upto varintOnceSpec)

/-- 'billetlaw01.VarintShort', WHERE WHAT IT READS IS OF BULK AT MOST 1048576: true; the input reads as it did. -/
def varintShortUptoRow : OpenClaim := { program := "ytbgmgigjogoemaa", sum := "cafbd1227ac6a2833516ed9c3870814d776dedee5e96cf39e9a3aae92bc2e4ce", func := "billet/billetlaw01.VarintShort", spec := "varintShort", unfollowed := true, recurses := true, apart := false, narrowed := true }
def VarintShortUptoSaid : Prop := varintShortUptoRow.holds Try.pinned (OpenSpec.upto varintShortSpec)

/-- 'billetlaw01.VarintLists', WHERE WHAT IT READS IS OF BULK AT MOST 1048576: true; the input reads as it did. -/
def varintListsUptoRow : OpenClaim := { program := "ytbgmgigjogoemaa", sum := "cafbd1227ac6a2833516ed9c3870814d776dedee5e96cf39e9a3aae92bc2e4ce", func := "billet/billetlaw01.VarintLists", spec := "varintLists", unfollowed := true, recurses := true, apart := false, narrowed := true }
def VarintListsUptoSaid : Prop := varintListsUptoRow.holds Try.pinned (OpenSpec.upto varintListsSpec)

/-- 'billetlaw01.VarintSides', WHERE WHAT IT READS IS OF BULK AT MOST 1048576: true; the input reads as it did. -/
def varintSidesUptoRow : OpenClaim := { program := "ytbgmgigjogoemaa", sum := "cafbd1227ac6a2833516ed9c3870814d776dedee5e96cf39e9a3aae92bc2e4ce", func := "billet/billetlaw01.VarintSides", spec := "varintSides", unfollowed := true, recurses := true, apart := false, narrowed := true }
def VarintSidesUptoSaid : Prop := varintSidesUptoRow.holds Try.pinned (OpenSpec.upto varintSidesSpec)

/-- 'billetlaw01.VarintMost', WHERE WHAT IT READS IS OF BULK AT MOST 1048576: true; the input reads as it did. -/
def varintMostUptoRow : OpenClaim := { program := "ytbgmgigjogoemaa", sum := "cafbd1227ac6a2833516ed9c3870814d776dedee5e96cf39e9a3aae92bc2e4ce", func := "billet/billetlaw01.VarintMost", spec := "varintMost", unfollowed := true, recurses := true, apart := false, narrowed := true }
def VarintMostUptoSaid : Prop := varintMostUptoRow.holds Try.pinned (OpenSpec.upto varintMostSpec)

/-- 'billetlaw01.VarintReads', WHERE WHAT IT READS IS OF BULK AT MOST 1048576: true; the input reads as it did. -/
def varintReadsUptoRow : OpenClaim := { program := "ytbgmgigjogoemaa", sum := "cafbd1227ac6a2833516ed9c3870814d776dedee5e96cf39e9a3aae92bc2e4ce", func := "billet/billetlaw01.VarintReads", spec := "varintReads", unfollowed := true, recurses := true, apart := false, narrowed := true }
def VarintReadsUptoSaid : Prop := varintReadsUptoRow.holds Try.pinned (OpenSpec.upto varintReadsSpec)

/-- 'billetlaw01.VarintBack', WHERE WHAT IT READS IS OF BULK AT MOST 1048576: true; the input reads as it did. -/
def varintBackUptoRow : OpenClaim := { program := "ytbgmgigjogoemaa", sum := "cafbd1227ac6a2833516ed9c3870814d776dedee5e96cf39e9a3aae92bc2e4ce", func := "billet/billetlaw01.VarintBack", spec := "varintBack", unfollowed := true, recurses := true, apart := false, narrowed := true }
def VarintBackUptoSaid : Prop := varintBackUptoRow.holds Try.pinned (OpenSpec.upto varintBackSpec)

/-- 'billetlaw01.VarintBad', WHERE WHAT IT READS IS OF BULK AT MOST 1048576: true; the input reads as it did. -/
def varintBadUptoRow : OpenClaim := { program := "ytbgmgigjogoemaa", sum := "cafbd1227ac6a2833516ed9c3870814d776dedee5e96cf39e9a3aae92bc2e4ce", func := "billet/billetlaw01.VarintBad", spec := "varintBad", unfollowed := true, recurses := true, apart := false, narrowed := true }
def VarintBadUptoSaid : Prop := varintBadUptoRow.holds Try.pinned (OpenSpec.upto varintBadSpec)

/-- 'billetlaw01.VarintMore', WHERE WHAT IT READS IS OF BULK AT MOST 1048576: true; the input reads as it did. -/
def varintMoreUptoRow : OpenClaim := { program := "ytbgmgigjogoemaa", sum := "cafbd1227ac6a2833516ed9c3870814d776dedee5e96cf39e9a3aae92bc2e4ce", func := "billet/billetlaw01.VarintMore", spec := "varintMore", unfollowed := true, recurses := true, apart := false, narrowed := true }
def VarintMoreUptoSaid : Prop := varintMoreUptoRow.holds Try.pinned (OpenSpec.upto varintMoreSpec)

end Rows
end Go.Proofs.Ytbgmgigjogoemaa
