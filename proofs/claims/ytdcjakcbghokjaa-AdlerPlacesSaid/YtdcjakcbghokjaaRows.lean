/-
  No cell of these rows narrows 'for every input' (looked for: loops, veiled, ifaces, maps, wideKeys, modest, calm, conditions, laid).
  DERIVED. THE GIVEN ROWS OF THIS SEAT. 7 by the template 'for every input the law returns true; each argument reads behind the call as it read before'; 0 by the template 'total and deterministic' (their statements: YtdcjakcbghokjaaTotals.lean).
  GIVEN WITH THE SEED: the statements are not yours to turn. If you find one false, say at which input.
  Laid BY PROGRAM, IN A SANDBOX (cutbox-rows.mjs): the forced cells as the released guide's own fill.sh prints them over the translation f8805f57657e22f9… (all of the seat's roots in one cut). By AI agents, Wed Nov 11 2026. No macro, syntax, notation, axiom, sorry.
-/
import Derived.Test.YtdcjakcbghokjaaChecked
import GoSem.Claim
import GoSem.ClaimJoined
import GoSem.ClaimMapViews
import Derived.JoinedTies
import Derived.KernelRfl
namespace Go.Proofs.Ytdcjakcbghokjaa
/- THE CELL 'sum', in the pinned program and in every row, IS THE sha256 OF THE DUMP (.gsa) THAT YtdcjakcbghokjaaProg.lean LOADS. Nothing in Lean hashes anything: it is a label: what it is worth is what the hold of that sum in a sandbox is worth. -/
noncomputable def Try.pinned : Pinned := { name := "ytdcjakcbghokjaa", sum := "f8805f57657e22f92fba341280a9058de0d840deb9a4b4e4377fed3f648ffa85", checked := Try.checked }
namespace Rows
def none {H : Type} : Left H := { results := [], args := [] }

/-- 'billetlaw02.AdlerRolls': WHATEVER THE INPUT: true; the input reads as it did. -/
def adlerRollsSpec : ChangeSpec := { name := "adlerRolls", fn := fun _ => fun
  | [d1, d2] => { results := [.lit (.bool true)], args := [d1, d2] }
  | _ => none }
def adlerRollsRow : OpenClaim := { program := "ytdcjakcbghokjaa", sum := "f8805f57657e22f92fba341280a9058de0d840deb9a4b4e4377fed3f648ffa85", func := "billet/billetlaw02.AdlerRolls", spec := "adlerRolls", apart := false }
def AdlerRollsSaid : Prop := adlerRollsRow.holds Try.pinned (OpenSpec.ofChange adlerRollsSpec)

/-- ITS FALSE NEIGHBOUR: 'it returns false'. Refute it at one input. -/
def adlerRollsWrong : ChangeSpec := { name := "adlerRolls", fn := fun _ => fun
  | [d1, d2] => { results := [.lit (.bool false)], args := [d1, d2] }
  | _ => none }
def AdlerRollsWrongFalsely : Prop := adlerRollsRow.holds Try.pinned (OpenSpec.ofChange adlerRollsWrong)

/-- 'billetlaw02.AdlerOne': WHATEVER THE INPUT: true; the input reads as it did. -/
def adlerOneSpec : ChangeSpec := { name := "adlerOne", fn := fun _ => fun
  | [d1, d2, d3] => { results := [.lit (.bool true)], args := [d1, d2, d3] }
  | _ => none }
def adlerOneRow : OpenClaim := { program := "ytdcjakcbghokjaa", sum := "f8805f57657e22f92fba341280a9058de0d840deb9a4b4e4377fed3f648ffa85", func := "billet/billetlaw02.AdlerOne", spec := "adlerOne", apart := false }
def AdlerOneSaid : Prop := adlerOneRow.holds Try.pinned (OpenSpec.ofChange adlerOneSpec)

/-- ITS FALSE NEIGHBOUR: 'it returns false'. Refute it at one input. -/
def adlerOneWrong : ChangeSpec := { name := "adlerOne", fn := fun _ => fun
  | [d1, d2, d3] => { results := [.lit (.bool false)], args := [d1, d2, d3] }
  | _ => none }
def AdlerOneWrongFalsely : Prop := adlerOneRow.holds Try.pinned (OpenSpec.ofChange adlerOneWrong)

/-- 'billetlaw02.AdlerPlaces': WHATEVER THE INPUT: true; the input reads as it did. -/
def adlerPlacesSpec : ChangeSpec := { name := "adlerPlaces", fn := fun _ => fun
  | [d1, d2] => { results := [.lit (.bool true)], args := [d1, d2] }
  | _ => none }
def adlerPlacesRow : OpenClaim := { program := "ytdcjakcbghokjaa", sum := "f8805f57657e22f92fba341280a9058de0d840deb9a4b4e4377fed3f648ffa85", func := "billet/billetlaw02.AdlerPlaces", spec := "adlerPlaces", apart := false }
def AdlerPlacesSaid : Prop := adlerPlacesRow.holds Try.pinned (OpenSpec.ofChange adlerPlacesSpec)

/-- ITS FALSE NEIGHBOUR: 'it returns false'. Refute it at one input. -/
def adlerPlacesWrong : ChangeSpec := { name := "adlerPlaces", fn := fun _ => fun
  | [d1, d2] => { results := [.lit (.bool false)], args := [d1, d2] }
  | _ => none }
def AdlerPlacesWrongFalsely : Prop := adlerPlacesRow.holds Try.pinned (OpenSpec.ofChange adlerPlacesWrong)

/-- 'billetlaw02.AdlerBack': WHATEVER THE INPUT: true; the input reads as it did. -/
def adlerBackSpec : ChangeSpec := { name := "adlerBack", fn := fun _ => fun
  | [d1, d2, d3, d4, d5] => { results := [.lit (.bool true)], args := [d1, d2, d3, d4, d5] }
  | _ => none }
def adlerBackRow : OpenClaim := { program := "ytdcjakcbghokjaa", sum := "f8805f57657e22f92fba341280a9058de0d840deb9a4b4e4377fed3f648ffa85", func := "billet/billetlaw02.AdlerBack", spec := "adlerBack", unfollowed := true, recurses := true, apart := false }
def AdlerBackSaid : Prop := adlerBackRow.holds Try.pinned (OpenSpec.ofChange adlerBackSpec)

/-- ITS FALSE NEIGHBOUR: 'it returns false'. Refute it at one input. -/
def adlerBackWrong : ChangeSpec := { name := "adlerBack", fn := fun _ => fun
  | [d1, d2, d3, d4, d5] => { results := [.lit (.bool false)], args := [d1, d2, d3, d4, d5] }
  | _ => none }
def AdlerBackWrongFalsely : Prop := adlerBackRow.holds Try.pinned (OpenSpec.ofChange adlerBackWrong)

/-- 'billetlaw02.AdlerTells': WHATEVER THE INPUT: true; the input reads as it did. -/
def adlerTellsSpec : ChangeSpec := { name := "adlerTells", fn := fun _ => fun
  | [d1, d2, d3, d4, d5, d6] => { results := [.lit (.bool true)], args := [d1, d2, d3, d4, d5, d6] }
  | _ => none }
def adlerTellsRow : OpenClaim := { program := "ytdcjakcbghokjaa", sum := "f8805f57657e22f92fba341280a9058de0d840deb9a4b4e4377fed3f648ffa85", func := "billet/billetlaw02.AdlerTells", spec := "adlerTells", apart := false }
def AdlerTellsSaid : Prop := adlerTellsRow.holds Try.pinned (OpenSpec.ofChange adlerTellsSpec)

/-- ITS FALSE NEIGHBOUR: 'it returns false'. Refute it at one input. -/
def adlerTellsWrong : ChangeSpec := { name := "adlerTells", fn := fun _ => fun
  | [d1, d2, d3, d4, d5, d6] => { results := [.lit (.bool false)], args := [d1, d2, d3, d4, d5, d6] }
  | _ => none }
def AdlerTellsWrongFalsely : Prop := adlerTellsRow.holds Try.pinned (OpenSpec.ofChange adlerTellsWrong)

/-- 'billetlaw02.AdlerJoins': WHATEVER THE INPUT: true; the input reads as it did. -/
def adlerJoinsSpec : ChangeSpec := { name := "adlerJoins", fn := fun _ => fun
  | [d1, d2] => { results := [.lit (.bool true)], args := [d1, d2] }
  | _ => none }
def adlerJoinsRow : OpenClaim := { program := "ytdcjakcbghokjaa", sum := "f8805f57657e22f92fba341280a9058de0d840deb9a4b4e4377fed3f648ffa85", func := "billet/billetlaw02.AdlerJoins", spec := "adlerJoins", apart := false }
def AdlerJoinsSaid : Prop := adlerJoinsRow.holds Try.pinned (OpenSpec.ofChange adlerJoinsSpec)

/-- ITS FALSE NEIGHBOUR: 'it returns false'. Refute it at one input. -/
def adlerJoinsWrong : ChangeSpec := { name := "adlerJoins", fn := fun _ => fun
  | [d1, d2] => { results := [.lit (.bool false)], args := [d1, d2] }
  | _ => none }
def AdlerJoinsWrongFalsely : Prop := adlerJoinsRow.holds Try.pinned (OpenSpec.ofChange adlerJoinsWrong)

/-- 'billetlaw02.AdlerGroups': WHATEVER THE INPUT: true; the input reads as it did. -/
def adlerGroupsSpec : ChangeSpec := { name := "adlerGroups", fn := fun _ => fun
  | [d1, d2, d3] => { results := [.lit (.bool true)], args := [d1, d2, d3] }
  | _ => none }
def adlerGroupsRow : OpenClaim := { program := "ytdcjakcbghokjaa", sum := "f8805f57657e22f92fba341280a9058de0d840deb9a4b4e4377fed3f648ffa85", func := "billet/billetlaw02.AdlerGroups", spec := "adlerGroups", apart := false }
def AdlerGroupsSaid : Prop := adlerGroupsRow.holds Try.pinned (OpenSpec.ofChange adlerGroupsSpec)

/-- ITS FALSE NEIGHBOUR: 'it returns false'. Refute it at one input. -/
def adlerGroupsWrong : ChangeSpec := { name := "adlerGroups", fn := fun _ => fun
  | [d1, d2, d3] => { results := [.lit (.bool false)], args := [d1, d2, d3] }
  | _ => none }
def AdlerGroupsWrongFalsely : Prop := adlerGroupsRow.holds Try.pinned (OpenSpec.ofChange adlerGroupsWrong)

/- THE SECOND FORM. 'bulk': how many values and letters a reading holds, each counted each time it is reached (what is shared counts as often as it is met; a slice's spare places count too). A statement '..UptoSaid' is the law's where the arguments, and the package variables that the reading takes, are together of bulk at most 1048576: NARROWER than '..Said'. Prove '..Said' where nothing that the law and all that it calls make is longer than what came in: it says more and counts as full. Else prove '..UptoSaid'. A law counts once. -/
mutual
def uptoBulk {H : Type} : DataW H → Nat
  | .lit (.string bytes) => bytes.length + 1
  | .lit _ => 1
  | .nil => 1
  | .ptr d => uptoBulk d + 1
  | .slice elems spare => uptoBulkAll elems + uptoBulkAll spare + 1
  | .agg parts => uptoBulkAll parts + 1
  | .iface _ d => uptoBulk d + 1
  | .map entries => uptoBulkEntries entries + 1
  | .held _ => 1
def uptoBulkAll {H : Type} : List (DataW H) → Nat
  | [] => 0
  | d :: r => uptoBulk d + uptoBulkAll r
def uptoBulkEntries {H : Type} : List (Lit × DataW H) → Nat
  | [] => 0
  | x :: r => uptoBulkEntry x + uptoBulkEntries r
def uptoBulkEntry {H : Type} : Lit × DataW H → Nat
  | (.string bytes, d) => bytes.length + uptoBulk d + 1
  | (_, d) => uptoBulk d + 1
 end
def uptoSmall : (H : Type) → List (DataW H) → Bool := fun _ ds => decide (uptoBulkAll ds ≤ 1048576)
def OpenSpec.upto (s : _root_.Go.ChangeSpec) : _root_.Go.OpenSpec := { _root_.Go.OpenSpec.ofChange s with cond := some uptoSmall }

/-- 'billetlaw02.AdlerRolls', WHERE WHAT IT READS IS OF BULK AT MOST 1048576: true; the input reads as it did. -/
def adlerRollsUptoRow : OpenClaim := { program := "ytdcjakcbghokjaa", sum := "f8805f57657e22f92fba341280a9058de0d840deb9a4b4e4377fed3f648ffa85", func := "billet/billetlaw02.AdlerRolls", spec := "adlerRolls", apart := false, narrowed := true }
def AdlerRollsUptoSaid : Prop := adlerRollsUptoRow.holds Try.pinned (OpenSpec.upto adlerRollsSpec)

/-- 'billetlaw02.AdlerOne', WHERE WHAT IT READS IS OF BULK AT MOST 1048576: true; the input reads as it did. -/
def adlerOneUptoRow : OpenClaim := { program := "ytdcjakcbghokjaa", sum := "f8805f57657e22f92fba341280a9058de0d840deb9a4b4e4377fed3f648ffa85", func := "billet/billetlaw02.AdlerOne", spec := "adlerOne", apart := false, narrowed := true }
def AdlerOneUptoSaid : Prop := adlerOneUptoRow.holds Try.pinned (OpenSpec.upto adlerOneSpec)

/-- 'billetlaw02.AdlerPlaces', WHERE WHAT IT READS IS OF BULK AT MOST 1048576: true; the input reads as it did. -/
def adlerPlacesUptoRow : OpenClaim := { program := "ytdcjakcbghokjaa", sum := "f8805f57657e22f92fba341280a9058de0d840deb9a4b4e4377fed3f648ffa85", func := "billet/billetlaw02.AdlerPlaces", spec := "adlerPlaces", apart := false, narrowed := true }
def AdlerPlacesUptoSaid : Prop := adlerPlacesUptoRow.holds Try.pinned (OpenSpec.upto adlerPlacesSpec)

/-- 'billetlaw02.AdlerBack', WHERE WHAT IT READS IS OF BULK AT MOST 1048576: true; the input reads as it did. -/
def adlerBackUptoRow : OpenClaim := { program := "ytdcjakcbghokjaa", sum := "f8805f57657e22f92fba341280a9058de0d840deb9a4b4e4377fed3f648ffa85", func := "billet/billetlaw02.AdlerBack", spec := "adlerBack", unfollowed := true, recurses := true, apart := false, narrowed := true }
def AdlerBackUptoSaid : Prop := adlerBackUptoRow.holds Try.pinned (OpenSpec.upto adlerBackSpec)

/-- 'billetlaw02.AdlerTells', WHERE WHAT IT READS IS OF BULK AT MOST 1048576: true; the input reads as it did. -/
def adlerTellsUptoRow : OpenClaim := { program := "ytdcjakcbghokjaa", sum := "f8805f57657e22f92fba341280a9058de0d840deb9a4b4e4377fed3f648ffa85", func := "billet/billetlaw02.AdlerTells", spec := "adlerTells", apart := false, narrowed := true }
def AdlerTellsUptoSaid : Prop := adlerTellsUptoRow.holds Try.pinned (OpenSpec.upto adlerTellsSpec)

/-- 'billetlaw02.AdlerJoins', WHERE WHAT IT READS IS OF BULK AT MOST 1048576: true; the input reads as it did. -/
def adlerJoinsUptoRow : OpenClaim := { program := "ytdcjakcbghokjaa", sum := "f8805f57657e22f92fba341280a9058de0d840deb9a4b4e4377fed3f648ffa85", func := "billet/billetlaw02.AdlerJoins", spec := "adlerJoins", apart := false, narrowed := true }
def AdlerJoinsUptoSaid : Prop := adlerJoinsUptoRow.holds Try.pinned (OpenSpec.upto adlerJoinsSpec)

/-- 'billetlaw02.AdlerGroups', WHERE WHAT IT READS IS OF BULK AT MOST 1048576: true; the input reads as it did. -/
def adlerGroupsUptoRow : OpenClaim := { program := "ytdcjakcbghokjaa", sum := "f8805f57657e22f92fba341280a9058de0d840deb9a4b4e4377fed3f648ffa85", func := "billet/billetlaw02.AdlerGroups", spec := "adlerGroups", apart := false, narrowed := true }
def AdlerGroupsUptoSaid : Prop := adlerGroupsUptoRow.holds Try.pinned (OpenSpec.upto adlerGroupsSpec)

end Rows
end Go.Proofs.Ytdcjakcbghokjaa
