/-
  DERIVED. GIVEN WITH THE SEED: THE CARDS: each row of YtldlkbjbfgieeaaGreatDoorRows.lean that lists a variable, with what it lists TIED to the program's text (the seventh form; the later family's looks); each row that meets fmt, with fmt's text TOLD by the authors' own Lean function (tested against real Go, not proved from fmt's source: count such statements apart). THE CARD IS WHAT COUNTS. Prove the row's statement (the work); the ties are given (YtldlkbjbfgieeaaGreatDoorTie.lean); close each card by the builder's one call (the guide's Derived/Test/ToyasCard.lean, 'card_holds'). Laid BY PROGRAM, IN A SANDBOX (cutbox-door.mjs). By AI agents, Wed Nov 11 2026. No macro, syntax, notation, axiom, sorry.
-/
import Derived.Test.YtldlkbjbfgieeaaGreatDoorRows
import GoSem.ClaimSeven
namespace Go.Proofs.YtldlkbjbfgieeaaGreatDoor
namespace Rows

/-- THE TIED CARD OF 'billetlaw12.IntentStays'. -/
def intentStaysCard : Claim7 := { stood := { row := intentStaysRow, standIns := [], harness := (true, "951782a1bf3ca3e6604be996b741ba8255983dd3c4aedb2bb9cb3ae5c8031ddd"), looks := false }, kinds := [], alts := [], laidByText := true, laidKinds := [.data, .pinned], laidTests := true, laidLooks := .later }
def IntentStaysCardSaid : Prop := Claim7.holds Tryz.pinned (.plain (OpenSpec.ofChange intentStaysSpec)) intentStaysCard

/-- THE TIED CARD OF 'billetlaw12.IntentUndoes'. -/
def intentUndoesCard : Claim7 := { stood := { row := intentUndoesRow, standIns := [], harness := (true, "951782a1bf3ca3e6604be996b741ba8255983dd3c4aedb2bb9cb3ae5c8031ddd"), looks := false }, kinds := [], alts := [], laidByText := true, laidKinds := [.data, .pinned], laidTests := true, laidLooks := .later }
def IntentUndoesCardSaid : Prop := Claim7.holds Tryz.pinned (.plain (OpenSpec.ofChange intentUndoesSpec)) intentUndoesCard

/-- THE TIED CARD OF 'billetlaw12.IntentOrder'. -/
def intentOrderCard : Claim7 := { stood := { row := intentOrderRow, standIns := [], harness := (true, "951782a1bf3ca3e6604be996b741ba8255983dd3c4aedb2bb9cb3ae5c8031ddd"), looks := false }, kinds := [], alts := [], laidByText := true, laidKinds := [.data, .pinned], laidTests := true, laidLooks := .later }
def IntentOrderCardSaid : Prop := Claim7.holds Tryz.pinned (.plain (OpenSpec.ofChange intentOrderSpec)) intentOrderCard

/-- THE TIED CARD OF 'billetlaw12.IntentMap'. -/
def intentMapCard : Claim7 := { stood := { row := intentMapRow, standIns := [], harness := (true, "951782a1bf3ca3e6604be996b741ba8255983dd3c4aedb2bb9cb3ae5c8031ddd"), looks := false }, kinds := [], alts := [], laidByText := true, laidKinds := [.data, .pinned], laidTests := true, laidLooks := .later }
def IntentMapCardSaid : Prop := Claim7.holds Tryz.pinned (.plain (OpenSpec.ofChange intentMapSpec)) intentMapCard

/-- THE TIED CARD OF 'billetlaw12.IntentTwice'. -/
def intentTwiceCard : Claim7 := { stood := { row := intentTwiceRow, standIns := [], harness := (true, "951782a1bf3ca3e6604be996b741ba8255983dd3c4aedb2bb9cb3ae5c8031ddd"), looks := false }, kinds := [], alts := [], laidByText := true, laidKinds := [.data, .pinned], laidTests := true, laidLooks := .later }
def IntentTwiceCardSaid : Prop := Claim7.holds Tryz.pinned (.plain (OpenSpec.ofChange intentTwiceSpec)) intentTwiceCard

/-- THE TIED CARD OF 'billetlaw12.IntentTells'. -/
def intentTellsCard : Claim7 := { stood := { row := intentTellsRow, standIns := [], harness := (true, "951782a1bf3ca3e6604be996b741ba8255983dd3c4aedb2bb9cb3ae5c8031ddd"), looks := false }, kinds := [], alts := [], laidByText := true, laidKinds := [.data, .pinned], laidTests := true, laidLooks := .later }
def IntentTellsCardSaid : Prop := Claim7.holds Tryz.pinned (.plain (OpenSpec.ofChange intentTellsSpec)) intentTellsCard

/-- THE TIED CARD OF 'billetlaw12.IntentPlays'. -/
def intentPlaysCard : Claim7 := { stood := { row := intentPlaysRow, standIns := [], harness := (true, "951782a1bf3ca3e6604be996b741ba8255983dd3c4aedb2bb9cb3ae5c8031ddd"), looks := false }, kinds := [], alts := [], laidByText := true, laidKinds := [.data, .pinned], laidTests := true, laidLooks := .later }
def IntentPlaysCardSaid : Prop := Claim7.holds Tryz.pinned (.plain (OpenSpec.ofChange intentPlaysSpec)) intentPlaysCard

/-- THE TIED CARD OF 'billetlaw12.IntentBack'. -/
def intentBackCard : Claim7 := { stood := { row := intentBackRow, standIns := [], harness := (true, "951782a1bf3ca3e6604be996b741ba8255983dd3c4aedb2bb9cb3ae5c8031ddd"), looks := false }, kinds := [], alts := [], laidByText := true, laidKinds := [.data, .pinned], laidTests := true, laidLooks := .later }
def IntentBackCardSaid : Prop := Claim7.holds Tryz.pinned (.plain (OpenSpec.ofChange intentBackSpec)) intentBackCard

/-- THE SECOND FORM's CARD OF 'billetlaw12.IntentStays'. -/
def intentStaysUptoCard : Claim7 := { stood := { row := intentStaysUptoRow, standIns := [], harness := (true, "951782a1bf3ca3e6604be996b741ba8255983dd3c4aedb2bb9cb3ae5c8031ddd"), looks := false }, kinds := [], alts := [], laidByText := true, laidKinds := [.data, .pinned], laidTests := true, laidLooks := .later }
def IntentStaysUptoCardSaid : Prop := Claim7.holds Tryz.pinned (.plain (OpenSpec.upto intentStaysSpec)) intentStaysUptoCard

/-- THE SECOND FORM's CARD OF 'billetlaw12.IntentUndoes'. -/
def intentUndoesUptoCard : Claim7 := { stood := { row := intentUndoesUptoRow, standIns := [], harness := (true, "951782a1bf3ca3e6604be996b741ba8255983dd3c4aedb2bb9cb3ae5c8031ddd"), looks := false }, kinds := [], alts := [], laidByText := true, laidKinds := [.data, .pinned], laidTests := true, laidLooks := .later }
def IntentUndoesUptoCardSaid : Prop := Claim7.holds Tryz.pinned (.plain (OpenSpec.upto intentUndoesSpec)) intentUndoesUptoCard

/-- THE SECOND FORM's CARD OF 'billetlaw12.IntentOrder'. -/
def intentOrderUptoCard : Claim7 := { stood := { row := intentOrderUptoRow, standIns := [], harness := (true, "951782a1bf3ca3e6604be996b741ba8255983dd3c4aedb2bb9cb3ae5c8031ddd"), looks := false }, kinds := [], alts := [], laidByText := true, laidKinds := [.data, .pinned], laidTests := true, laidLooks := .later }
def IntentOrderUptoCardSaid : Prop := Claim7.holds Tryz.pinned (.plain (OpenSpec.upto intentOrderSpec)) intentOrderUptoCard

/-- THE SECOND FORM's CARD OF 'billetlaw12.IntentMap'. -/
def intentMapUptoCard : Claim7 := { stood := { row := intentMapUptoRow, standIns := [], harness := (true, "951782a1bf3ca3e6604be996b741ba8255983dd3c4aedb2bb9cb3ae5c8031ddd"), looks := false }, kinds := [], alts := [], laidByText := true, laidKinds := [.data, .pinned], laidTests := true, laidLooks := .later }
def IntentMapUptoCardSaid : Prop := Claim7.holds Tryz.pinned (.plain (OpenSpec.upto intentMapSpec)) intentMapUptoCard

/-- THE SECOND FORM's CARD OF 'billetlaw12.IntentTwice'. -/
def intentTwiceUptoCard : Claim7 := { stood := { row := intentTwiceUptoRow, standIns := [], harness := (true, "951782a1bf3ca3e6604be996b741ba8255983dd3c4aedb2bb9cb3ae5c8031ddd"), looks := false }, kinds := [], alts := [], laidByText := true, laidKinds := [.data, .pinned], laidTests := true, laidLooks := .later }
def IntentTwiceUptoCardSaid : Prop := Claim7.holds Tryz.pinned (.plain (OpenSpec.upto intentTwiceSpec)) intentTwiceUptoCard

/-- THE SECOND FORM's CARD OF 'billetlaw12.IntentTells'. -/
def intentTellsUptoCard : Claim7 := { stood := { row := intentTellsUptoRow, standIns := [], harness := (true, "951782a1bf3ca3e6604be996b741ba8255983dd3c4aedb2bb9cb3ae5c8031ddd"), looks := false }, kinds := [], alts := [], laidByText := true, laidKinds := [.data, .pinned], laidTests := true, laidLooks := .later }
def IntentTellsUptoCardSaid : Prop := Claim7.holds Tryz.pinned (.plain (OpenSpec.upto intentTellsSpec)) intentTellsUptoCard

/-- THE SECOND FORM's CARD OF 'billetlaw12.IntentPlays'. -/
def intentPlaysUptoCard : Claim7 := { stood := { row := intentPlaysUptoRow, standIns := [], harness := (true, "951782a1bf3ca3e6604be996b741ba8255983dd3c4aedb2bb9cb3ae5c8031ddd"), looks := false }, kinds := [], alts := [], laidByText := true, laidKinds := [.data, .pinned], laidTests := true, laidLooks := .later }
def IntentPlaysUptoCardSaid : Prop := Claim7.holds Tryz.pinned (.plain (OpenSpec.upto intentPlaysSpec)) intentPlaysUptoCard

/-- THE SECOND FORM's CARD OF 'billetlaw12.IntentBack'. -/
def intentBackUptoCard : Claim7 := { stood := { row := intentBackUptoRow, standIns := [], harness := (true, "951782a1bf3ca3e6604be996b741ba8255983dd3c4aedb2bb9cb3ae5c8031ddd"), looks := false }, kinds := [], alts := [], laidByText := true, laidKinds := [.data, .pinned], laidTests := true, laidLooks := .later }
def IntentBackUptoCardSaid : Prop := Claim7.holds Tryz.pinned (.plain (OpenSpec.upto intentBackSpec)) intentBackUptoCard
end Rows
end Go.Proofs.YtldlkbjbfgieeaaGreatDoor
