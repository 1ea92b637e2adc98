/-
  DERIVED. GIVEN WITH THE SEED: THE CARDS: each row of YtdgaancbeakfdaaDoorRows.lean that lists a variable, with what it lists TIED to the program's text (the seventh form; the later family's looks); each row that meets fmt, with fmt's text TOLD by the authors' own Lean function (tested against real Go, not proved from fmt's source: count such statements apart). THE CARD IS WHAT COUNTS. Prove the row's statement (the work); the ties are given (YtdgaancbeakfdaaDoorTie.lean); close each card by the builder's one call (the guide's Derived/Test/ToyasCard.lean, 'card_holds'). Laid BY PROGRAM, IN A SANDBOX (cutbox-door.mjs). By AI agents, Wed Nov 11 2026. No macro, syntax, notation, axiom, sorry.
-/
import Derived.Test.YtdgaancbeakfdaaDoorRows
import GoSem.ClaimSeven
namespace Go.Proofs.YtdgaancbeakfdaaDoor
namespace Rows

/-- THE TIED CARD OF 'billetlaw16.MsgTells'. -/
def msgTellsCard : Claim7 := { stood := { row := msgTellsRow, standIns := [], harness := (true, "c0345a7d2a4a366ec7bc746894cae8ccedca7689744779a578791e07f182d5c7"), looks := false }, kinds := [], alts := [], laidByText := true, laidKinds := [.data, .pinned], laidTests := true, laidLooks := .later }
def MsgTellsCardSaid : Prop := Claim7.holds Tryd.pinned (.plain (OpenSpec.ofChange msgTellsSpec)) msgTellsCard

/-- THE TIED CARD OF 'billetlaw16.MsgBack'. -/
def msgBackCard : Claim7 := { stood := { row := msgBackRow, standIns := [], harness := (true, "c0345a7d2a4a366ec7bc746894cae8ccedca7689744779a578791e07f182d5c7"), looks := false }, kinds := [], alts := [], laidByText := true, laidKinds := [.data, .pinned], laidTests := true, laidLooks := .later }
def MsgBackCardSaid : Prop := Claim7.holds Tryd.pinned (.plain (OpenSpec.ofChange msgBackSpec)) msgBackCard

/-- THE TIED CARD OF 'billetlaw16.MsgWhole'. -/
def msgWholeCard : Claim7 := { stood := { row := msgWholeRow, standIns := [], harness := (true, "c0345a7d2a4a366ec7bc746894cae8ccedca7689744779a578791e07f182d5c7"), looks := false }, kinds := [], alts := [], laidByText := true, laidKinds := [.data, .pinned], laidTests := true, laidLooks := .later }
def MsgWholeCardSaid : Prop := Claim7.holds Tryd.pinned (.plain (OpenSpec.ofChange msgWholeSpec)) msgWholeCard

/-- THE TIED CARD OF 'billetlaw16.MsgShort'. -/
def msgShortCard : Claim7 := { stood := { row := msgShortRow, standIns := [], harness := (true, "c0345a7d2a4a366ec7bc746894cae8ccedca7689744779a578791e07f182d5c7"), looks := false }, kinds := [], alts := [], laidByText := true, laidKinds := [.data, .pinned], laidTests := true, laidLooks := .later }
def MsgShortCardSaid : Prop := Claim7.holds Tryd.pinned (.plain (OpenSpec.ofChange msgShortSpec)) msgShortCard

/-- THE SECOND FORM's CARD OF 'billetlaw16.MsgTells'. -/
def msgTellsUptoCard : Claim7 := { stood := { row := msgTellsUptoRow, standIns := [], harness := (true, "c0345a7d2a4a366ec7bc746894cae8ccedca7689744779a578791e07f182d5c7"), looks := false }, kinds := [], alts := [], laidByText := true, laidKinds := [.data, .pinned], laidTests := true, laidLooks := .later }
def MsgTellsUptoCardSaid : Prop := Claim7.holds Tryd.pinned (.plain (OpenSpec.upto msgTellsSpec)) msgTellsUptoCard

/-- THE SECOND FORM's CARD OF 'billetlaw16.MsgBack'. -/
def msgBackUptoCard : Claim7 := { stood := { row := msgBackUptoRow, standIns := [], harness := (true, "c0345a7d2a4a366ec7bc746894cae8ccedca7689744779a578791e07f182d5c7"), looks := false }, kinds := [], alts := [], laidByText := true, laidKinds := [.data, .pinned], laidTests := true, laidLooks := .later }
def MsgBackUptoCardSaid : Prop := Claim7.holds Tryd.pinned (.plain (OpenSpec.upto msgBackSpec)) msgBackUptoCard

/-- THE SECOND FORM's CARD OF 'billetlaw16.MsgWhole'. -/
def msgWholeUptoCard : Claim7 := { stood := { row := msgWholeUptoRow, standIns := [], harness := (true, "c0345a7d2a4a366ec7bc746894cae8ccedca7689744779a578791e07f182d5c7"), looks := false }, kinds := [], alts := [], laidByText := true, laidKinds := [.data, .pinned], laidTests := true, laidLooks := .later }
def MsgWholeUptoCardSaid : Prop := Claim7.holds Tryd.pinned (.plain (OpenSpec.upto msgWholeSpec)) msgWholeUptoCard

/-- THE SECOND FORM's CARD OF 'billetlaw16.MsgShort'. -/
def msgShortUptoCard : Claim7 := { stood := { row := msgShortUptoRow, standIns := [], harness := (true, "c0345a7d2a4a366ec7bc746894cae8ccedca7689744779a578791e07f182d5c7"), looks := false }, kinds := [], alts := [], laidByText := true, laidKinds := [.data, .pinned], laidTests := true, laidLooks := .later }
def MsgShortUptoCardSaid : Prop := Claim7.holds Tryd.pinned (.plain (OpenSpec.upto msgShortSpec)) msgShortUptoCard
end Rows
end Go.Proofs.YtdgaancbeakfdaaDoor
