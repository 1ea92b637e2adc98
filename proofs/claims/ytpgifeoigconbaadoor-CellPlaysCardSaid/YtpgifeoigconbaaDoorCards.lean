/-
  DERIVED. GIVEN WITH THE SEED: THE CARDS: each row of YtpgifeoigconbaaDoorRows.lean that lists a variable, with what it lists TIED to the program's text (the seventh form; the later family's looks); each row that meets fmt, with fmt's text TOLD by the authors' own Lean function (tested against real Go, not proved from fmt's source: count such statements apart). THE CARD IS WHAT COUNTS. Prove the row's statement (the work); the ties are given (YtpgifeoigconbaaDoorTie.lean); close each card by the builder's one call (the guide's Derived/Test/ToyasCard.lean, 'card_holds'). Laid BY PROGRAM, IN A SANDBOX (cutbox-door.mjs). By AI agents, Wed Nov 11 2026. No macro, syntax, notation, axiom, sorry.
-/
import Derived.Test.YtpgifeoigconbaaDoorRows
import GoSem.ClaimSeven
namespace Go.Proofs.YtpgifeoigconbaaDoor
namespace Rows

/-- THE TIED CARD OF 'billetlaw18.CellPlays'. -/
def cellPlaysCard : Claim7 := { stood := { row := cellPlaysRow, standIns := [], harness := (true, "0fd675e76e79e6f2d8f8432abb6cac55db8e06a51cd43435bade8c7b462a1a8a"), looks := false }, kinds := [], alts := [], laidByText := true, laidKinds := [.data, .pinned], laidTests := true, laidLooks := .later }
def CellPlaysCardSaid : Prop := Claim7.holds Tryd.pinned (.plain (OpenSpec.ofChange cellPlaysSpec)) cellPlaysCard

/-- THE TIED CARD OF 'billetlaw18.CellRises'. -/
def cellRisesCard : Claim7 := { stood := { row := cellRisesRow, standIns := [], harness := (true, "0fd675e76e79e6f2d8f8432abb6cac55db8e06a51cd43435bade8c7b462a1a8a"), looks := false }, kinds := [], alts := [], laidByText := true, laidKinds := [.data, .pinned], laidTests := true, laidLooks := .later }
def CellRisesCardSaid : Prop := Claim7.holds Tryd.pinned (.plain (OpenSpec.ofChange cellRisesSpec)) cellRisesCard

/-- THE TIED CARD OF 'billetlaw18.CellLast'. -/
def cellLastCard : Claim7 := { stood := { row := cellLastRow, standIns := [], harness := (true, "0fd675e76e79e6f2d8f8432abb6cac55db8e06a51cd43435bade8c7b462a1a8a"), looks := false }, kinds := [], alts := [], laidByText := true, laidKinds := [.data, .pinned], laidTests := true, laidLooks := .later }
def CellLastCardSaid : Prop := Claim7.holds Tryd.pinned (.plain (OpenSpec.ofChange cellLastSpec)) cellLastCard

/-- THE TIED CARD OF 'billetlaw18.CellRuns'. -/
def cellRunsCard : Claim7 := { stood := { row := cellRunsRow, standIns := [], harness := (true, "0fd675e76e79e6f2d8f8432abb6cac55db8e06a51cd43435bade8c7b462a1a8a"), looks := false }, kinds := [], alts := [], laidByText := true, laidKinds := [.data, .pinned], laidTests := true, laidLooks := .later }
def CellRunsCardSaid : Prop := Claim7.holds Tryd.pinned (.plain (OpenSpec.ofChange cellRunsSpec)) cellRunsCard

/-- THE TIED CARD OF 'billetlaw18.CellTwice'. -/
def cellTwiceCard : Claim7 := { stood := { row := cellTwiceRow, standIns := [], harness := (true, "0fd675e76e79e6f2d8f8432abb6cac55db8e06a51cd43435bade8c7b462a1a8a"), looks := false }, kinds := [], alts := [], laidByText := true, laidKinds := [.data, .pinned], laidTests := true, laidLooks := .later }
def CellTwiceCardSaid : Prop := Claim7.holds Tryd.pinned (.plain (OpenSpec.ofChange cellTwiceSpec)) cellTwiceCard

/-- THE SECOND FORM's CARD OF 'billetlaw18.CellPlays'. -/
def cellPlaysUptoCard : Claim7 := { stood := { row := cellPlaysUptoRow, standIns := [], harness := (true, "0fd675e76e79e6f2d8f8432abb6cac55db8e06a51cd43435bade8c7b462a1a8a"), looks := false }, kinds := [], alts := [], laidByText := true, laidKinds := [.data, .pinned], laidTests := true, laidLooks := .later }
def CellPlaysUptoCardSaid : Prop := Claim7.holds Tryd.pinned (.plain (OpenSpec.upto cellPlaysSpec)) cellPlaysUptoCard

/-- THE SECOND FORM's CARD OF 'billetlaw18.CellRises'. -/
def cellRisesUptoCard : Claim7 := { stood := { row := cellRisesUptoRow, standIns := [], harness := (true, "0fd675e76e79e6f2d8f8432abb6cac55db8e06a51cd43435bade8c7b462a1a8a"), looks := false }, kinds := [], alts := [], laidByText := true, laidKinds := [.data, .pinned], laidTests := true, laidLooks := .later }
def CellRisesUptoCardSaid : Prop := Claim7.holds Tryd.pinned (.plain (OpenSpec.upto cellRisesSpec)) cellRisesUptoCard

/-- THE SECOND FORM's CARD OF 'billetlaw18.CellLast'. -/
def cellLastUptoCard : Claim7 := { stood := { row := cellLastUptoRow, standIns := [], harness := (true, "0fd675e76e79e6f2d8f8432abb6cac55db8e06a51cd43435bade8c7b462a1a8a"), looks := false }, kinds := [], alts := [], laidByText := true, laidKinds := [.data, .pinned], laidTests := true, laidLooks := .later }
def CellLastUptoCardSaid : Prop := Claim7.holds Tryd.pinned (.plain (OpenSpec.upto cellLastSpec)) cellLastUptoCard

/-- THE SECOND FORM's CARD OF 'billetlaw18.CellRuns'. -/
def cellRunsUptoCard : Claim7 := { stood := { row := cellRunsUptoRow, standIns := [], harness := (true, "0fd675e76e79e6f2d8f8432abb6cac55db8e06a51cd43435bade8c7b462a1a8a"), looks := false }, kinds := [], alts := [], laidByText := true, laidKinds := [.data, .pinned], laidTests := true, laidLooks := .later }
def CellRunsUptoCardSaid : Prop := Claim7.holds Tryd.pinned (.plain (OpenSpec.upto cellRunsSpec)) cellRunsUptoCard

/-- THE SECOND FORM's CARD OF 'billetlaw18.CellTwice'. -/
def cellTwiceUptoCard : Claim7 := { stood := { row := cellTwiceUptoRow, standIns := [], harness := (true, "0fd675e76e79e6f2d8f8432abb6cac55db8e06a51cd43435bade8c7b462a1a8a"), looks := false }, kinds := [], alts := [], laidByText := true, laidKinds := [.data, .pinned], laidTests := true, laidLooks := .later }
def CellTwiceUptoCardSaid : Prop := Claim7.holds Tryd.pinned (.plain (OpenSpec.upto cellTwiceSpec)) cellTwiceUptoCard
end Rows
end Go.Proofs.YtpgifeoigconbaaDoor
