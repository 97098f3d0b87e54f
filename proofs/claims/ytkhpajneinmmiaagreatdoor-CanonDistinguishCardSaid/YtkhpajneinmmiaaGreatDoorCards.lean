/-
  DERIVED. GIVEN WITH THE SEED: THE CARDS: each row of YtkhpajneinmmiaaGreatDoorRows.lean that lists a variable, with what it lists TIED to the program's text (the seventh form; the later family's looks); each row that meets fmt, with fmt's text TOLD by the authors' own Lean function (tested against real Go, not proved from fmt's source: count such statements apart). THE CARD IS WHAT COUNTS. Prove the row's statement (the work); the ties are given (YtkhpajneinmmiaaGreatDoorTie.lean); close each card by the builder's one call (the guide's Derived/Test/ToyasCard.lean, 'card_holds'). Laid BY PROGRAM, IN A SANDBOX (cutbox-door.mjs). By AI agents, Wed Nov 11 2026. No macro, syntax, notation, axiom, sorry.
-/
import Derived.Test.YtkhpajneinmmiaaGreatDoorRows
import GoSem.ClaimSeven
namespace Go.Proofs.YtkhpajneinmmiaaGreatDoor
namespace Rows

/-- THE TIED CARD OF 'sheavelaw18.CanonEquivalent'. -/
def canonEquivalentCard : Claim7 := { stood := { row := canonEquivalentRow, standIns := [], harness := (true, "d3140f8f838300066fce882a10c97f8dfb126e70032c7a485c4d001bd9bd379f"), looks := false }, kinds := [], alts := [], laidByText := true, laidKinds := [.data, .data, .data], laidTests := true, laidLooks := .later }
def CanonEquivalentCardSaid : Prop := Claim7.holds Tryz.pinned (.plain (OpenSpec.ofChange canonEquivalentSpec)) canonEquivalentCard

/-- THE TIED CARD OF 'sheavelaw18.CanonClasses'. -/
def canonClassesCard : Claim7 := { stood := { row := canonClassesRow, standIns := [], harness := (true, "d3140f8f838300066fce882a10c97f8dfb126e70032c7a485c4d001bd9bd379f"), looks := false }, kinds := [], alts := [], laidByText := true, laidKinds := [.data, .data, .data], laidTests := true, laidLooks := .later }
def CanonClassesCardSaid : Prop := Claim7.holds Tryz.pinned (.plain (OpenSpec.ofChange canonClassesSpec)) canonClassesCard

/-- THE TIED CARD OF 'sheavelaw18.CanonCanon'. -/
def canonCanonCard : Claim7 := { stood := { row := canonCanonRow, standIns := [], harness := (true, "d3140f8f838300066fce882a10c97f8dfb126e70032c7a485c4d001bd9bd379f"), looks := false }, kinds := [], alts := [], laidByText := true, laidKinds := [.data, .data, .data], laidTests := true, laidLooks := .later }
def CanonCanonCardSaid : Prop := Claim7.holds Tryz.pinned (.plain (OpenSpec.ofChange canonCanonSpec)) canonCanonCard

/-- THE TIED CARD OF 'sheavelaw18.CanonAgain'. -/
def canonAgainCard : Claim7 := { stood := { row := canonAgainRow, standIns := [], harness := (true, "d3140f8f838300066fce882a10c97f8dfb126e70032c7a485c4d001bd9bd379f"), looks := false }, kinds := [], alts := [], laidByText := true, laidKinds := [.data, .data, .data], laidTests := true, laidLooks := .later }
def CanonAgainCardSaid : Prop := Claim7.holds Tryz.pinned (.plain (OpenSpec.ofChange canonAgainSpec)) canonAgainCard

/-- THE TIED CARD OF 'sheavelaw18.CanonCopies'. -/
def canonCopiesCard : Claim7 := { stood := { row := canonCopiesRow, standIns := [], harness := (true, "d3140f8f838300066fce882a10c97f8dfb126e70032c7a485c4d001bd9bd379f"), looks := false }, kinds := [], alts := [], laidByText := true, laidKinds := [.data, .data, .data], laidTests := true, laidLooks := .later }
def CanonCopiesCardSaid : Prop := Claim7.holds Tryz.pinned (.plain (OpenSpec.ofChange canonCopiesSpec)) canonCopiesCard

/-- THE TIED CARD OF 'sheavelaw18.CanonDistinguish'. -/
def canonDistinguishCard : Claim7 := { stood := { row := canonDistinguishRow, standIns := [], harness := (true, "d3140f8f838300066fce882a10c97f8dfb126e70032c7a485c4d001bd9bd379f"), looks := false }, kinds := [], alts := [], laidByText := true, laidKinds := [.data, .data, .data], laidTests := true, laidLooks := .later }
def CanonDistinguishCardSaid : Prop := Claim7.holds Tryz.pinned (.plain (OpenSpec.ofChange canonDistinguishSpec)) canonDistinguishCard

/-- THE TIED CARD OF 'sheavelaw18.CanonCopied'. -/
def canonCopiedCard : Claim7 := { stood := { row := canonCopiedRow, standIns := [], harness := (true, "d3140f8f838300066fce882a10c97f8dfb126e70032c7a485c4d001bd9bd379f"), looks := false }, kinds := [], alts := [], laidByText := true, laidKinds := [.data, .data, .data], laidTests := true, laidLooks := .later }
def CanonCopiedCardSaid : Prop := Claim7.holds Tryz.pinned (.plain (OpenSpec.ofChange canonCopiedSpec)) canonCopiedCard

/-- THE TIED CARD OF 'sheavelaw18.CanonErrors'. -/
def canonErrorsCard : Claim7 := { stood := { row := canonErrorsRow, standIns := [], harness := (true, "d3140f8f838300066fce882a10c97f8dfb126e70032c7a485c4d001bd9bd379f"), looks := false }, kinds := [], alts := [], laidByText := true, laidKinds := [.data, .data, .data], laidTests := true, laidLooks := .later }
def CanonErrorsCardSaid : Prop := Claim7.holds Tryz.pinned (.plain (OpenSpec.ofChange canonErrorsSpec)) canonErrorsCard

/-- THE SECOND FORM's CARD OF 'sheavelaw18.CanonEquivalent'. -/
def canonEquivalentUptoCard : Claim7 := { stood := { row := canonEquivalentUptoRow, standIns := [], harness := (true, "d3140f8f838300066fce882a10c97f8dfb126e70032c7a485c4d001bd9bd379f"), looks := false }, kinds := [], alts := [], laidByText := true, laidKinds := [.data, .data, .data], laidTests := true, laidLooks := .later }
def CanonEquivalentUptoCardSaid : Prop := Claim7.holds Tryz.pinned (.plain (OpenSpec.upto canonEquivalentSpec)) canonEquivalentUptoCard

/-- THE SECOND FORM's CARD OF 'sheavelaw18.CanonClasses'. -/
def canonClassesUptoCard : Claim7 := { stood := { row := canonClassesUptoRow, standIns := [], harness := (true, "d3140f8f838300066fce882a10c97f8dfb126e70032c7a485c4d001bd9bd379f"), looks := false }, kinds := [], alts := [], laidByText := true, laidKinds := [.data, .data, .data], laidTests := true, laidLooks := .later }
def CanonClassesUptoCardSaid : Prop := Claim7.holds Tryz.pinned (.plain (OpenSpec.upto canonClassesSpec)) canonClassesUptoCard

/-- THE SECOND FORM's CARD OF 'sheavelaw18.CanonCanon'. -/
def canonCanonUptoCard : Claim7 := { stood := { row := canonCanonUptoRow, standIns := [], harness := (true, "d3140f8f838300066fce882a10c97f8dfb126e70032c7a485c4d001bd9bd379f"), looks := false }, kinds := [], alts := [], laidByText := true, laidKinds := [.data, .data, .data], laidTests := true, laidLooks := .later }
def CanonCanonUptoCardSaid : Prop := Claim7.holds Tryz.pinned (.plain (OpenSpec.upto canonCanonSpec)) canonCanonUptoCard

/-- THE SECOND FORM's CARD OF 'sheavelaw18.CanonAgain'. -/
def canonAgainUptoCard : Claim7 := { stood := { row := canonAgainUptoRow, standIns := [], harness := (true, "d3140f8f838300066fce882a10c97f8dfb126e70032c7a485c4d001bd9bd379f"), looks := false }, kinds := [], alts := [], laidByText := true, laidKinds := [.data, .data, .data], laidTests := true, laidLooks := .later }
def CanonAgainUptoCardSaid : Prop := Claim7.holds Tryz.pinned (.plain (OpenSpec.upto canonAgainSpec)) canonAgainUptoCard

/-- THE SECOND FORM's CARD OF 'sheavelaw18.CanonCopies'. -/
def canonCopiesUptoCard : Claim7 := { stood := { row := canonCopiesUptoRow, standIns := [], harness := (true, "d3140f8f838300066fce882a10c97f8dfb126e70032c7a485c4d001bd9bd379f"), looks := false }, kinds := [], alts := [], laidByText := true, laidKinds := [.data, .data, .data], laidTests := true, laidLooks := .later }
def CanonCopiesUptoCardSaid : Prop := Claim7.holds Tryz.pinned (.plain (OpenSpec.upto canonCopiesSpec)) canonCopiesUptoCard

/-- THE SECOND FORM's CARD OF 'sheavelaw18.CanonDistinguish'. -/
def canonDistinguishUptoCard : Claim7 := { stood := { row := canonDistinguishUptoRow, standIns := [], harness := (true, "d3140f8f838300066fce882a10c97f8dfb126e70032c7a485c4d001bd9bd379f"), looks := false }, kinds := [], alts := [], laidByText := true, laidKinds := [.data, .data, .data], laidTests := true, laidLooks := .later }
def CanonDistinguishUptoCardSaid : Prop := Claim7.holds Tryz.pinned (.plain (OpenSpec.upto canonDistinguishSpec)) canonDistinguishUptoCard

/-- THE SECOND FORM's CARD OF 'sheavelaw18.CanonCopied'. -/
def canonCopiedUptoCard : Claim7 := { stood := { row := canonCopiedUptoRow, standIns := [], harness := (true, "d3140f8f838300066fce882a10c97f8dfb126e70032c7a485c4d001bd9bd379f"), looks := false }, kinds := [], alts := [], laidByText := true, laidKinds := [.data, .data, .data], laidTests := true, laidLooks := .later }
def CanonCopiedUptoCardSaid : Prop := Claim7.holds Tryz.pinned (.plain (OpenSpec.upto canonCopiedSpec)) canonCopiedUptoCard

/-- THE SECOND FORM's CARD OF 'sheavelaw18.CanonErrors'. -/
def canonErrorsUptoCard : Claim7 := { stood := { row := canonErrorsUptoRow, standIns := [], harness := (true, "d3140f8f838300066fce882a10c97f8dfb126e70032c7a485c4d001bd9bd379f"), looks := false }, kinds := [], alts := [], laidByText := true, laidKinds := [.data, .data, .data], laidTests := true, laidLooks := .later }
def CanonErrorsUptoCardSaid : Prop := Claim7.holds Tryz.pinned (.plain (OpenSpec.upto canonErrorsSpec)) canonErrorsUptoCard
end Rows
end Go.Proofs.YtkhpajneinmmiaaGreatDoor
