/-
  DERIVED. GIVEN WITH THE SEED: THE CARDS: each row of YtdfolgmcggdjdaaGreatDoorRows.lean that lists a variable, with what it lists TIED to the program's text (the seventh form; the later family's looks); each row that meets fmt, with fmt's text TOLD by the authors' own Lean function (tested against real Go, not proved from fmt's source: count such statements apart). THE CARD IS WHAT COUNTS. Prove the row's statement (the work); the ties are given (YtdfolgmcggdjdaaGreatDoorTie.lean); close each card by the builder's one call (the guide's Derived/Test/ToyasCard.lean, 'card_holds'). Laid BY PROGRAM, IN A SANDBOX (cutbox-door.mjs). By AI agents, Wed Nov 11 2026. No macro, syntax, notation, axiom, sorry.
-/
import Derived.Test.YtdfolgmcggdjdaaGreatDoorRows
import GoSem.ClaimSeven
namespace Go.Proofs.YtdfolgmcggdjdaaGreatDoor
namespace Rows

/-- THE TIED CARD OF 'sheavelaw17.PrinterTidy'. -/
def printerTidyCard : Claim7 := { stood := { row := printerTidyRow, standIns := [], harness := (true, "1c3e39bbc432ca0a456d24a29a194556ec86203d9d2799ccb2cb17263db6a724"), looks := false }, kinds := [], alts := [], laidByText := true, laidKinds := [.data, .data, .data], laidTests := true, laidLooks := .later }
def PrinterTidyCardSaid : Prop := Claim7.holds Tryz.pinned (.plain (OpenSpec.ofChange printerTidySpec)) printerTidyCard

/-- THE TIED CARD OF 'sheavelaw17.PrinterErrors'. -/
def printerErrorsCard : Claim7 := { stood := { row := printerErrorsRow, standIns := [], harness := (true, "1c3e39bbc432ca0a456d24a29a194556ec86203d9d2799ccb2cb17263db6a724"), looks := false }, kinds := [], alts := [], laidByText := true, laidKinds := [.data, .data, .data], laidTests := true, laidLooks := .later }
def PrinterErrorsCardSaid : Prop := Claim7.holds Tryz.pinned (.plain (OpenSpec.ofChange printerErrorsSpec)) printerErrorsCard

/-- THE TIED CARD OF 'sheavelaw17.PrinterType'. -/
def printerTypeCard : Claim7 := { stood := { row := printerTypeRow, standIns := [], harness := (true, "1c3e39bbc432ca0a456d24a29a194556ec86203d9d2799ccb2cb17263db6a724"), looks := false }, kinds := [], alts := [], laidByText := true, laidKinds := [.data, .data, .data], laidTests := true, laidLooks := .later }
def PrinterTypeCardSaid : Prop := Claim7.holds Tryz.pinned (.plain (OpenSpec.ofChange printerTypeSpec)) printerTypeCard

/-- THE SECOND FORM's CARD OF 'sheavelaw17.PrinterTidy'. -/
def printerTidyUptoCard : Claim7 := { stood := { row := printerTidyUptoRow, standIns := [], harness := (true, "1c3e39bbc432ca0a456d24a29a194556ec86203d9d2799ccb2cb17263db6a724"), looks := false }, kinds := [], alts := [], laidByText := true, laidKinds := [.data, .data, .data], laidTests := true, laidLooks := .later }
def PrinterTidyUptoCardSaid : Prop := Claim7.holds Tryz.pinned (.plain (OpenSpec.upto printerTidySpec)) printerTidyUptoCard

/-- THE SECOND FORM's CARD OF 'sheavelaw17.PrinterErrors'. -/
def printerErrorsUptoCard : Claim7 := { stood := { row := printerErrorsUptoRow, standIns := [], harness := (true, "1c3e39bbc432ca0a456d24a29a194556ec86203d9d2799ccb2cb17263db6a724"), looks := false }, kinds := [], alts := [], laidByText := true, laidKinds := [.data, .data, .data], laidTests := true, laidLooks := .later }
def PrinterErrorsUptoCardSaid : Prop := Claim7.holds Tryz.pinned (.plain (OpenSpec.upto printerErrorsSpec)) printerErrorsUptoCard

/-- THE SECOND FORM's CARD OF 'sheavelaw17.PrinterType'. -/
def printerTypeUptoCard : Claim7 := { stood := { row := printerTypeUptoRow, standIns := [], harness := (true, "1c3e39bbc432ca0a456d24a29a194556ec86203d9d2799ccb2cb17263db6a724"), looks := false }, kinds := [], alts := [], laidByText := true, laidKinds := [.data, .data, .data], laidTests := true, laidLooks := .later }
def PrinterTypeUptoCardSaid : Prop := Claim7.holds Tryz.pinned (.plain (OpenSpec.upto printerTypeSpec)) printerTypeUptoCard
end Rows
end Go.Proofs.YtdfolgmcggdjdaaGreatDoor
