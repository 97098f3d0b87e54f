/-
  DERIVED. GIVEN WITH THE SEED: THE CARDS: each row of YtcmnmcholfellaaDoorRows.lean that lists a variable, with what it lists TIED to the program's text (the seventh form; the later family's looks); each row that meets fmt, with fmt's text TOLD by the authors' own Lean function (tested against real Go, not proved from fmt's source: count such statements apart). THE CARD IS WHAT COUNTS. Prove the row's statement (the work); the ties are given (YtcmnmcholfellaaDoorTie.lean); close each card by the builder's one call (the guide's Derived/Test/ToyasCard.lean, 'card_holds'). Laid BY PROGRAM, IN A SANDBOX (cutbox-door.mjs). By AI agents, Wed Nov 11 2026. No macro, syntax, notation, axiom, sorry.
-/
import Derived.Test.YtcmnmcholfellaaDoorRows
import GoSem.ClaimSeven
namespace Go.Proofs.YtcmnmcholfellaaDoor
namespace Rows

/-- THE TIED CARD OF 'sheavelaw56.TraceLong'. -/
def traceLongCard : Claim7 := { stood := { row := traceLongRow, standIns := [], harness := (true, "fba72556539c0bb38809b78b1b41aad12265802d7eb796618bd2cd131afc6afa"), looks := true }, kinds := [], alts := [], laidByText := true, laidKinds := [.data, .data, .data], laidTests := true, laidLooks := .later }
def TraceLongCardSaid : Prop := Claim7.holds Tryd.pinned (.plain (OpenSpec.ofChange traceLongSpec)) traceLongCard

/-- THE TIED CARD OF 'sheavelaw56.TraceValid'. -/
def traceValidCard : Claim7 := { stood := { row := traceValidRow, standIns := [], harness := (true, "fba72556539c0bb38809b78b1b41aad12265802d7eb796618bd2cd131afc6afa"), looks := true }, kinds := [], alts := [], laidByText := true, laidKinds := [.data, .data, .data], laidTests := true, laidLooks := .later }
def TraceValidCardSaid : Prop := Claim7.holds Tryd.pinned (.plain (OpenSpec.ofChange traceValidSpec)) traceValidCard

/-- THE TIED CARD OF 'sheavelaw56.TraceMerge'. -/
def traceMergeCard : Claim7 := { stood := { row := traceMergeRow, standIns := [], harness := (true, "fba72556539c0bb38809b78b1b41aad12265802d7eb796618bd2cd131afc6afa"), looks := true }, kinds := [], alts := [], laidByText := true, laidKinds := [.data, .data, .data], laidTests := true, laidLooks := .later }
def TraceMergeCardSaid : Prop := Claim7.holds Tryd.pinned (.plain (OpenSpec.ofChange traceMergeSpec)) traceMergeCard

/-- THE TIED CARD OF 'sheavelaw56.TraceParts'. -/
def tracePartsCard : Claim7 := { stood := { row := tracePartsRow, standIns := [], harness := (true, "fba72556539c0bb38809b78b1b41aad12265802d7eb796618bd2cd131afc6afa"), looks := true }, kinds := [], alts := [], laidByText := true, laidKinds := [.data, .data, .data], laidTests := true, laidLooks := .later }
def TracePartsCardSaid : Prop := Claim7.holds Tryd.pinned (.plain (OpenSpec.ofChange tracePartsSpec)) tracePartsCard

/-- THE TIED CARD OF 'sheavelaw56.TraceFilter'. -/
def traceFilterCard : Claim7 := { stood := { row := traceFilterRow, standIns := [], harness := (true, "fba72556539c0bb38809b78b1b41aad12265802d7eb796618bd2cd131afc6afa"), looks := true }, kinds := [], alts := [], laidByText := true, laidKinds := [.data, .data, .data], laidTests := true, laidLooks := .later }
def TraceFilterCardSaid : Prop := Claim7.holds Tryd.pinned (.plain (OpenSpec.ofChange traceFilterSpec)) traceFilterCard

/-- THE TIED CARD OF 'sheavelaw56.TraceReads'. -/
def traceReadsCard : Claim7 := { stood := { row := traceReadsRow, standIns := [], harness := (true, "fba72556539c0bb38809b78b1b41aad12265802d7eb796618bd2cd131afc6afa"), looks := true }, kinds := [], alts := [], laidByText := true, laidKinds := [.data, .data, .data], laidTests := true, laidLooks := .later }
def TraceReadsCardSaid : Prop := Claim7.holds Tryd.pinned (.plain (OpenSpec.ofChange traceReadsSpec)) traceReadsCard

/-- THE TIED CARD OF 'sheavelaw56.TraceParse'. -/
def traceParseCard : Claim7 := { stood := { row := traceParseRow, standIns := [], harness := (true, "fba72556539c0bb38809b78b1b41aad12265802d7eb796618bd2cd131afc6afa"), looks := true }, kinds := [], alts := [], laidByText := true, laidKinds := [.data, .data, .data, .data, .sentinel, .sentinel, .pinned], laidTests := true, laidLooks := .later }
def TraceParseCardSaid : Prop := Claim7.holds Tryd.pinned (.plain (OpenSpec.ofChange traceParseSpec)) traceParseCard

/-- THE TIED CARD OF 'sheavelaw56.TraceText'. -/
def traceTextCard : Claim7 := { stood := { row := traceTextRow, standIns := [], harness := (true, "fba72556539c0bb38809b78b1b41aad12265802d7eb796618bd2cd131afc6afa"), looks := true }, kinds := [], alts := [], laidByText := true, laidKinds := [.data, .data, .data, .data, .sentinel, .sentinel, .pinned], laidTests := true, laidLooks := .later }
def TraceTextCardSaid : Prop := Claim7.holds Tryd.pinned (.plain (OpenSpec.ofChange traceTextSpec)) traceTextCard

/-- THE SECOND FORM's CARD OF 'sheavelaw56.TraceLong'. -/
def traceLongUptoCard : Claim7 := { stood := { row := traceLongUptoRow, standIns := [], harness := (true, "fba72556539c0bb38809b78b1b41aad12265802d7eb796618bd2cd131afc6afa"), looks := true }, kinds := [], alts := [], laidByText := true, laidKinds := [.data, .data, .data], laidTests := true, laidLooks := .later }
def TraceLongUptoCardSaid : Prop := Claim7.holds Tryd.pinned (.plain (OpenSpec.upto traceLongSpec)) traceLongUptoCard

/-- THE SECOND FORM's CARD OF 'sheavelaw56.TraceValid'. -/
def traceValidUptoCard : Claim7 := { stood := { row := traceValidUptoRow, standIns := [], harness := (true, "fba72556539c0bb38809b78b1b41aad12265802d7eb796618bd2cd131afc6afa"), looks := true }, kinds := [], alts := [], laidByText := true, laidKinds := [.data, .data, .data], laidTests := true, laidLooks := .later }
def TraceValidUptoCardSaid : Prop := Claim7.holds Tryd.pinned (.plain (OpenSpec.upto traceValidSpec)) traceValidUptoCard

/-- THE SECOND FORM's CARD OF 'sheavelaw56.TraceMerge'. -/
def traceMergeUptoCard : Claim7 := { stood := { row := traceMergeUptoRow, standIns := [], harness := (true, "fba72556539c0bb38809b78b1b41aad12265802d7eb796618bd2cd131afc6afa"), looks := true }, kinds := [], alts := [], laidByText := true, laidKinds := [.data, .data, .data], laidTests := true, laidLooks := .later }
def TraceMergeUptoCardSaid : Prop := Claim7.holds Tryd.pinned (.plain (OpenSpec.upto traceMergeSpec)) traceMergeUptoCard

/-- THE SECOND FORM's CARD OF 'sheavelaw56.TraceParts'. -/
def tracePartsUptoCard : Claim7 := { stood := { row := tracePartsUptoRow, standIns := [], harness := (true, "fba72556539c0bb38809b78b1b41aad12265802d7eb796618bd2cd131afc6afa"), looks := true }, kinds := [], alts := [], laidByText := true, laidKinds := [.data, .data, .data], laidTests := true, laidLooks := .later }
def TracePartsUptoCardSaid : Prop := Claim7.holds Tryd.pinned (.plain (OpenSpec.upto tracePartsSpec)) tracePartsUptoCard

/-- THE SECOND FORM's CARD OF 'sheavelaw56.TraceFilter'. -/
def traceFilterUptoCard : Claim7 := { stood := { row := traceFilterUptoRow, standIns := [], harness := (true, "fba72556539c0bb38809b78b1b41aad12265802d7eb796618bd2cd131afc6afa"), looks := true }, kinds := [], alts := [], laidByText := true, laidKinds := [.data, .data, .data], laidTests := true, laidLooks := .later }
def TraceFilterUptoCardSaid : Prop := Claim7.holds Tryd.pinned (.plain (OpenSpec.upto traceFilterSpec)) traceFilterUptoCard

/-- THE SECOND FORM's CARD OF 'sheavelaw56.TraceReads'. -/
def traceReadsUptoCard : Claim7 := { stood := { row := traceReadsUptoRow, standIns := [], harness := (true, "fba72556539c0bb38809b78b1b41aad12265802d7eb796618bd2cd131afc6afa"), looks := true }, kinds := [], alts := [], laidByText := true, laidKinds := [.data, .data, .data], laidTests := true, laidLooks := .later }
def TraceReadsUptoCardSaid : Prop := Claim7.holds Tryd.pinned (.plain (OpenSpec.upto traceReadsSpec)) traceReadsUptoCard

/-- THE SECOND FORM's CARD OF 'sheavelaw56.TraceParse'. -/
def traceParseUptoCard : Claim7 := { stood := { row := traceParseUptoRow, standIns := [], harness := (true, "fba72556539c0bb38809b78b1b41aad12265802d7eb796618bd2cd131afc6afa"), looks := true }, kinds := [], alts := [], laidByText := true, laidKinds := [.data, .data, .data, .data, .sentinel, .sentinel, .pinned], laidTests := true, laidLooks := .later }
def TraceParseUptoCardSaid : Prop := Claim7.holds Tryd.pinned (.plain (OpenSpec.upto traceParseSpec)) traceParseUptoCard

/-- THE SECOND FORM's CARD OF 'sheavelaw56.TraceText'. -/
def traceTextUptoCard : Claim7 := { stood := { row := traceTextUptoRow, standIns := [], harness := (true, "fba72556539c0bb38809b78b1b41aad12265802d7eb796618bd2cd131afc6afa"), looks := true }, kinds := [], alts := [], laidByText := true, laidKinds := [.data, .data, .data, .data, .sentinel, .sentinel, .pinned], laidTests := true, laidLooks := .later }
def TraceTextUptoCardSaid : Prop := Claim7.holds Tryd.pinned (.plain (OpenSpec.upto traceTextSpec)) traceTextUptoCard
end Rows
end Go.Proofs.YtcmnmcholfellaaDoor
