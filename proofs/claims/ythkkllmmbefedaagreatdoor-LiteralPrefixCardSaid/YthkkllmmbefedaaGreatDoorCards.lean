/-
  DERIVED. GIVEN WITH THE SEED: THE CARDS: each row of YthkkllmmbefedaaGreatDoorRows.lean that lists a variable, with what it lists TIED to the program's text (the seventh form; the later family's looks); each row that meets fmt, with fmt's text TOLD by the authors' own Lean function (tested against real Go, not proved from fmt's source: count such statements apart). THE CARD IS WHAT COUNTS. Prove the row's statement (the work); the ties are given (YthkkllmmbefedaaGreatDoorTie.lean); close each card by the builder's one call (the guide's Derived/Test/ToyasCard.lean, 'card_holds'). Laid BY PROGRAM, IN A SANDBOX (cutbox-door.mjs). By AI agents, Wed Nov 11 2026. No macro, syntax, notation, axiom, sorry.
-/
import Derived.Test.YthkkllmmbefedaaGreatDoorRows
import GoSem.ClaimSeven
namespace Go.Proofs.YthkkllmmbefedaaGreatDoor
namespace Rows

/-- THE TIED CARD OF 'sheavelaw12.LiteralFormat'. -/
def literalFormatCard : Claim7 := { stood := { row := literalFormatRow, standIns := [], harness := (true, "6c21ff9a41e4963f4b9d1e7a34460d6066d880aed0cc10e9e695c71ea8063740"), looks := true }, kinds := [], alts := [], laidByText := true, laidKinds := [.data, .data, .data, .sentinel, .sentinel, .widerDeep], laidTests := true, laidLooks := .later }
def LiteralFormatCardSaid : Prop := Claim7.holds Tryz.pinned (.plain (OpenSpec.ofChange literalFormatSpec)) literalFormatCard

/-- THE TIED CARD OF 'sheavelaw12.LiteralRestored'. -/
def literalRestoredCard : Claim7 := { stood := { row := literalRestoredRow, standIns := [], harness := (true, "6c21ff9a41e4963f4b9d1e7a34460d6066d880aed0cc10e9e695c71ea8063740"), looks := true }, kinds := [], alts := [], laidByText := true, laidKinds := [.data, .data, .data, .sentinel, .sentinel, .widerDeep], laidTests := true, laidLooks := .later }
def LiteralRestoredCardSaid : Prop := Claim7.holds Tryz.pinned (.plain (OpenSpec.ofChange literalRestoredSpec)) literalRestoredCard

/-- THE TIED CARD OF 'sheavelaw12.LiteralParse'. -/
def literalParseCard : Claim7 := { stood := { row := literalParseRow, standIns := [], harness := (true, "6c21ff9a41e4963f4b9d1e7a34460d6066d880aed0cc10e9e695c71ea8063740"), looks := true }, kinds := [], alts := [], laidByText := true, laidKinds := [.data, .data, .data, .sentinel, .sentinel, .widerDeep], laidTests := true, laidLooks := .later }
def LiteralParseCardSaid : Prop := Claim7.holds Tryz.pinned (.plain (OpenSpec.ofChange literalParseSpec)) literalParseCard

/-- THE TIED CARD OF 'sheavelaw12.LiteralTokens'. -/
def literalTokensCard : Claim7 := { stood := { row := literalTokensRow, standIns := [], harness := (true, "6c21ff9a41e4963f4b9d1e7a34460d6066d880aed0cc10e9e695c71ea8063740"), looks := true }, kinds := [], alts := [], laidByText := true, laidKinds := [.data, .data, .data, .sentinel, .sentinel, .widerDeep], laidTests := true, laidLooks := .later }
def LiteralTokensCardSaid : Prop := Claim7.holds Tryz.pinned (.plain (OpenSpec.ofChange literalTokensSpec)) literalTokensCard

/-- THE TIED CARD OF 'sheavelaw12.LiteralSpace'. -/
def literalSpaceCard : Claim7 := { stood := { row := literalSpaceRow, standIns := [], harness := (true, "6c21ff9a41e4963f4b9d1e7a34460d6066d880aed0cc10e9e695c71ea8063740"), looks := true }, kinds := [], alts := [], laidByText := true, laidKinds := [.data, .data, .data, .sentinel, .sentinel, .widerDeep], laidTests := true, laidLooks := .later }
def LiteralSpaceCardSaid : Prop := Claim7.holds Tryz.pinned (.plain (OpenSpec.ofChange literalSpaceSpec)) literalSpaceCard

/-- THE TIED CARD OF 'sheavelaw12.LiteralPath'. -/
def literalPathCard : Claim7 := { stood := { row := literalPathRow, standIns := [], harness := (true, "6c21ff9a41e4963f4b9d1e7a34460d6066d880aed0cc10e9e695c71ea8063740"), looks := true }, kinds := [], alts := [], laidByText := true, laidKinds := [.data, .data, .data, .sentinel, .sentinel, .widerDeep], laidTests := true, laidLooks := .later }
def LiteralPathCardSaid : Prop := Claim7.holds Tryz.pinned (.plain (OpenSpec.ofChange literalPathSpec)) literalPathCard

/-- THE TIED CARD OF 'sheavelaw12.LiteralRead'. -/
def literalReadCard : Claim7 := { stood := { row := literalReadRow, standIns := [], harness := (true, "6c21ff9a41e4963f4b9d1e7a34460d6066d880aed0cc10e9e695c71ea8063740"), looks := true }, kinds := [], alts := [], laidByText := true, laidKinds := [.data, .data, .data, .sentinel, .sentinel, .widerDeep], laidTests := true, laidLooks := .later }
def LiteralReadCardSaid : Prop := Claim7.holds Tryz.pinned (.plain (OpenSpec.ofChange literalReadSpec)) literalReadCard

/-- THE TIED CARD OF 'sheavelaw12.LiteralPrefix'. -/
def literalPrefixCard : Claim7 := { stood := { row := literalPrefixRow, standIns := [], harness := (true, "6c21ff9a41e4963f4b9d1e7a34460d6066d880aed0cc10e9e695c71ea8063740"), looks := true }, kinds := [], alts := [], laidByText := true, laidKinds := [.data, .data, .data, .sentinel, .sentinel, .widerDeep], laidTests := true, laidLooks := .later }
def LiteralPrefixCardSaid : Prop := Claim7.holds Tryz.pinned (.plain (OpenSpec.ofChange literalPrefixSpec)) literalPrefixCard

/-- THE SECOND FORM's CARD OF 'sheavelaw12.LiteralFormat'. -/
def literalFormatUptoCard : Claim7 := { stood := { row := literalFormatUptoRow, standIns := [], harness := (true, "6c21ff9a41e4963f4b9d1e7a34460d6066d880aed0cc10e9e695c71ea8063740"), looks := true }, kinds := [], alts := [], laidByText := true, laidKinds := [.data, .data, .data, .sentinel, .sentinel, .widerDeep], laidTests := true, laidLooks := .later }
def LiteralFormatUptoCardSaid : Prop := Claim7.holds Tryz.pinned (.plain (OpenSpec.upto literalFormatSpec)) literalFormatUptoCard

/-- THE SECOND FORM's CARD OF 'sheavelaw12.LiteralRestored'. -/
def literalRestoredUptoCard : Claim7 := { stood := { row := literalRestoredUptoRow, standIns := [], harness := (true, "6c21ff9a41e4963f4b9d1e7a34460d6066d880aed0cc10e9e695c71ea8063740"), looks := true }, kinds := [], alts := [], laidByText := true, laidKinds := [.data, .data, .data, .sentinel, .sentinel, .widerDeep], laidTests := true, laidLooks := .later }
def LiteralRestoredUptoCardSaid : Prop := Claim7.holds Tryz.pinned (.plain (OpenSpec.upto literalRestoredSpec)) literalRestoredUptoCard

/-- THE SECOND FORM's CARD OF 'sheavelaw12.LiteralParse'. -/
def literalParseUptoCard : Claim7 := { stood := { row := literalParseUptoRow, standIns := [], harness := (true, "6c21ff9a41e4963f4b9d1e7a34460d6066d880aed0cc10e9e695c71ea8063740"), looks := true }, kinds := [], alts := [], laidByText := true, laidKinds := [.data, .data, .data, .sentinel, .sentinel, .widerDeep], laidTests := true, laidLooks := .later }
def LiteralParseUptoCardSaid : Prop := Claim7.holds Tryz.pinned (.plain (OpenSpec.upto literalParseSpec)) literalParseUptoCard

/-- THE SECOND FORM's CARD OF 'sheavelaw12.LiteralTokens'. -/
def literalTokensUptoCard : Claim7 := { stood := { row := literalTokensUptoRow, standIns := [], harness := (true, "6c21ff9a41e4963f4b9d1e7a34460d6066d880aed0cc10e9e695c71ea8063740"), looks := true }, kinds := [], alts := [], laidByText := true, laidKinds := [.data, .data, .data, .sentinel, .sentinel, .widerDeep], laidTests := true, laidLooks := .later }
def LiteralTokensUptoCardSaid : Prop := Claim7.holds Tryz.pinned (.plain (OpenSpec.upto literalTokensSpec)) literalTokensUptoCard

/-- THE SECOND FORM's CARD OF 'sheavelaw12.LiteralSpace'. -/
def literalSpaceUptoCard : Claim7 := { stood := { row := literalSpaceUptoRow, standIns := [], harness := (true, "6c21ff9a41e4963f4b9d1e7a34460d6066d880aed0cc10e9e695c71ea8063740"), looks := true }, kinds := [], alts := [], laidByText := true, laidKinds := [.data, .data, .data, .sentinel, .sentinel, .widerDeep], laidTests := true, laidLooks := .later }
def LiteralSpaceUptoCardSaid : Prop := Claim7.holds Tryz.pinned (.plain (OpenSpec.upto literalSpaceSpec)) literalSpaceUptoCard

/-- THE SECOND FORM's CARD OF 'sheavelaw12.LiteralPath'. -/
def literalPathUptoCard : Claim7 := { stood := { row := literalPathUptoRow, standIns := [], harness := (true, "6c21ff9a41e4963f4b9d1e7a34460d6066d880aed0cc10e9e695c71ea8063740"), looks := true }, kinds := [], alts := [], laidByText := true, laidKinds := [.data, .data, .data, .sentinel, .sentinel, .widerDeep], laidTests := true, laidLooks := .later }
def LiteralPathUptoCardSaid : Prop := Claim7.holds Tryz.pinned (.plain (OpenSpec.upto literalPathSpec)) literalPathUptoCard

/-- THE SECOND FORM's CARD OF 'sheavelaw12.LiteralRead'. -/
def literalReadUptoCard : Claim7 := { stood := { row := literalReadUptoRow, standIns := [], harness := (true, "6c21ff9a41e4963f4b9d1e7a34460d6066d880aed0cc10e9e695c71ea8063740"), looks := true }, kinds := [], alts := [], laidByText := true, laidKinds := [.data, .data, .data, .sentinel, .sentinel, .widerDeep], laidTests := true, laidLooks := .later }
def LiteralReadUptoCardSaid : Prop := Claim7.holds Tryz.pinned (.plain (OpenSpec.upto literalReadSpec)) literalReadUptoCard

/-- THE SECOND FORM's CARD OF 'sheavelaw12.LiteralPrefix'. -/
def literalPrefixUptoCard : Claim7 := { stood := { row := literalPrefixUptoRow, standIns := [], harness := (true, "6c21ff9a41e4963f4b9d1e7a34460d6066d880aed0cc10e9e695c71ea8063740"), looks := true }, kinds := [], alts := [], laidByText := true, laidKinds := [.data, .data, .data, .sentinel, .sentinel, .widerDeep], laidTests := true, laidLooks := .later }
def LiteralPrefixUptoCardSaid : Prop := Claim7.holds Tryz.pinned (.plain (OpenSpec.upto literalPrefixSpec)) literalPrefixUptoCard
end Rows
end Go.Proofs.YthkkllmmbefedaaGreatDoor
