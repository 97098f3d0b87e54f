/-
  NARROWER THAN 'FOR EVERY INPUT', by the rows' own cells (each row's printed sentence says how): LiteralFormat: loops, laid · LiteralRestored: laid · LiteralParse: laid · LiteralTokens: laid · LiteralSpace: laid · LiteralPath: loops, laid · LiteralRead: laid · LiteralPrefix: laid.
  DERIVED. THE GIVEN ROWS OF THIS SEAT. 8 by the template 'for every input the law returns true; each argument reads behind the call as it read before'; 0 by the template 'total and deterministic' (their statements: YthkkllmmbefedaaGreatDoorTotals.lean).
  GIVEN WITH THE SEED: the statements are not yours to turn. If you find one false, say at which input.
  Laid BY PROGRAM, IN A SANDBOX (cutbox-rows.mjs): the forced cells as the released guide's own fill.sh prints them over the translation 8a01bc00fe5414f7… (all of the seat's roots in one cut). By AI agents, Wed Nov 11 2026. No macro, syntax, notation, axiom, sorry.
-/
import Derived.Test.YthkkllmmbefedaaGreatDoorChecked
import GoSem.Claim
import GoSem.ClaimJoined
import GoSem.ClaimMapViews
import Derived.JoinedTies
import Derived.KernelRfl
namespace Go.Proofs.YthkkllmmbefedaaGreatDoor
/- THE CELL 'sum', in the pinned program and in every row, IS THE sha256 OF THE DUMP (.gsa) THAT YthkkllmmbefedaaGreatDoorProg.lean LOADS. Nothing in Lean hashes anything: it is a label: what it is worth is what the hold of that sum in a sandbox is worth. -/
noncomputable def Tryz.pinned : Pinned := { name := "ythkkllmmbefedaagreatdoor", sum := "8a01bc00fe5414f74ba38660188a194d874ae1ad07bda7e7de2d32122f5ec4e9", checked := Tryz.checked }
namespace Rows
def none {H : Type} : Left H := { results := [], args := [] }

/- WHAT THE LISTED PACKAGE-LEVEL VARIABLES READ AS WHEN THE CALL BEGINS. Each datum BY PROGRAM (the guide's laid-datum.mjs) off the statement by which the dump's own 'gosem.cut.vars' lays the variable. In a bare row this is a premise. The card (YthkkllmmbefedaaGreatDoorCards.lean) ties it to the program's text. -/
def laid_math_bits_deBruijn32tab {H : Type} : DataW H := .agg [.lit (.int .u8 0), .lit (.int .u8 1), .lit (.int .u8 28), .lit (.int .u8 2), .lit (.int .u8 29), .lit (.int .u8 14), .lit (.int .u8 24), .lit (.int .u8 3), .lit (.int .u8 30), .lit (.int .u8 22), .lit (.int .u8 20), .lit (.int .u8 15), .lit (.int .u8 25), .lit (.int .u8 17), .lit (.int .u8 4), .lit (.int .u8 8), .lit (.int .u8 31), .lit (.int .u8 27), .lit (.int .u8 13), .lit (.int .u8 23), .lit (.int .u8 21), .lit (.int .u8 19), .lit (.int .u8 16), .lit (.int .u8 7), .lit (.int .u8 26), .lit (.int .u8 12), .lit (.int .u8 18), .lit (.int .u8 6), .lit (.int .u8 11), .lit (.int .u8 5), .lit (.int .u8 10), .lit (.int .u8 9)]
def laid_math_bits_deBruijn64tab {H : Type} : DataW H := .agg [.lit (.int .u8 0), .lit (.int .u8 1), .lit (.int .u8 56), .lit (.int .u8 2), .lit (.int .u8 57), .lit (.int .u8 49), .lit (.int .u8 28), .lit (.int .u8 3), .lit (.int .u8 61), .lit (.int .u8 58), .lit (.int .u8 42), .lit (.int .u8 50), .lit (.int .u8 38), .lit (.int .u8 29), .lit (.int .u8 17), .lit (.int .u8 4), .lit (.int .u8 62), .lit (.int .u8 47), .lit (.int .u8 59), .lit (.int .u8 36), .lit (.int .u8 45), .lit (.int .u8 43), .lit (.int .u8 51), .lit (.int .u8 22), .lit (.int .u8 53), .lit (.int .u8 39), .lit (.int .u8 33), .lit (.int .u8 30), .lit (.int .u8 24), .lit (.int .u8 18), .lit (.int .u8 12), .lit (.int .u8 5), .lit (.int .u8 63), .lit (.int .u8 55), .lit (.int .u8 48), .lit (.int .u8 27), .lit (.int .u8 60), .lit (.int .u8 41), .lit (.int .u8 37), .lit (.int .u8 16), .lit (.int .u8 46), .lit (.int .u8 35), .lit (.int .u8 44), .lit (.int .u8 21), .lit (.int .u8 52), .lit (.int .u8 32), .lit (.int .u8 23), .lit (.int .u8 11), .lit (.int .u8 54), .lit (.int .u8 26), .lit (.int .u8 40), .lit (.int .u8 15), .lit (.int .u8 34), .lit (.int .u8 20), .lit (.int .u8 31), .lit (.int .u8 10), .lit (.int .u8 25), .lit (.int .u8 14), .lit (.int .u8 19), .lit (.int .u8 9), .lit (.int .u8 13), .lit (.int .u8 8), .lit (.int .u8 7), .lit (.int .u8 6)]
def laid_internal_strconv_uint64pow10 {H : Type} : DataW H := .agg [.lit (.int .u64 1), .lit (.int .u64 10), .lit (.int .u64 100), .lit (.int .u64 1000), .lit (.int .u64 10000), .lit (.int .u64 100000), .lit (.int .u64 1000000), .lit (.int .u64 10000000), .lit (.int .u64 100000000), .lit (.int .u64 1000000000), .lit (.int .u64 10000000000), .lit (.int .u64 100000000000), .lit (.int .u64 1000000000000), .lit (.int .u64 10000000000000), .lit (.int .u64 100000000000000), .lit (.int .u64 1000000000000000), .lit (.int .u64 10000000000000000), .lit (.int .u64 100000000000000000), .lit (.int .u64 1000000000000000000), .lit (.int .u64 10000000000000000000)]
def laid_strconv_ErrRange {H : Type} : DataW H := .iface "*errors.errorString" (.ptr (.agg [.lit (.string [118, 97, 108, 117, 101, 32, 111, 117, 116, 32, 111, 102, 32, 114, 97, 110, 103, 101])]))
def laid_strconv_ErrSyntax {H : Type} : DataW H := .iface "*errors.errorString" (.ptr (.agg [.lit (.string [105, 110, 118, 97, 108, 105, 100, 32, 115, 121, 110, 116, 97, 120])]))
def laid_sheave_lexer_symbols {H : Type} : DataW H := .slice [.lit (.string [45, 62]), .lit (.string [46, 46]), .lit (.string [123]), .lit (.string [125]), .lit (.string [40]), .lit (.string [41]), .lit (.string [91]), .lit (.string [93]), .lit (.string [44]), .lit (.string [59]), .lit (.string [58]), .lit (.string [61]), .lit (.string [46]), .lit (.string [33]), .lit (.string [63]), .lit (.string [64]), .lit (.string [42]), .lit (.string [124])] []

/-- 'sheavelaw12.LiteralFormat': WHATEVER THE INPUT: true; the input reads as it did. -/
def literalFormatSpec : ChangeSpec := { name := "literalFormat", fn := fun _ => fun
  | [d1, d2, d3] => { results := [.lit (.bool true)], args := [d1, d2, d3] }
  | _ => none }
def literalFormatRow : OpenClaim := { program := "ythkkllmmbefedaagreatdoor", sum := "8a01bc00fe5414f74ba38660188a194d874ae1ad07bda7e7de2d32122f5ec4e9", func := "sheave/sheavelaw12.LiteralFormat", spec := "literalFormat", inPlace := ["internal/bytealg.IndexByteString", "internal/abi.NoEscape"], unfollowed := true, recurses := true, named := ["sheave/lexer.symbols", "strconv.ErrSyntax", "strconv.ErrRange", "internal/strconv.uint64pow10", "math/bits.deBruijn32tab", "math/bits.deBruijn64tab"], loops := true, apart := false, laid := [("math/bits.deBruijn32tab", laid_math_bits_deBruijn32tab), ("math/bits.deBruijn64tab", laid_math_bits_deBruijn64tab), ("internal/strconv.uint64pow10", laid_internal_strconv_uint64pow10), ("strconv.ErrRange", laid_strconv_ErrRange), ("strconv.ErrSyntax", laid_strconv_ErrSyntax), ("sheave/lexer.symbols", laid_sheave_lexer_symbols)] }
def LiteralFormatSaid : Prop := literalFormatRow.holds Tryz.pinned (OpenSpec.ofChange literalFormatSpec)

/-- ITS FALSE NEIGHBOUR: 'it returns false'. Refute it at one input. -/
def literalFormatWrong : ChangeSpec := { name := "literalFormat", fn := fun _ => fun
  | [d1, d2, d3] => { results := [.lit (.bool false)], args := [d1, d2, d3] }
  | _ => none }
def LiteralFormatWrongFalsely : Prop := literalFormatRow.holds Tryz.pinned (OpenSpec.ofChange literalFormatWrong)

/-- 'sheavelaw12.LiteralRestored': WHATEVER THE INPUT: true; the input reads as it did. -/
def literalRestoredSpec : ChangeSpec := { name := "literalRestored", fn := fun _ => fun
  | [d] => { results := [.lit (.bool true)], args := [d] }
  | _ => none }
def literalRestoredRow : OpenClaim := { program := "ythkkllmmbefedaagreatdoor", sum := "8a01bc00fe5414f74ba38660188a194d874ae1ad07bda7e7de2d32122f5ec4e9", func := "sheave/sheavelaw12.LiteralRestored", spec := "literalRestored", inPlace := ["internal/bytealg.IndexByteString", "internal/abi.NoEscape"], unfollowed := true, recurses := true, named := ["sheave/lexer.symbols", "strconv.ErrSyntax", "strconv.ErrRange", "internal/strconv.uint64pow10", "math/bits.deBruijn32tab", "math/bits.deBruijn64tab"], apart := false, laid := [("math/bits.deBruijn32tab", laid_math_bits_deBruijn32tab), ("math/bits.deBruijn64tab", laid_math_bits_deBruijn64tab), ("internal/strconv.uint64pow10", laid_internal_strconv_uint64pow10), ("strconv.ErrRange", laid_strconv_ErrRange), ("strconv.ErrSyntax", laid_strconv_ErrSyntax), ("sheave/lexer.symbols", laid_sheave_lexer_symbols)] }
def LiteralRestoredSaid : Prop := literalRestoredRow.holds Tryz.pinned (OpenSpec.ofChange literalRestoredSpec)

/-- ITS FALSE NEIGHBOUR: 'it returns false'. Refute it at one input. -/
def literalRestoredWrong : ChangeSpec := { name := "literalRestored", fn := fun _ => fun
  | [d] => { results := [.lit (.bool false)], args := [d] }
  | _ => none }
def LiteralRestoredWrongFalsely : Prop := literalRestoredRow.holds Tryz.pinned (OpenSpec.ofChange literalRestoredWrong)

/-- 'sheavelaw12.LiteralParse': WHATEVER THE INPUT: true; the input reads as it did. -/
def literalParseSpec : ChangeSpec := { name := "literalParse", fn := fun _ => fun
  | [d1, d2, d3] => { results := [.lit (.bool true)], args := [d1, d2, d3] }
  | _ => none }
def literalParseRow : OpenClaim := { program := "ythkkllmmbefedaagreatdoor", sum := "8a01bc00fe5414f74ba38660188a194d874ae1ad07bda7e7de2d32122f5ec4e9", func := "sheave/sheavelaw12.LiteralParse", spec := "literalParse", inPlace := ["internal/bytealg.IndexByteString", "internal/abi.NoEscape"], unfollowed := true, recurses := true, named := ["sheave/lexer.symbols", "strconv.ErrSyntax", "strconv.ErrRange", "internal/strconv.uint64pow10", "math/bits.deBruijn32tab", "math/bits.deBruijn64tab"], apart := false, laid := [("math/bits.deBruijn32tab", laid_math_bits_deBruijn32tab), ("math/bits.deBruijn64tab", laid_math_bits_deBruijn64tab), ("internal/strconv.uint64pow10", laid_internal_strconv_uint64pow10), ("strconv.ErrRange", laid_strconv_ErrRange), ("strconv.ErrSyntax", laid_strconv_ErrSyntax), ("sheave/lexer.symbols", laid_sheave_lexer_symbols)] }
def LiteralParseSaid : Prop := literalParseRow.holds Tryz.pinned (OpenSpec.ofChange literalParseSpec)

/-- ITS FALSE NEIGHBOUR: 'it returns false'. Refute it at one input. -/
def literalParseWrong : ChangeSpec := { name := "literalParse", fn := fun _ => fun
  | [d1, d2, d3] => { results := [.lit (.bool false)], args := [d1, d2, d3] }
  | _ => none }
def LiteralParseWrongFalsely : Prop := literalParseRow.holds Tryz.pinned (OpenSpec.ofChange literalParseWrong)

/-- 'sheavelaw12.LiteralTokens': WHATEVER THE INPUT: true; the input reads as it did. -/
def literalTokensSpec : ChangeSpec := { name := "literalTokens", fn := fun _ => fun
  | [d1, d2, d3] => { results := [.lit (.bool true)], args := [d1, d2, d3] }
  | _ => none }
def literalTokensRow : OpenClaim := { program := "ythkkllmmbefedaagreatdoor", sum := "8a01bc00fe5414f74ba38660188a194d874ae1ad07bda7e7de2d32122f5ec4e9", func := "sheave/sheavelaw12.LiteralTokens", spec := "literalTokens", inPlace := ["internal/bytealg.IndexByteString", "internal/abi.NoEscape"], unfollowed := true, recurses := true, named := ["sheave/lexer.symbols", "strconv.ErrSyntax", "strconv.ErrRange", "internal/strconv.uint64pow10", "math/bits.deBruijn32tab", "math/bits.deBruijn64tab"], apart := false, laid := [("math/bits.deBruijn32tab", laid_math_bits_deBruijn32tab), ("math/bits.deBruijn64tab", laid_math_bits_deBruijn64tab), ("internal/strconv.uint64pow10", laid_internal_strconv_uint64pow10), ("strconv.ErrRange", laid_strconv_ErrRange), ("strconv.ErrSyntax", laid_strconv_ErrSyntax), ("sheave/lexer.symbols", laid_sheave_lexer_symbols)] }
def LiteralTokensSaid : Prop := literalTokensRow.holds Tryz.pinned (OpenSpec.ofChange literalTokensSpec)

/-- ITS FALSE NEIGHBOUR: 'it returns false'. Refute it at one input. -/
def literalTokensWrong : ChangeSpec := { name := "literalTokens", fn := fun _ => fun
  | [d1, d2, d3] => { results := [.lit (.bool false)], args := [d1, d2, d3] }
  | _ => none }
def LiteralTokensWrongFalsely : Prop := literalTokensRow.holds Tryz.pinned (OpenSpec.ofChange literalTokensWrong)

/-- 'sheavelaw12.LiteralSpace': WHATEVER THE INPUT: true; the input reads as it did. -/
def literalSpaceSpec : ChangeSpec := { name := "literalSpace", fn := fun _ => fun
  | [d1, d2, d3] => { results := [.lit (.bool true)], args := [d1, d2, d3] }
  | _ => none }
def literalSpaceRow : OpenClaim := { program := "ythkkllmmbefedaagreatdoor", sum := "8a01bc00fe5414f74ba38660188a194d874ae1ad07bda7e7de2d32122f5ec4e9", func := "sheave/sheavelaw12.LiteralSpace", spec := "literalSpace", inPlace := ["internal/bytealg.IndexByteString", "internal/abi.NoEscape"], unfollowed := true, recurses := true, named := ["sheave/lexer.symbols", "strconv.ErrSyntax", "strconv.ErrRange", "internal/strconv.uint64pow10", "math/bits.deBruijn32tab", "math/bits.deBruijn64tab"], apart := false, laid := [("math/bits.deBruijn32tab", laid_math_bits_deBruijn32tab), ("math/bits.deBruijn64tab", laid_math_bits_deBruijn64tab), ("internal/strconv.uint64pow10", laid_internal_strconv_uint64pow10), ("strconv.ErrRange", laid_strconv_ErrRange), ("strconv.ErrSyntax", laid_strconv_ErrSyntax), ("sheave/lexer.symbols", laid_sheave_lexer_symbols)] }
def LiteralSpaceSaid : Prop := literalSpaceRow.holds Tryz.pinned (OpenSpec.ofChange literalSpaceSpec)

/-- ITS FALSE NEIGHBOUR: 'it returns false'. Refute it at one input. -/
def literalSpaceWrong : ChangeSpec := { name := "literalSpace", fn := fun _ => fun
  | [d1, d2, d3] => { results := [.lit (.bool false)], args := [d1, d2, d3] }
  | _ => none }
def LiteralSpaceWrongFalsely : Prop := literalSpaceRow.holds Tryz.pinned (OpenSpec.ofChange literalSpaceWrong)

/-- 'sheavelaw12.LiteralPath': WHATEVER THE INPUT: true; the input reads as it did. -/
def literalPathSpec : ChangeSpec := { name := "literalPath", fn := fun _ => fun
  | [d1, d2, d3] => { results := [.lit (.bool true)], args := [d1, d2, d3] }
  | _ => none }
def literalPathRow : OpenClaim := { program := "ythkkllmmbefedaagreatdoor", sum := "8a01bc00fe5414f74ba38660188a194d874ae1ad07bda7e7de2d32122f5ec4e9", func := "sheave/sheavelaw12.LiteralPath", spec := "literalPath", inPlace := ["internal/bytealg.IndexByteString", "internal/abi.NoEscape"], unfollowed := true, recurses := true, named := ["sheave/lexer.symbols", "strconv.ErrSyntax", "strconv.ErrRange", "internal/strconv.uint64pow10", "math/bits.deBruijn32tab", "math/bits.deBruijn64tab"], loops := true, apart := false, laid := [("math/bits.deBruijn32tab", laid_math_bits_deBruijn32tab), ("math/bits.deBruijn64tab", laid_math_bits_deBruijn64tab), ("internal/strconv.uint64pow10", laid_internal_strconv_uint64pow10), ("strconv.ErrRange", laid_strconv_ErrRange), ("strconv.ErrSyntax", laid_strconv_ErrSyntax), ("sheave/lexer.symbols", laid_sheave_lexer_symbols)] }
def LiteralPathSaid : Prop := literalPathRow.holds Tryz.pinned (OpenSpec.ofChange literalPathSpec)

/-- ITS FALSE NEIGHBOUR: 'it returns false'. Refute it at one input. -/
def literalPathWrong : ChangeSpec := { name := "literalPath", fn := fun _ => fun
  | [d1, d2, d3] => { results := [.lit (.bool false)], args := [d1, d2, d3] }
  | _ => none }
def LiteralPathWrongFalsely : Prop := literalPathRow.holds Tryz.pinned (OpenSpec.ofChange literalPathWrong)

/-- 'sheavelaw12.LiteralRead': WHATEVER THE INPUT: true; the input reads as it did. -/
def literalReadSpec : ChangeSpec := { name := "literalRead", fn := fun _ => fun
  | [d1, d2, d3] => { results := [.lit (.bool true)], args := [d1, d2, d3] }
  | _ => none }
def literalReadRow : OpenClaim := { program := "ythkkllmmbefedaagreatdoor", sum := "8a01bc00fe5414f74ba38660188a194d874ae1ad07bda7e7de2d32122f5ec4e9", func := "sheave/sheavelaw12.LiteralRead", spec := "literalRead", inPlace := ["internal/bytealg.IndexByteString", "internal/abi.NoEscape"], unfollowed := true, recurses := true, named := ["sheave/lexer.symbols", "strconv.ErrSyntax", "strconv.ErrRange", "internal/strconv.uint64pow10", "math/bits.deBruijn32tab", "math/bits.deBruijn64tab"], apart := false, laid := [("math/bits.deBruijn32tab", laid_math_bits_deBruijn32tab), ("math/bits.deBruijn64tab", laid_math_bits_deBruijn64tab), ("internal/strconv.uint64pow10", laid_internal_strconv_uint64pow10), ("strconv.ErrRange", laid_strconv_ErrRange), ("strconv.ErrSyntax", laid_strconv_ErrSyntax), ("sheave/lexer.symbols", laid_sheave_lexer_symbols)] }
def LiteralReadSaid : Prop := literalReadRow.holds Tryz.pinned (OpenSpec.ofChange literalReadSpec)

/-- ITS FALSE NEIGHBOUR: 'it returns false'. Refute it at one input. -/
def literalReadWrong : ChangeSpec := { name := "literalRead", fn := fun _ => fun
  | [d1, d2, d3] => { results := [.lit (.bool false)], args := [d1, d2, d3] }
  | _ => none }
def LiteralReadWrongFalsely : Prop := literalReadRow.holds Tryz.pinned (OpenSpec.ofChange literalReadWrong)

/-- 'sheavelaw12.LiteralPrefix': WHATEVER THE INPUT: true; the input reads as it did. -/
def literalPrefixSpec : ChangeSpec := { name := "literalPrefix", fn := fun _ => fun
  | [d1, d2] => { results := [.lit (.bool true)], args := [d1, d2] }
  | _ => none }
def literalPrefixRow : OpenClaim := { program := "ythkkllmmbefedaagreatdoor", sum := "8a01bc00fe5414f74ba38660188a194d874ae1ad07bda7e7de2d32122f5ec4e9", func := "sheave/sheavelaw12.LiteralPrefix", spec := "literalPrefix", inPlace := ["internal/bytealg.IndexByteString", "internal/abi.NoEscape"], unfollowed := true, recurses := true, named := ["sheave/lexer.symbols", "strconv.ErrSyntax", "strconv.ErrRange", "internal/strconv.uint64pow10", "math/bits.deBruijn32tab", "math/bits.deBruijn64tab"], apart := false, laid := [("math/bits.deBruijn32tab", laid_math_bits_deBruijn32tab), ("math/bits.deBruijn64tab", laid_math_bits_deBruijn64tab), ("internal/strconv.uint64pow10", laid_internal_strconv_uint64pow10), ("strconv.ErrRange", laid_strconv_ErrRange), ("strconv.ErrSyntax", laid_strconv_ErrSyntax), ("sheave/lexer.symbols", laid_sheave_lexer_symbols)] }
def LiteralPrefixSaid : Prop := literalPrefixRow.holds Tryz.pinned (OpenSpec.ofChange literalPrefixSpec)

/-- ITS FALSE NEIGHBOUR: 'it returns false'. Refute it at one input. -/
def literalPrefixWrong : ChangeSpec := { name := "literalPrefix", fn := fun _ => fun
  | [d1, d2] => { results := [.lit (.bool false)], args := [d1, d2] }
  | _ => none }
def LiteralPrefixWrongFalsely : Prop := literalPrefixRow.holds Tryz.pinned (OpenSpec.ofChange literalPrefixWrong)

/- THE SECOND FORM. 'bulk': how many values and letters a reading holds, each counted each time it is reached (what is shared counts as often as it is met; a slice's spare places count too). A statement '..UptoSaid' is the law's where the arguments, and the package variables that the reading takes, are together of bulk at most 1048576: NARROWER than '..Said'. Prove '..Said' where nothing that the law and all that it calls make is longer than what came in: it says more and counts as full. Else prove '..UptoSaid'. A law counts once. -/
mutual
def uptoBulk {H : Type} : DataW H → Nat
  | .lit (.string bytes) => bytes.length + 1
  | .lit _ => 1
  | .nil => 1
  | .ptr d => uptoBulk d + 1
  | .slice elems spare => uptoBulkAll elems + uptoBulkAll spare + 1
  | .agg parts => uptoBulkAll parts + 1
  | .iface _ d => uptoBulk d + 1
  | .map entries => uptoBulkEntries entries + 1
  | .held _ => 1
def uptoBulkAll {H : Type} : List (DataW H) → Nat
  | [] => 0
  | d :: r => uptoBulk d + uptoBulkAll r
def uptoBulkEntries {H : Type} : List (Lit × DataW H) → Nat
  | [] => 0
  | x :: r => uptoBulkEntry x + uptoBulkEntries r
def uptoBulkEntry {H : Type} : Lit × DataW H → Nat
  | (.string bytes, d) => bytes.length + uptoBulk d + 1
  | (_, d) => uptoBulk d + 1
 end
def uptoSmall : (H : Type) → List (DataW H) → Bool := fun _ ds => decide (uptoBulkAll ds ≤ 1048576)
def OpenSpec.upto (s : _root_.Go.ChangeSpec) : _root_.Go.OpenSpec := { _root_.Go.OpenSpec.ofChange s with cond := some uptoSmall }

/-- 'sheavelaw12.LiteralFormat', WHERE WHAT IT READS IS OF BULK AT MOST 1048576: true; the input reads as it did. -/
def literalFormatUptoRow : OpenClaim := { program := "ythkkllmmbefedaagreatdoor", sum := "8a01bc00fe5414f74ba38660188a194d874ae1ad07bda7e7de2d32122f5ec4e9", func := "sheave/sheavelaw12.LiteralFormat", spec := "literalFormat", inPlace := ["internal/bytealg.IndexByteString", "internal/abi.NoEscape"], unfollowed := true, recurses := true, named := ["sheave/lexer.symbols", "strconv.ErrSyntax", "strconv.ErrRange", "internal/strconv.uint64pow10", "math/bits.deBruijn32tab", "math/bits.deBruijn64tab"], loops := true, apart := false, laid := [("math/bits.deBruijn32tab", laid_math_bits_deBruijn32tab), ("math/bits.deBruijn64tab", laid_math_bits_deBruijn64tab), ("internal/strconv.uint64pow10", laid_internal_strconv_uint64pow10), ("strconv.ErrRange", laid_strconv_ErrRange), ("strconv.ErrSyntax", laid_strconv_ErrSyntax), ("sheave/lexer.symbols", laid_sheave_lexer_symbols)], narrowed := true }
def LiteralFormatUptoSaid : Prop := literalFormatUptoRow.holds Tryz.pinned (OpenSpec.upto literalFormatSpec)

/-- 'sheavelaw12.LiteralRestored', WHERE WHAT IT READS IS OF BULK AT MOST 1048576: true; the input reads as it did. -/
def literalRestoredUptoRow : OpenClaim := { program := "ythkkllmmbefedaagreatdoor", sum := "8a01bc00fe5414f74ba38660188a194d874ae1ad07bda7e7de2d32122f5ec4e9", func := "sheave/sheavelaw12.LiteralRestored", spec := "literalRestored", inPlace := ["internal/bytealg.IndexByteString", "internal/abi.NoEscape"], unfollowed := true, recurses := true, named := ["sheave/lexer.symbols", "strconv.ErrSyntax", "strconv.ErrRange", "internal/strconv.uint64pow10", "math/bits.deBruijn32tab", "math/bits.deBruijn64tab"], apart := false, laid := [("math/bits.deBruijn32tab", laid_math_bits_deBruijn32tab), ("math/bits.deBruijn64tab", laid_math_bits_deBruijn64tab), ("internal/strconv.uint64pow10", laid_internal_strconv_uint64pow10), ("strconv.ErrRange", laid_strconv_ErrRange), ("strconv.ErrSyntax", laid_strconv_ErrSyntax), ("sheave/lexer.symbols", laid_sheave_lexer_symbols)], narrowed := true }
def LiteralRestoredUptoSaid : Prop := literalRestoredUptoRow.holds Tryz.pinned (OpenSpec.upto literalRestoredSpec)

/-- 'sheavelaw12.LiteralParse', WHERE WHAT IT READS IS OF BULK AT MOST 1048576: true; the input reads as it did. -/
def literalParseUptoRow : OpenClaim := { program := "ythkkllmmbefedaagreatdoor", sum := "8a01bc00fe5414f74ba38660188a194d874ae1ad07bda7e7de2d32122f5ec4e9", func := "sheave/sheavelaw12.LiteralParse", spec := "literalParse", inPlace := ["internal/bytealg.IndexByteString", "internal/abi.NoEscape"], unfollowed := true, recurses := true, named := ["sheave/lexer.symbols", "strconv.ErrSyntax", "strconv.ErrRange", "internal/strconv.uint64pow10", "math/bits.deBruijn32tab", "math/bits.deBruijn64tab"], apart := false, laid := [("math/bits.deBruijn32tab", laid_math_bits_deBruijn32tab), ("math/bits.deBruijn64tab", laid_math_bits_deBruijn64tab), ("internal/strconv.uint64pow10", laid_internal_strconv_uint64pow10), ("strconv.ErrRange", laid_strconv_ErrRange), ("strconv.ErrSyntax", laid_strconv_ErrSyntax), ("sheave/lexer.symbols", laid_sheave_lexer_symbols)], narrowed := true }
def LiteralParseUptoSaid : Prop := literalParseUptoRow.holds Tryz.pinned (OpenSpec.upto literalParseSpec)

/-- 'sheavelaw12.LiteralTokens', WHERE WHAT IT READS IS OF BULK AT MOST 1048576: true; the input reads as it did. -/
def literalTokensUptoRow : OpenClaim := { program := "ythkkllmmbefedaagreatdoor", sum := "8a01bc00fe5414f74ba38660188a194d874ae1ad07bda7e7de2d32122f5ec4e9", func := "sheave/sheavelaw12.LiteralTokens", spec := "literalTokens", inPlace := ["internal/bytealg.IndexByteString", "internal/abi.NoEscape"], unfollowed := true, recurses := true, named := ["sheave/lexer.symbols", "strconv.ErrSyntax", "strconv.ErrRange", "internal/strconv.uint64pow10", "math/bits.deBruijn32tab", "math/bits.deBruijn64tab"], apart := false, laid := [("math/bits.deBruijn32tab", laid_math_bits_deBruijn32tab), ("math/bits.deBruijn64tab", laid_math_bits_deBruijn64tab), ("internal/strconv.uint64pow10", laid_internal_strconv_uint64pow10), ("strconv.ErrRange", laid_strconv_ErrRange), ("strconv.ErrSyntax", laid_strconv_ErrSyntax), ("sheave/lexer.symbols", laid_sheave_lexer_symbols)], narrowed := true }
def LiteralTokensUptoSaid : Prop := literalTokensUptoRow.holds Tryz.pinned (OpenSpec.upto literalTokensSpec)

/-- 'sheavelaw12.LiteralSpace', WHERE WHAT IT READS IS OF BULK AT MOST 1048576: true; the input reads as it did. -/
def literalSpaceUptoRow : OpenClaim := { program := "ythkkllmmbefedaagreatdoor", sum := "8a01bc00fe5414f74ba38660188a194d874ae1ad07bda7e7de2d32122f5ec4e9", func := "sheave/sheavelaw12.LiteralSpace", spec := "literalSpace", inPlace := ["internal/bytealg.IndexByteString", "internal/abi.NoEscape"], unfollowed := true, recurses := true, named := ["sheave/lexer.symbols", "strconv.ErrSyntax", "strconv.ErrRange", "internal/strconv.uint64pow10", "math/bits.deBruijn32tab", "math/bits.deBruijn64tab"], apart := false, laid := [("math/bits.deBruijn32tab", laid_math_bits_deBruijn32tab), ("math/bits.deBruijn64tab", laid_math_bits_deBruijn64tab), ("internal/strconv.uint64pow10", laid_internal_strconv_uint64pow10), ("strconv.ErrRange", laid_strconv_ErrRange), ("strconv.ErrSyntax", laid_strconv_ErrSyntax), ("sheave/lexer.symbols", laid_sheave_lexer_symbols)], narrowed := true }
def LiteralSpaceUptoSaid : Prop := literalSpaceUptoRow.holds Tryz.pinned (OpenSpec.upto literalSpaceSpec)

/-- 'sheavelaw12.LiteralPath', WHERE WHAT IT READS IS OF BULK AT MOST 1048576: true; the input reads as it did. -/
def literalPathUptoRow : OpenClaim := { program := "ythkkllmmbefedaagreatdoor", sum := "8a01bc00fe5414f74ba38660188a194d874ae1ad07bda7e7de2d32122f5ec4e9", func := "sheave/sheavelaw12.LiteralPath", spec := "literalPath", inPlace := ["internal/bytealg.IndexByteString", "internal/abi.NoEscape"], unfollowed := true, recurses := true, named := ["sheave/lexer.symbols", "strconv.ErrSyntax", "strconv.ErrRange", "internal/strconv.uint64pow10", "math/bits.deBruijn32tab", "math/bits.deBruijn64tab"], loops := true, apart := false, laid := [("math/bits.deBruijn32tab", laid_math_bits_deBruijn32tab), ("math/bits.deBruijn64tab", laid_math_bits_deBruijn64tab), ("internal/strconv.uint64pow10", laid_internal_strconv_uint64pow10), ("strconv.ErrRange", laid_strconv_ErrRange), ("strconv.ErrSyntax", laid_strconv_ErrSyntax), ("sheave/lexer.symbols", laid_sheave_lexer_symbols)], narrowed := true }
def LiteralPathUptoSaid : Prop := literalPathUptoRow.holds Tryz.pinned (OpenSpec.upto literalPathSpec)

/-- 'sheavelaw12.LiteralRead', WHERE WHAT IT READS IS OF BULK AT MOST 1048576: true; the input reads as it did. -/
def literalReadUptoRow : OpenClaim := { program := "ythkkllmmbefedaagreatdoor", sum := "8a01bc00fe5414f74ba38660188a194d874ae1ad07bda7e7de2d32122f5ec4e9", func := "sheave/sheavelaw12.LiteralRead", spec := "literalRead", inPlace := ["internal/bytealg.IndexByteString", "internal/abi.NoEscape"], unfollowed := true, recurses := true, named := ["sheave/lexer.symbols", "strconv.ErrSyntax", "strconv.ErrRange", "internal/strconv.uint64pow10", "math/bits.deBruijn32tab", "math/bits.deBruijn64tab"], apart := false, laid := [("math/bits.deBruijn32tab", laid_math_bits_deBruijn32tab), ("math/bits.deBruijn64tab", laid_math_bits_deBruijn64tab), ("internal/strconv.uint64pow10", laid_internal_strconv_uint64pow10), ("strconv.ErrRange", laid_strconv_ErrRange), ("strconv.ErrSyntax", laid_strconv_ErrSyntax), ("sheave/lexer.symbols", laid_sheave_lexer_symbols)], narrowed := true }
def LiteralReadUptoSaid : Prop := literalReadUptoRow.holds Tryz.pinned (OpenSpec.upto literalReadSpec)

/-- 'sheavelaw12.LiteralPrefix', WHERE WHAT IT READS IS OF BULK AT MOST 1048576: true; the input reads as it did. -/
def literalPrefixUptoRow : OpenClaim := { program := "ythkkllmmbefedaagreatdoor", sum := "8a01bc00fe5414f74ba38660188a194d874ae1ad07bda7e7de2d32122f5ec4e9", func := "sheave/sheavelaw12.LiteralPrefix", spec := "literalPrefix", inPlace := ["internal/bytealg.IndexByteString", "internal/abi.NoEscape"], unfollowed := true, recurses := true, named := ["sheave/lexer.symbols", "strconv.ErrSyntax", "strconv.ErrRange", "internal/strconv.uint64pow10", "math/bits.deBruijn32tab", "math/bits.deBruijn64tab"], apart := false, laid := [("math/bits.deBruijn32tab", laid_math_bits_deBruijn32tab), ("math/bits.deBruijn64tab", laid_math_bits_deBruijn64tab), ("internal/strconv.uint64pow10", laid_internal_strconv_uint64pow10), ("strconv.ErrRange", laid_strconv_ErrRange), ("strconv.ErrSyntax", laid_strconv_ErrSyntax), ("sheave/lexer.symbols", laid_sheave_lexer_symbols)], narrowed := true }
def LiteralPrefixUptoSaid : Prop := literalPrefixUptoRow.holds Tryz.pinned (OpenSpec.upto literalPrefixSpec)

end Rows
end Go.Proofs.YthkkllmmbefedaaGreatDoor
