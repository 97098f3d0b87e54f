/-
  NARROWER THAN 'FOR EVERY INPUT', by the rows' own cells (each row's printed sentence says how): CanonEquivalent: laid · CanonClasses: laid · CanonCanon: laid · CanonAgain: laid · CanonCopies: laid · CanonDistinguish: laid · CanonCopied: laid · CanonErrors: loops, laid.
  DERIVED. THE GIVEN ROWS OF THIS SEAT. 8 by the template 'for every input the law returns true; each argument reads behind the call as it read before'; 0 by the template 'total and deterministic' (their statements: YtkhpajneinmmiaaGreatDoorTotals.lean).
  GIVEN WITH THE SEED: the statements are not yours to turn. If you find one false, say at which input.
  Laid BY PROGRAM, IN A SANDBOX (cutbox-rows.mjs): the forced cells as the released guide's own fill.sh prints them over the translation 9f512d1320f4e6e9… (all of the seat's roots in one cut). By AI agents, Wed Nov 11 2026. No macro, syntax, notation, axiom, sorry.
-/
import Derived.Test.YtkhpajneinmmiaaGreatDoorChecked
import GoSem.Claim
import GoSem.ClaimJoined
import GoSem.ClaimMapViews
import Derived.JoinedTies
import Derived.KernelRfl
namespace Go.Proofs.YtkhpajneinmmiaaGreatDoor
/- THE CELL 'sum', in the pinned program and in every row, IS THE sha256 OF THE DUMP (.gsa) THAT YtkhpajneinmmiaaGreatDoorProg.lean LOADS. Nothing in Lean hashes anything: it is a label: what it is worth is what the hold of that sum in a sandbox is worth. -/
noncomputable def Tryz.pinned : Pinned := { name := "ytkhpajneinmmiaagreatdoor", sum := "9f512d1320f4e6e981024b27cda3b329e32bd4df4efcea6d4c1fe18203755a68", checked := Tryz.checked }
namespace Rows
def none {H : Type} : Left H := { results := [], args := [] }

/- WHAT THE LISTED PACKAGE-LEVEL VARIABLES READ AS WHEN THE CALL BEGINS. Each datum BY PROGRAM (the guide's laid-datum.mjs) off the statement by which the dump's own 'gosem.cut.vars' lays the variable. In a bare row this is a premise. The card (YtkhpajneinmmiaaGreatDoorCards.lean) ties it to the program's text. -/
def laid_math_bits_deBruijn32tab {H : Type} : DataW H := .agg [.lit (.int .u8 0), .lit (.int .u8 1), .lit (.int .u8 28), .lit (.int .u8 2), .lit (.int .u8 29), .lit (.int .u8 14), .lit (.int .u8 24), .lit (.int .u8 3), .lit (.int .u8 30), .lit (.int .u8 22), .lit (.int .u8 20), .lit (.int .u8 15), .lit (.int .u8 25), .lit (.int .u8 17), .lit (.int .u8 4), .lit (.int .u8 8), .lit (.int .u8 31), .lit (.int .u8 27), .lit (.int .u8 13), .lit (.int .u8 23), .lit (.int .u8 21), .lit (.int .u8 19), .lit (.int .u8 16), .lit (.int .u8 7), .lit (.int .u8 26), .lit (.int .u8 12), .lit (.int .u8 18), .lit (.int .u8 6), .lit (.int .u8 11), .lit (.int .u8 5), .lit (.int .u8 10), .lit (.int .u8 9)]
def laid_math_bits_deBruijn64tab {H : Type} : DataW H := .agg [.lit (.int .u8 0), .lit (.int .u8 1), .lit (.int .u8 56), .lit (.int .u8 2), .lit (.int .u8 57), .lit (.int .u8 49), .lit (.int .u8 28), .lit (.int .u8 3), .lit (.int .u8 61), .lit (.int .u8 58), .lit (.int .u8 42), .lit (.int .u8 50), .lit (.int .u8 38), .lit (.int .u8 29), .lit (.int .u8 17), .lit (.int .u8 4), .lit (.int .u8 62), .lit (.int .u8 47), .lit (.int .u8 59), .lit (.int .u8 36), .lit (.int .u8 45), .lit (.int .u8 43), .lit (.int .u8 51), .lit (.int .u8 22), .lit (.int .u8 53), .lit (.int .u8 39), .lit (.int .u8 33), .lit (.int .u8 30), .lit (.int .u8 24), .lit (.int .u8 18), .lit (.int .u8 12), .lit (.int .u8 5), .lit (.int .u8 63), .lit (.int .u8 55), .lit (.int .u8 48), .lit (.int .u8 27), .lit (.int .u8 60), .lit (.int .u8 41), .lit (.int .u8 37), .lit (.int .u8 16), .lit (.int .u8 46), .lit (.int .u8 35), .lit (.int .u8 44), .lit (.int .u8 21), .lit (.int .u8 52), .lit (.int .u8 32), .lit (.int .u8 23), .lit (.int .u8 11), .lit (.int .u8 54), .lit (.int .u8 26), .lit (.int .u8 40), .lit (.int .u8 15), .lit (.int .u8 34), .lit (.int .u8 20), .lit (.int .u8 31), .lit (.int .u8 10), .lit (.int .u8 25), .lit (.int .u8 14), .lit (.int .u8 19), .lit (.int .u8 9), .lit (.int .u8 13), .lit (.int .u8 8), .lit (.int .u8 7), .lit (.int .u8 6)]
def laid_internal_strconv_uint64pow10 {H : Type} : DataW H := .agg [.lit (.int .u64 1), .lit (.int .u64 10), .lit (.int .u64 100), .lit (.int .u64 1000), .lit (.int .u64 10000), .lit (.int .u64 100000), .lit (.int .u64 1000000), .lit (.int .u64 10000000), .lit (.int .u64 100000000), .lit (.int .u64 1000000000), .lit (.int .u64 10000000000), .lit (.int .u64 100000000000), .lit (.int .u64 1000000000000), .lit (.int .u64 10000000000000), .lit (.int .u64 100000000000000), .lit (.int .u64 1000000000000000), .lit (.int .u64 10000000000000000), .lit (.int .u64 100000000000000000), .lit (.int .u64 1000000000000000000), .lit (.int .u64 10000000000000000000)]

/-- 'sheavelaw18.CanonEquivalent': WHATEVER THE INPUT: true; the input reads as it did. -/
def canonEquivalentSpec : ChangeSpec := { name := "canonEquivalent", fn := fun _ => fun
  | [d] => { results := [.lit (.bool true)], args := [d] }
  | _ => none }
def canonEquivalentRow : OpenClaim := { program := "ytkhpajneinmmiaagreatdoor", sum := "9f512d1320f4e6e981024b27cda3b329e32bd4df4efcea6d4c1fe18203755a68", func := "sheave/sheavelaw18.CanonEquivalent", spec := "canonEquivalent", unfollowed := true, recurses := true, named := ["internal/strconv.uint64pow10", "math/bits.deBruijn32tab", "math/bits.deBruijn64tab"], plainKeys := false, apart := false, laid := [("math/bits.deBruijn32tab", laid_math_bits_deBruijn32tab), ("math/bits.deBruijn64tab", laid_math_bits_deBruijn64tab), ("internal/strconv.uint64pow10", laid_internal_strconv_uint64pow10)] }
def CanonEquivalentSaid : Prop := canonEquivalentRow.holds Tryz.pinned (OpenSpec.ofChange canonEquivalentSpec)

/-- ITS FALSE NEIGHBOUR: 'it returns false'. Refute it at one input. -/
def canonEquivalentWrong : ChangeSpec := { name := "canonEquivalent", fn := fun _ => fun
  | [d] => { results := [.lit (.bool false)], args := [d] }
  | _ => none }
def CanonEquivalentWrongFalsely : Prop := canonEquivalentRow.holds Tryz.pinned (OpenSpec.ofChange canonEquivalentWrong)

/-- 'sheavelaw18.CanonClasses': WHATEVER THE INPUT: true; the input reads as it did. -/
def canonClassesSpec : ChangeSpec := { name := "canonClasses", fn := fun _ => fun
  | [d1, d2] => { results := [.lit (.bool true)], args := [d1, d2] }
  | _ => none }
def canonClassesRow : OpenClaim := { program := "ytkhpajneinmmiaagreatdoor", sum := "9f512d1320f4e6e981024b27cda3b329e32bd4df4efcea6d4c1fe18203755a68", func := "sheave/sheavelaw18.CanonClasses", spec := "canonClasses", unfollowed := true, recurses := true, named := ["internal/strconv.uint64pow10", "math/bits.deBruijn32tab", "math/bits.deBruijn64tab"], plainKeys := false, apart := false, laid := [("math/bits.deBruijn32tab", laid_math_bits_deBruijn32tab), ("math/bits.deBruijn64tab", laid_math_bits_deBruijn64tab), ("internal/strconv.uint64pow10", laid_internal_strconv_uint64pow10)] }
def CanonClassesSaid : Prop := canonClassesRow.holds Tryz.pinned (OpenSpec.ofChange canonClassesSpec)

/-- ITS FALSE NEIGHBOUR: 'it returns false'. Refute it at one input. -/
def canonClassesWrong : ChangeSpec := { name := "canonClasses", fn := fun _ => fun
  | [d1, d2] => { results := [.lit (.bool false)], args := [d1, d2] }
  | _ => none }
def CanonClassesWrongFalsely : Prop := canonClassesRow.holds Tryz.pinned (OpenSpec.ofChange canonClassesWrong)

/-- 'sheavelaw18.CanonCanon': WHATEVER THE INPUT: true; the input reads as it did. -/
def canonCanonSpec : ChangeSpec := { name := "canonCanon", fn := fun _ => fun
  | [d] => { results := [.lit (.bool true)], args := [d] }
  | _ => none }
def canonCanonRow : OpenClaim := { program := "ytkhpajneinmmiaagreatdoor", sum := "9f512d1320f4e6e981024b27cda3b329e32bd4df4efcea6d4c1fe18203755a68", func := "sheave/sheavelaw18.CanonCanon", spec := "canonCanon", unfollowed := true, recurses := true, named := ["internal/strconv.uint64pow10", "math/bits.deBruijn32tab", "math/bits.deBruijn64tab"], plainKeys := false, apart := false, laid := [("math/bits.deBruijn32tab", laid_math_bits_deBruijn32tab), ("math/bits.deBruijn64tab", laid_math_bits_deBruijn64tab), ("internal/strconv.uint64pow10", laid_internal_strconv_uint64pow10)] }
def CanonCanonSaid : Prop := canonCanonRow.holds Tryz.pinned (OpenSpec.ofChange canonCanonSpec)

/-- ITS FALSE NEIGHBOUR: 'it returns false'. Refute it at one input. -/
def canonCanonWrong : ChangeSpec := { name := "canonCanon", fn := fun _ => fun
  | [d] => { results := [.lit (.bool false)], args := [d] }
  | _ => none }
def CanonCanonWrongFalsely : Prop := canonCanonRow.holds Tryz.pinned (OpenSpec.ofChange canonCanonWrong)

/-- 'sheavelaw18.CanonAgain': WHATEVER THE INPUT: true; the input reads as it did. -/
def canonAgainSpec : ChangeSpec := { name := "canonAgain", fn := fun _ => fun
  | [d] => { results := [.lit (.bool true)], args := [d] }
  | _ => none }
def canonAgainRow : OpenClaim := { program := "ytkhpajneinmmiaagreatdoor", sum := "9f512d1320f4e6e981024b27cda3b329e32bd4df4efcea6d4c1fe18203755a68", func := "sheave/sheavelaw18.CanonAgain", spec := "canonAgain", unfollowed := true, recurses := true, named := ["internal/strconv.uint64pow10", "math/bits.deBruijn32tab", "math/bits.deBruijn64tab"], plainKeys := false, apart := false, laid := [("math/bits.deBruijn32tab", laid_math_bits_deBruijn32tab), ("math/bits.deBruijn64tab", laid_math_bits_deBruijn64tab), ("internal/strconv.uint64pow10", laid_internal_strconv_uint64pow10)] }
def CanonAgainSaid : Prop := canonAgainRow.holds Tryz.pinned (OpenSpec.ofChange canonAgainSpec)

/-- ITS FALSE NEIGHBOUR: 'it returns false'. Refute it at one input. -/
def canonAgainWrong : ChangeSpec := { name := "canonAgain", fn := fun _ => fun
  | [d] => { results := [.lit (.bool false)], args := [d] }
  | _ => none }
def CanonAgainWrongFalsely : Prop := canonAgainRow.holds Tryz.pinned (OpenSpec.ofChange canonAgainWrong)

/-- 'sheavelaw18.CanonCopies': WHATEVER THE INPUT: true; the input reads as it did. -/
def canonCopiesSpec : ChangeSpec := { name := "canonCopies", fn := fun _ => fun
  | [d1, d2, d3] => { results := [.lit (.bool true)], args := [d1, d2, d3] }
  | _ => none }
def canonCopiesRow : OpenClaim := { program := "ytkhpajneinmmiaagreatdoor", sum := "9f512d1320f4e6e981024b27cda3b329e32bd4df4efcea6d4c1fe18203755a68", func := "sheave/sheavelaw18.CanonCopies", spec := "canonCopies", unfollowed := true, recurses := true, named := ["internal/strconv.uint64pow10", "math/bits.deBruijn32tab", "math/bits.deBruijn64tab"], plainKeys := false, apart := false, laid := [("math/bits.deBruijn32tab", laid_math_bits_deBruijn32tab), ("math/bits.deBruijn64tab", laid_math_bits_deBruijn64tab), ("internal/strconv.uint64pow10", laid_internal_strconv_uint64pow10)] }
def CanonCopiesSaid : Prop := canonCopiesRow.holds Tryz.pinned (OpenSpec.ofChange canonCopiesSpec)

/-- ITS FALSE NEIGHBOUR: 'it returns false'. Refute it at one input. -/
def canonCopiesWrong : ChangeSpec := { name := "canonCopies", fn := fun _ => fun
  | [d1, d2, d3] => { results := [.lit (.bool false)], args := [d1, d2, d3] }
  | _ => none }
def CanonCopiesWrongFalsely : Prop := canonCopiesRow.holds Tryz.pinned (OpenSpec.ofChange canonCopiesWrong)

/-- 'sheavelaw18.CanonDistinguish': WHATEVER THE INPUT: true; the input reads as it did. -/
def canonDistinguishSpec : ChangeSpec := { name := "canonDistinguish", fn := fun _ => fun
  | [d] => { results := [.lit (.bool true)], args := [d] }
  | _ => none }
def canonDistinguishRow : OpenClaim := { program := "ytkhpajneinmmiaagreatdoor", sum := "9f512d1320f4e6e981024b27cda3b329e32bd4df4efcea6d4c1fe18203755a68", func := "sheave/sheavelaw18.CanonDistinguish", spec := "canonDistinguish", unfollowed := true, recurses := true, named := ["internal/strconv.uint64pow10", "math/bits.deBruijn32tab", "math/bits.deBruijn64tab"], plainKeys := false, apart := false, laid := [("math/bits.deBruijn32tab", laid_math_bits_deBruijn32tab), ("math/bits.deBruijn64tab", laid_math_bits_deBruijn64tab), ("internal/strconv.uint64pow10", laid_internal_strconv_uint64pow10)] }
def CanonDistinguishSaid : Prop := canonDistinguishRow.holds Tryz.pinned (OpenSpec.ofChange canonDistinguishSpec)

/-- ITS FALSE NEIGHBOUR: 'it returns false'. Refute it at one input. -/
def canonDistinguishWrong : ChangeSpec := { name := "canonDistinguish", fn := fun _ => fun
  | [d] => { results := [.lit (.bool false)], args := [d] }
  | _ => none }
def CanonDistinguishWrongFalsely : Prop := canonDistinguishRow.holds Tryz.pinned (OpenSpec.ofChange canonDistinguishWrong)

/-- 'sheavelaw18.CanonCopied': WHATEVER THE INPUT: true; the input reads as it did. -/
def canonCopiedSpec : ChangeSpec := { name := "canonCopied", fn := fun _ => fun
  | [d1, d2, d3] => { results := [.lit (.bool true)], args := [d1, d2, d3] }
  | _ => none }
def canonCopiedRow : OpenClaim := { program := "ytkhpajneinmmiaagreatdoor", sum := "9f512d1320f4e6e981024b27cda3b329e32bd4df4efcea6d4c1fe18203755a68", func := "sheave/sheavelaw18.CanonCopied", spec := "canonCopied", unfollowed := true, recurses := true, named := ["internal/strconv.uint64pow10", "math/bits.deBruijn32tab", "math/bits.deBruijn64tab"], plainKeys := false, apart := false, laid := [("math/bits.deBruijn32tab", laid_math_bits_deBruijn32tab), ("math/bits.deBruijn64tab", laid_math_bits_deBruijn64tab), ("internal/strconv.uint64pow10", laid_internal_strconv_uint64pow10)] }
def CanonCopiedSaid : Prop := canonCopiedRow.holds Tryz.pinned (OpenSpec.ofChange canonCopiedSpec)

/-- ITS FALSE NEIGHBOUR: 'it returns false'. Refute it at one input. -/
def canonCopiedWrong : ChangeSpec := { name := "canonCopied", fn := fun _ => fun
  | [d1, d2, d3] => { results := [.lit (.bool false)], args := [d1, d2, d3] }
  | _ => none }
def CanonCopiedWrongFalsely : Prop := canonCopiedRow.holds Tryz.pinned (OpenSpec.ofChange canonCopiedWrong)

/-- 'sheavelaw18.CanonErrors': WHATEVER THE INPUT: true; the input reads as it did. -/
def canonErrorsSpec : ChangeSpec := { name := "canonErrors", fn := fun _ => fun
  | [d1, d2] => { results := [.lit (.bool true)], args := [d1, d2] }
  | _ => none }
def canonErrorsRow : OpenClaim := { program := "ytkhpajneinmmiaagreatdoor", sum := "9f512d1320f4e6e981024b27cda3b329e32bd4df4efcea6d4c1fe18203755a68", func := "sheave/sheavelaw18.CanonErrors", spec := "canonErrors", unfollowed := true, recurses := true, named := ["internal/strconv.uint64pow10", "math/bits.deBruijn32tab", "math/bits.deBruijn64tab"], loops := true, plainKeys := false, apart := false, laid := [("math/bits.deBruijn32tab", laid_math_bits_deBruijn32tab), ("math/bits.deBruijn64tab", laid_math_bits_deBruijn64tab), ("internal/strconv.uint64pow10", laid_internal_strconv_uint64pow10)] }
def CanonErrorsSaid : Prop := canonErrorsRow.holds Tryz.pinned (OpenSpec.ofChange canonErrorsSpec)

/-- ITS FALSE NEIGHBOUR: 'it returns false'. Refute it at one input. -/
def canonErrorsWrong : ChangeSpec := { name := "canonErrors", fn := fun _ => fun
  | [d1, d2] => { results := [.lit (.bool false)], args := [d1, d2] }
  | _ => none }
def CanonErrorsWrongFalsely : Prop := canonErrorsRow.holds Tryz.pinned (OpenSpec.ofChange canonErrorsWrong)

/- THE SECOND FORM. 'bulk': how many values and letters a reading holds, each counted each time it is reached (what is shared counts as often as it is met; a slice's spare places count too). A statement '..UptoSaid' is the law's where the arguments, and the package variables that the reading takes, are together of bulk at most 1048576: NARROWER than '..Said'. Prove '..Said' where nothing that the law and all that it calls make is longer than what came in: it says more and counts as full. Else prove '..UptoSaid'. A law counts once. -/
mutual
def uptoBulk {H : Type} : DataW H → Nat
  | .lit (.string bytes) => bytes.length + 1
  | .lit _ => 1
  | .nil => 1
  | .ptr d => uptoBulk d + 1
  | .slice elems spare => uptoBulkAll elems + uptoBulkAll spare + 1
  | .agg parts => uptoBulkAll parts + 1
  | .iface _ d => uptoBulk d + 1
  | .map entries => uptoBulkEntries entries + 1
  | .held _ => 1
def uptoBulkAll {H : Type} : List (DataW H) → Nat
  | [] => 0
  | d :: r => uptoBulk d + uptoBulkAll r
def uptoBulkEntries {H : Type} : List (Lit × DataW H) → Nat
  | [] => 0
  | x :: r => uptoBulkEntry x + uptoBulkEntries r
def uptoBulkEntry {H : Type} : Lit × DataW H → Nat
  | (.string bytes, d) => bytes.length + uptoBulk d + 1
  | (_, d) => uptoBulk d + 1
 end
def uptoSmall : (H : Type) → List (DataW H) → Bool := fun _ ds => decide (uptoBulkAll ds ≤ 1048576)
def OpenSpec.upto (s : _root_.Go.ChangeSpec) : _root_.Go.OpenSpec := { _root_.Go.OpenSpec.ofChange s with cond := some uptoSmall }

/-- 'sheavelaw18.CanonEquivalent', WHERE WHAT IT READS IS OF BULK AT MOST 1048576: true; the input reads as it did. -/
def canonEquivalentUptoRow : OpenClaim := { program := "ytkhpajneinmmiaagreatdoor", sum := "9f512d1320f4e6e981024b27cda3b329e32bd4df4efcea6d4c1fe18203755a68", func := "sheave/sheavelaw18.CanonEquivalent", spec := "canonEquivalent", unfollowed := true, recurses := true, named := ["internal/strconv.uint64pow10", "math/bits.deBruijn32tab", "math/bits.deBruijn64tab"], plainKeys := false, apart := false, laid := [("math/bits.deBruijn32tab", laid_math_bits_deBruijn32tab), ("math/bits.deBruijn64tab", laid_math_bits_deBruijn64tab), ("internal/strconv.uint64pow10", laid_internal_strconv_uint64pow10)], narrowed := true }
def CanonEquivalentUptoSaid : Prop := canonEquivalentUptoRow.holds Tryz.pinned (OpenSpec.upto canonEquivalentSpec)

/-- 'sheavelaw18.CanonClasses', WHERE WHAT IT READS IS OF BULK AT MOST 1048576: true; the input reads as it did. -/
def canonClassesUptoRow : OpenClaim := { program := "ytkhpajneinmmiaagreatdoor", sum := "9f512d1320f4e6e981024b27cda3b329e32bd4df4efcea6d4c1fe18203755a68", func := "sheave/sheavelaw18.CanonClasses", spec := "canonClasses", unfollowed := true, recurses := true, named := ["internal/strconv.uint64pow10", "math/bits.deBruijn32tab", "math/bits.deBruijn64tab"], plainKeys := false, apart := false, laid := [("math/bits.deBruijn32tab", laid_math_bits_deBruijn32tab), ("math/bits.deBruijn64tab", laid_math_bits_deBruijn64tab), ("internal/strconv.uint64pow10", laid_internal_strconv_uint64pow10)], narrowed := true }
def CanonClassesUptoSaid : Prop := canonClassesUptoRow.holds Tryz.pinned (OpenSpec.upto canonClassesSpec)

/-- 'sheavelaw18.CanonCanon', WHERE WHAT IT READS IS OF BULK AT MOST 1048576: true; the input reads as it did. -/
def canonCanonUptoRow : OpenClaim := { program := "ytkhpajneinmmiaagreatdoor", sum := "9f512d1320f4e6e981024b27cda3b329e32bd4df4efcea6d4c1fe18203755a68", func := "sheave/sheavelaw18.CanonCanon", spec := "canonCanon", unfollowed := true, recurses := true, named := ["internal/strconv.uint64pow10", "math/bits.deBruijn32tab", "math/bits.deBruijn64tab"], plainKeys := false, apart := false, laid := [("math/bits.deBruijn32tab", laid_math_bits_deBruijn32tab), ("math/bits.deBruijn64tab", laid_math_bits_deBruijn64tab), ("internal/strconv.uint64pow10", laid_internal_strconv_uint64pow10)], narrowed := true }
def CanonCanonUptoSaid : Prop := canonCanonUptoRow.holds Tryz.pinned (OpenSpec.upto canonCanonSpec)

/-- 'sheavelaw18.CanonAgain', WHERE WHAT IT READS IS OF BULK AT MOST 1048576: true; the input reads as it did. -/
def canonAgainUptoRow : OpenClaim := { program := "ytkhpajneinmmiaagreatdoor", sum := "9f512d1320f4e6e981024b27cda3b329e32bd4df4efcea6d4c1fe18203755a68", func := "sheave/sheavelaw18.CanonAgain", spec := "canonAgain", unfollowed := true, recurses := true, named := ["internal/strconv.uint64pow10", "math/bits.deBruijn32tab", "math/bits.deBruijn64tab"], plainKeys := false, apart := false, laid := [("math/bits.deBruijn32tab", laid_math_bits_deBruijn32tab), ("math/bits.deBruijn64tab", laid_math_bits_deBruijn64tab), ("internal/strconv.uint64pow10", laid_internal_strconv_uint64pow10)], narrowed := true }
def CanonAgainUptoSaid : Prop := canonAgainUptoRow.holds Tryz.pinned (OpenSpec.upto canonAgainSpec)

/-- 'sheavelaw18.CanonCopies', WHERE WHAT IT READS IS OF BULK AT MOST 1048576: true; the input reads as it did. -/
def canonCopiesUptoRow : OpenClaim := { program := "ytkhpajneinmmiaagreatdoor", sum := "9f512d1320f4e6e981024b27cda3b329e32bd4df4efcea6d4c1fe18203755a68", func := "sheave/sheavelaw18.CanonCopies", spec := "canonCopies", unfollowed := true, recurses := true, named := ["internal/strconv.uint64pow10", "math/bits.deBruijn32tab", "math/bits.deBruijn64tab"], plainKeys := false, apart := false, laid := [("math/bits.deBruijn32tab", laid_math_bits_deBruijn32tab), ("math/bits.deBruijn64tab", laid_math_bits_deBruijn64tab), ("internal/strconv.uint64pow10", laid_internal_strconv_uint64pow10)], narrowed := true }
def CanonCopiesUptoSaid : Prop := canonCopiesUptoRow.holds Tryz.pinned (OpenSpec.upto canonCopiesSpec)

/-- 'sheavelaw18.CanonDistinguish', WHERE WHAT IT READS IS OF BULK AT MOST 1048576: true; the input reads as it did. -/
def canonDistinguishUptoRow : OpenClaim := { program := "ytkhpajneinmmiaagreatdoor", sum := "9f512d1320f4e6e981024b27cda3b329e32bd4df4efcea6d4c1fe18203755a68", func := "sheave/sheavelaw18.CanonDistinguish", spec := "canonDistinguish", unfollowed := true, recurses := true, named := ["internal/strconv.uint64pow10", "math/bits.deBruijn32tab", "math/bits.deBruijn64tab"], plainKeys := false, apart := false, laid := [("math/bits.deBruijn32tab", laid_math_bits_deBruijn32tab), ("math/bits.deBruijn64tab", laid_math_bits_deBruijn64tab), ("internal/strconv.uint64pow10", laid_internal_strconv_uint64pow10)], narrowed := true }
def CanonDistinguishUptoSaid : Prop := canonDistinguishUptoRow.holds Tryz.pinned (OpenSpec.upto canonDistinguishSpec)

/-- 'sheavelaw18.CanonCopied', WHERE WHAT IT READS IS OF BULK AT MOST 1048576: true; the input reads as it did. -/
def canonCopiedUptoRow : OpenClaim := { program := "ytkhpajneinmmiaagreatdoor", sum := "9f512d1320f4e6e981024b27cda3b329e32bd4df4efcea6d4c1fe18203755a68", func := "sheave/sheavelaw18.CanonCopied", spec := "canonCopied", unfollowed := true, recurses := true, named := ["internal/strconv.uint64pow10", "math/bits.deBruijn32tab", "math/bits.deBruijn64tab"], plainKeys := false, apart := false, laid := [("math/bits.deBruijn32tab", laid_math_bits_deBruijn32tab), ("math/bits.deBruijn64tab", laid_math_bits_deBruijn64tab), ("internal/strconv.uint64pow10", laid_internal_strconv_uint64pow10)], narrowed := true }
def CanonCopiedUptoSaid : Prop := canonCopiedUptoRow.holds Tryz.pinned (OpenSpec.upto canonCopiedSpec)

/-- 'sheavelaw18.CanonErrors', WHERE WHAT IT READS IS OF BULK AT MOST 1048576: true; the input reads as it did. -/
def canonErrorsUptoRow : OpenClaim := { program := "ytkhpajneinmmiaagreatdoor", sum := "9f512d1320f4e6e981024b27cda3b329e32bd4df4efcea6d4c1fe18203755a68", func := "sheave/sheavelaw18.CanonErrors", spec := "canonErrors", unfollowed := true, recurses := true, named := ["internal/strconv.uint64pow10", "math/bits.deBruijn32tab", "math/bits.deBruijn64tab"], loops := true, plainKeys := false, apart := false, laid := [("math/bits.deBruijn32tab", laid_math_bits_deBruijn32tab), ("math/bits.deBruijn64tab", laid_math_bits_deBruijn64tab), ("internal/strconv.uint64pow10", laid_internal_strconv_uint64pow10)], narrowed := true }
def CanonErrorsUptoSaid : Prop := canonErrorsUptoRow.holds Tryz.pinned (OpenSpec.upto canonErrorsSpec)

end Rows
end Go.Proofs.YtkhpajneinmmiaaGreatDoor
