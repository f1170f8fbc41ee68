/-
  NARROWER THAN 'FOR EVERY INPUT', by the rows' own cells (each row's printed sentence says how): FoldValue: loops, laid · FoldArithmetic: laid · FoldAgain: loops, laid · FoldConstants: loops, laid · FoldKeepsValue: loops, laid · SyntaxDepth: laid · SyntaxEqual: loops, laid · SyntaxStrip: loops, laid · SyntaxWalk: loops, laid.
  DERIVED. THE GIVEN ROWS OF THIS SEAT. 9 by the template 'for every input the law returns true; each argument reads behind the call as it read before'; 0 by the template 'total and deterministic' (their statements: YtheifopckahdiaaDoorTotals.lean).
  GIVEN WITH THE SEED: the statements are not yours to turn. If you find one false, say at which input.
  Laid BY PROGRAM, IN A SANDBOX (cutbox-rows.mjs): the forced cells as the released guide's own fill.sh prints them over the translation bbb6257dd252cd88… (all of the seat's roots in one cut). By AI agents, Wed Nov 11 2026. No macro, syntax, notation, axiom, sorry.
-/
import Derived.Test.YtheifopckahdiaaDoorChecked
import GoSem.Claim
import GoSem.ClaimJoined
import GoSem.ClaimMapViews
import Derived.JoinedTies
import Derived.KernelRfl
namespace Go.Proofs.YtheifopckahdiaaDoor
/- THE CELL 'sum', in the pinned program and in every row, IS THE sha256 OF THE DUMP (.gsa) THAT YtheifopckahdiaaDoorProg.lean LOADS. Nothing in Lean hashes anything: it is a label: what it is worth is what the hold of that sum in a sandbox is worth. -/
noncomputable def Tryd.pinned : Pinned := { name := "ytheifopckahdiaadoor", sum := "bbb6257dd252cd889b8eae60ddf4fdf719af7351314b66a285fe36e82b02be50", checked := Tryd.checked }
namespace Rows
def none {H : Type} : Left H := { results := [], args := [] }

/- WHAT THE LISTED PACKAGE-LEVEL VARIABLES READ AS WHEN THE CALL BEGINS. Each datum BY PROGRAM (the guide's laid-datum.mjs) off the statement by which the dump's own 'gosem.cut.vars' lays the variable. In a bare row this is a premise. The card (YtheifopckahdiaaDoorCards.lean) ties it to the program's text. -/
def laid_math_bits_deBruijn32tab {H : Type} : DataW H := .agg [.lit (.int .u8 0), .lit (.int .u8 1), .lit (.int .u8 28), .lit (.int .u8 2), .lit (.int .u8 29), .lit (.int .u8 14), .lit (.int .u8 24), .lit (.int .u8 3), .lit (.int .u8 30), .lit (.int .u8 22), .lit (.int .u8 20), .lit (.int .u8 15), .lit (.int .u8 25), .lit (.int .u8 17), .lit (.int .u8 4), .lit (.int .u8 8), .lit (.int .u8 31), .lit (.int .u8 27), .lit (.int .u8 13), .lit (.int .u8 23), .lit (.int .u8 21), .lit (.int .u8 19), .lit (.int .u8 16), .lit (.int .u8 7), .lit (.int .u8 26), .lit (.int .u8 12), .lit (.int .u8 18), .lit (.int .u8 6), .lit (.int .u8 11), .lit (.int .u8 5), .lit (.int .u8 10), .lit (.int .u8 9)]
def laid_math_bits_deBruijn64tab {H : Type} : DataW H := .agg [.lit (.int .u8 0), .lit (.int .u8 1), .lit (.int .u8 56), .lit (.int .u8 2), .lit (.int .u8 57), .lit (.int .u8 49), .lit (.int .u8 28), .lit (.int .u8 3), .lit (.int .u8 61), .lit (.int .u8 58), .lit (.int .u8 42), .lit (.int .u8 50), .lit (.int .u8 38), .lit (.int .u8 29), .lit (.int .u8 17), .lit (.int .u8 4), .lit (.int .u8 62), .lit (.int .u8 47), .lit (.int .u8 59), .lit (.int .u8 36), .lit (.int .u8 45), .lit (.int .u8 43), .lit (.int .u8 51), .lit (.int .u8 22), .lit (.int .u8 53), .lit (.int .u8 39), .lit (.int .u8 33), .lit (.int .u8 30), .lit (.int .u8 24), .lit (.int .u8 18), .lit (.int .u8 12), .lit (.int .u8 5), .lit (.int .u8 63), .lit (.int .u8 55), .lit (.int .u8 48), .lit (.int .u8 27), .lit (.int .u8 60), .lit (.int .u8 41), .lit (.int .u8 37), .lit (.int .u8 16), .lit (.int .u8 46), .lit (.int .u8 35), .lit (.int .u8 44), .lit (.int .u8 21), .lit (.int .u8 52), .lit (.int .u8 32), .lit (.int .u8 23), .lit (.int .u8 11), .lit (.int .u8 54), .lit (.int .u8 26), .lit (.int .u8 40), .lit (.int .u8 15), .lit (.int .u8 34), .lit (.int .u8 20), .lit (.int .u8 31), .lit (.int .u8 10), .lit (.int .u8 25), .lit (.int .u8 14), .lit (.int .u8 19), .lit (.int .u8 9), .lit (.int .u8 13), .lit (.int .u8 8), .lit (.int .u8 7), .lit (.int .u8 6)]
def laid_internal_strconv_uint64pow10 {H : Type} : DataW H := .agg [.lit (.int .u64 1), .lit (.int .u64 10), .lit (.int .u64 100), .lit (.int .u64 1000), .lit (.int .u64 10000), .lit (.int .u64 100000), .lit (.int .u64 1000000), .lit (.int .u64 10000000), .lit (.int .u64 100000000), .lit (.int .u64 1000000000), .lit (.int .u64 10000000000), .lit (.int .u64 100000000000), .lit (.int .u64 1000000000000), .lit (.int .u64 10000000000000), .lit (.int .u64 100000000000000), .lit (.int .u64 1000000000000000), .lit (.int .u64 10000000000000000), .lit (.int .u64 100000000000000000), .lit (.int .u64 1000000000000000000), .lit (.int .u64 10000000000000000000)]
def laid_strconv_ErrRange {H : Type} : DataW H := .iface "*errors.errorString" (.ptr (.agg [.lit (.string [118, 97, 108, 117, 101, 32, 111, 117, 116, 32, 111, 102, 32, 114, 97, 110, 103, 101])]))
def laid_strconv_ErrSyntax {H : Type} : DataW H := .iface "*errors.errorString" (.ptr (.agg [.lit (.string [105, 110, 118, 97, 108, 105, 100, 32, 115, 121, 110, 116, 97, 120])]))
def laid_interleave_scan_operators {H : Type} : DataW H := .agg [.lit (.string [58, 61]), .lit (.string [61, 61]), .lit (.string [33, 61]), .lit (.string [60, 61]), .lit (.string [62, 61]), .lit (.string [38, 38]), .lit (.string [124, 124]), .lit (.string [60, 45]), .lit (.string [40]), .lit (.string [41]), .lit (.string [91]), .lit (.string [93]), .lit (.string [123]), .lit (.string [125]), .lit (.string [44]), .lit (.string [59]), .lit (.string [58]), .lit (.string [46]), .lit (.string [61]), .lit (.string [60]), .lit (.string [62]), .lit (.string [43]), .lit (.string [45]), .lit (.string [42]), .lit (.string [47]), .lit (.string [37]), .lit (.string [33])]

/-- 'interleavelaw07.FoldValue': WHATEVER THE INPUT: true; the input reads as it did. -/
def foldValueSpec : ChangeSpec := { name := "foldValue", fn := fun _ => fun
  | [d] => { results := [.lit (.bool true)], args := [d] }
  | _ => none }
def foldValueRow : OpenClaim := { program := "ytheifopckahdiaadoor", sum := "bbb6257dd252cd889b8eae60ddf4fdf719af7351314b66a285fe36e82b02be50", func := "interleave/interleavelaw07.FoldValue", spec := "foldValue", unfollowed := true, recurses := true, named := ["interleave/scan.operators", "strconv.ErrSyntax", "strconv.ErrRange", "internal/strconv.uint64pow10", "math/bits.deBruijn32tab", "math/bits.deBruijn64tab"], loops := true, apart := false, laid := [("math/bits.deBruijn32tab", laid_math_bits_deBruijn32tab), ("math/bits.deBruijn64tab", laid_math_bits_deBruijn64tab), ("internal/strconv.uint64pow10", laid_internal_strconv_uint64pow10), ("strconv.ErrRange", laid_strconv_ErrRange), ("strconv.ErrSyntax", laid_strconv_ErrSyntax), ("interleave/scan.operators", laid_interleave_scan_operators)] }
def FoldValueSaid : Prop := foldValueRow.holds Tryd.pinned (OpenSpec.ofChange foldValueSpec)

/-- ITS FALSE NEIGHBOUR: 'it returns false'. Refute it at one input. -/
def foldValueWrong : ChangeSpec := { name := "foldValue", fn := fun _ => fun
  | [d] => { results := [.lit (.bool false)], args := [d] }
  | _ => none }
def FoldValueWrongFalsely : Prop := foldValueRow.holds Tryd.pinned (OpenSpec.ofChange foldValueWrong)

/-- 'interleavelaw07.FoldArithmetic': WHATEVER THE INPUT: true; the input reads as it did. -/
def foldArithmeticSpec : ChangeSpec := { name := "foldArithmetic", fn := fun _ => fun
  | [d1, d2, d3] => { results := [.lit (.bool true)], args := [d1, d2, d3] }
  | _ => none }
def foldArithmeticRow : OpenClaim := { program := "ytheifopckahdiaadoor", sum := "bbb6257dd252cd889b8eae60ddf4fdf719af7351314b66a285fe36e82b02be50", func := "interleave/interleavelaw07.FoldArithmetic", spec := "foldArithmetic", unfollowed := true, recurses := true, named := ["interleave/scan.operators", "strconv.ErrSyntax", "strconv.ErrRange", "internal/strconv.uint64pow10", "math/bits.deBruijn32tab", "math/bits.deBruijn64tab"], apart := false, laid := [("math/bits.deBruijn32tab", laid_math_bits_deBruijn32tab), ("math/bits.deBruijn64tab", laid_math_bits_deBruijn64tab), ("internal/strconv.uint64pow10", laid_internal_strconv_uint64pow10), ("strconv.ErrRange", laid_strconv_ErrRange), ("strconv.ErrSyntax", laid_strconv_ErrSyntax), ("interleave/scan.operators", laid_interleave_scan_operators)] }
def FoldArithmeticSaid : Prop := foldArithmeticRow.holds Tryd.pinned (OpenSpec.ofChange foldArithmeticSpec)

/-- ITS FALSE NEIGHBOUR: 'it returns false'. Refute it at one input. -/
def foldArithmeticWrong : ChangeSpec := { name := "foldArithmetic", fn := fun _ => fun
  | [d1, d2, d3] => { results := [.lit (.bool false)], args := [d1, d2, d3] }
  | _ => none }
def FoldArithmeticWrongFalsely : Prop := foldArithmeticRow.holds Tryd.pinned (OpenSpec.ofChange foldArithmeticWrong)

/-- 'interleavelaw07.FoldAgain': WHATEVER THE INPUT: true; the input reads as it did. -/
def foldAgainSpec : ChangeSpec := { name := "foldAgain", fn := fun _ => fun
  | [d] => { results := [.lit (.bool true)], args := [d] }
  | _ => none }
def foldAgainRow : OpenClaim := { program := "ytheifopckahdiaadoor", sum := "bbb6257dd252cd889b8eae60ddf4fdf719af7351314b66a285fe36e82b02be50", func := "interleave/interleavelaw07.FoldAgain", spec := "foldAgain", unfollowed := true, recurses := true, named := ["interleave/scan.operators", "strconv.ErrSyntax", "strconv.ErrRange", "internal/strconv.uint64pow10", "math/bits.deBruijn32tab", "math/bits.deBruijn64tab"], loops := true, apart := false, laid := [("math/bits.deBruijn32tab", laid_math_bits_deBruijn32tab), ("math/bits.deBruijn64tab", laid_math_bits_deBruijn64tab), ("internal/strconv.uint64pow10", laid_internal_strconv_uint64pow10), ("strconv.ErrRange", laid_strconv_ErrRange), ("strconv.ErrSyntax", laid_strconv_ErrSyntax), ("interleave/scan.operators", laid_interleave_scan_operators)] }
def FoldAgainSaid : Prop := foldAgainRow.holds Tryd.pinned (OpenSpec.ofChange foldAgainSpec)

/-- ITS FALSE NEIGHBOUR: 'it returns false'. Refute it at one input. -/
def foldAgainWrong : ChangeSpec := { name := "foldAgain", fn := fun _ => fun
  | [d] => { results := [.lit (.bool false)], args := [d] }
  | _ => none }
def FoldAgainWrongFalsely : Prop := foldAgainRow.holds Tryd.pinned (OpenSpec.ofChange foldAgainWrong)

/-- 'interleavelaw07.FoldConstants': WHATEVER THE INPUT: true; the input reads as it did. -/
def foldConstantsSpec : ChangeSpec := { name := "foldConstants", fn := fun _ => fun
  | [d] => { results := [.lit (.bool true)], args := [d] }
  | _ => none }
def foldConstantsRow : OpenClaim := { program := "ytheifopckahdiaadoor", sum := "bbb6257dd252cd889b8eae60ddf4fdf719af7351314b66a285fe36e82b02be50", func := "interleave/interleavelaw07.FoldConstants", spec := "foldConstants", unfollowed := true, recurses := true, named := ["interleave/scan.operators", "strconv.ErrSyntax", "strconv.ErrRange", "internal/strconv.uint64pow10", "math/bits.deBruijn32tab", "math/bits.deBruijn64tab"], loops := true, apart := false, laid := [("math/bits.deBruijn32tab", laid_math_bits_deBruijn32tab), ("math/bits.deBruijn64tab", laid_math_bits_deBruijn64tab), ("internal/strconv.uint64pow10", laid_internal_strconv_uint64pow10), ("strconv.ErrRange", laid_strconv_ErrRange), ("strconv.ErrSyntax", laid_strconv_ErrSyntax), ("interleave/scan.operators", laid_interleave_scan_operators)] }
def FoldConstantsSaid : Prop := foldConstantsRow.holds Tryd.pinned (OpenSpec.ofChange foldConstantsSpec)

/-- ITS FALSE NEIGHBOUR: 'it returns false'. Refute it at one input. -/
def foldConstantsWrong : ChangeSpec := { name := "foldConstants", fn := fun _ => fun
  | [d] => { results := [.lit (.bool false)], args := [d] }
  | _ => none }
def FoldConstantsWrongFalsely : Prop := foldConstantsRow.holds Tryd.pinned (OpenSpec.ofChange foldConstantsWrong)

/-- 'interleavelaw07.FoldKeepsValue': WHATEVER THE INPUT: true; the input reads as it did. -/
def foldKeepsValueSpec : ChangeSpec := { name := "foldKeepsValue", fn := fun _ => fun
  | [d] => { results := [.lit (.bool true)], args := [d] }
  | _ => none }
def foldKeepsValueRow : OpenClaim := { program := "ytheifopckahdiaadoor", sum := "bbb6257dd252cd889b8eae60ddf4fdf719af7351314b66a285fe36e82b02be50", func := "interleave/interleavelaw07.FoldKeepsValue", spec := "foldKeepsValue", unfollowed := true, recurses := true, named := ["interleave/scan.operators", "strconv.ErrSyntax", "strconv.ErrRange", "internal/strconv.uint64pow10", "math/bits.deBruijn32tab", "math/bits.deBruijn64tab"], loops := true, apart := false, laid := [("math/bits.deBruijn32tab", laid_math_bits_deBruijn32tab), ("math/bits.deBruijn64tab", laid_math_bits_deBruijn64tab), ("internal/strconv.uint64pow10", laid_internal_strconv_uint64pow10), ("strconv.ErrRange", laid_strconv_ErrRange), ("strconv.ErrSyntax", laid_strconv_ErrSyntax), ("interleave/scan.operators", laid_interleave_scan_operators)] }
def FoldKeepsValueSaid : Prop := foldKeepsValueRow.holds Tryd.pinned (OpenSpec.ofChange foldKeepsValueSpec)

/-- ITS FALSE NEIGHBOUR: 'it returns false'. Refute it at one input. -/
def foldKeepsValueWrong : ChangeSpec := { name := "foldKeepsValue", fn := fun _ => fun
  | [d] => { results := [.lit (.bool false)], args := [d] }
  | _ => none }
def FoldKeepsValueWrongFalsely : Prop := foldKeepsValueRow.holds Tryd.pinned (OpenSpec.ofChange foldKeepsValueWrong)

/-- 'interleavelaw03.SyntaxDepth': WHATEVER THE INPUT: true; the input reads as it did. -/
def syntaxDepthSpec : ChangeSpec := { name := "syntaxDepth", fn := fun _ => fun
  | [d] => { results := [.lit (.bool true)], args := [d] }
  | _ => none }
def syntaxDepthRow : OpenClaim := { program := "ytheifopckahdiaadoor", sum := "bbb6257dd252cd889b8eae60ddf4fdf719af7351314b66a285fe36e82b02be50", func := "interleave/interleavelaw03.SyntaxDepth", spec := "syntaxDepth", inPlace := ["internal/abi.NoEscape"], unfollowed := true, recurses := true, named := ["interleave/scan.operators", "strconv.ErrSyntax", "strconv.ErrRange", "internal/strconv.uint64pow10", "math/bits.deBruijn32tab", "math/bits.deBruijn64tab"], apart := false, laid := [("math/bits.deBruijn32tab", laid_math_bits_deBruijn32tab), ("math/bits.deBruijn64tab", laid_math_bits_deBruijn64tab), ("internal/strconv.uint64pow10", laid_internal_strconv_uint64pow10), ("strconv.ErrRange", laid_strconv_ErrRange), ("strconv.ErrSyntax", laid_strconv_ErrSyntax), ("interleave/scan.operators", laid_interleave_scan_operators)] }
def SyntaxDepthSaid : Prop := syntaxDepthRow.holds Tryd.pinned (OpenSpec.ofChange syntaxDepthSpec)

/-- ITS FALSE NEIGHBOUR: 'it returns false'. Refute it at one input. -/
def syntaxDepthWrong : ChangeSpec := { name := "syntaxDepth", fn := fun _ => fun
  | [d] => { results := [.lit (.bool false)], args := [d] }
  | _ => none }
def SyntaxDepthWrongFalsely : Prop := syntaxDepthRow.holds Tryd.pinned (OpenSpec.ofChange syntaxDepthWrong)

/-- 'interleavelaw03.SyntaxEqual': WHATEVER THE INPUT: true; the input reads as it did. -/
def syntaxEqualSpec : ChangeSpec := { name := "syntaxEqual", fn := fun _ => fun
  | [d1, d2] => { results := [.lit (.bool true)], args := [d1, d2] }
  | _ => none }
def syntaxEqualRow : OpenClaim := { program := "ytheifopckahdiaadoor", sum := "bbb6257dd252cd889b8eae60ddf4fdf719af7351314b66a285fe36e82b02be50", func := "interleave/interleavelaw03.SyntaxEqual", spec := "syntaxEqual", inPlace := ["internal/abi.NoEscape"], unfollowed := true, recurses := true, named := ["interleave/scan.operators", "strconv.ErrSyntax", "strconv.ErrRange", "internal/strconv.uint64pow10", "math/bits.deBruijn32tab", "math/bits.deBruijn64tab"], loops := true, apart := false, laid := [("math/bits.deBruijn32tab", laid_math_bits_deBruijn32tab), ("math/bits.deBruijn64tab", laid_math_bits_deBruijn64tab), ("internal/strconv.uint64pow10", laid_internal_strconv_uint64pow10), ("strconv.ErrRange", laid_strconv_ErrRange), ("strconv.ErrSyntax", laid_strconv_ErrSyntax), ("interleave/scan.operators", laid_interleave_scan_operators)] }
def SyntaxEqualSaid : Prop := syntaxEqualRow.holds Tryd.pinned (OpenSpec.ofChange syntaxEqualSpec)

/-- ITS FALSE NEIGHBOUR: 'it returns false'. Refute it at one input. -/
def syntaxEqualWrong : ChangeSpec := { name := "syntaxEqual", fn := fun _ => fun
  | [d1, d2] => { results := [.lit (.bool false)], args := [d1, d2] }
  | _ => none }
def SyntaxEqualWrongFalsely : Prop := syntaxEqualRow.holds Tryd.pinned (OpenSpec.ofChange syntaxEqualWrong)

/-- 'interleavelaw03.SyntaxStrip': WHATEVER THE INPUT: true; the input reads as it did. -/
def syntaxStripSpec : ChangeSpec := { name := "syntaxStrip", fn := fun _ => fun
  | [d1, d2] => { results := [.lit (.bool true)], args := [d1, d2] }
  | _ => none }
def syntaxStripRow : OpenClaim := { program := "ytheifopckahdiaadoor", sum := "bbb6257dd252cd889b8eae60ddf4fdf719af7351314b66a285fe36e82b02be50", func := "interleave/interleavelaw03.SyntaxStrip", spec := "syntaxStrip", inPlace := ["internal/abi.NoEscape"], unfollowed := true, recurses := true, named := ["interleave/scan.operators", "strconv.ErrSyntax", "strconv.ErrRange", "internal/strconv.uint64pow10", "math/bits.deBruijn32tab", "math/bits.deBruijn64tab"], loops := true, apart := false, laid := [("math/bits.deBruijn32tab", laid_math_bits_deBruijn32tab), ("math/bits.deBruijn64tab", laid_math_bits_deBruijn64tab), ("internal/strconv.uint64pow10", laid_internal_strconv_uint64pow10), ("strconv.ErrRange", laid_strconv_ErrRange), ("strconv.ErrSyntax", laid_strconv_ErrSyntax), ("interleave/scan.operators", laid_interleave_scan_operators)] }
def SyntaxStripSaid : Prop := syntaxStripRow.holds Tryd.pinned (OpenSpec.ofChange syntaxStripSpec)

/-- ITS FALSE NEIGHBOUR: 'it returns false'. Refute it at one input. -/
def syntaxStripWrong : ChangeSpec := { name := "syntaxStrip", fn := fun _ => fun
  | [d1, d2] => { results := [.lit (.bool false)], args := [d1, d2] }
  | _ => none }
def SyntaxStripWrongFalsely : Prop := syntaxStripRow.holds Tryd.pinned (OpenSpec.ofChange syntaxStripWrong)

/-- 'interleavelaw03.SyntaxWalk': WHATEVER THE INPUT: true; the input reads as it did. -/
def syntaxWalkSpec : ChangeSpec := { name := "syntaxWalk", fn := fun _ => fun
  | [d1, d2] => { results := [.lit (.bool true)], args := [d1, d2] }
  | _ => none }
def syntaxWalkRow : OpenClaim := { program := "ytheifopckahdiaadoor", sum := "bbb6257dd252cd889b8eae60ddf4fdf719af7351314b66a285fe36e82b02be50", func := "interleave/interleavelaw03.SyntaxWalk", spec := "syntaxWalk", inPlace := ["internal/abi.NoEscape"], unfollowed := true, recurses := true, named := ["interleave/scan.operators", "strconv.ErrSyntax", "strconv.ErrRange", "internal/strconv.uint64pow10", "math/bits.deBruijn32tab", "math/bits.deBruijn64tab"], loops := true, apart := false, laid := [("math/bits.deBruijn32tab", laid_math_bits_deBruijn32tab), ("math/bits.deBruijn64tab", laid_math_bits_deBruijn64tab), ("internal/strconv.uint64pow10", laid_internal_strconv_uint64pow10), ("strconv.ErrRange", laid_strconv_ErrRange), ("strconv.ErrSyntax", laid_strconv_ErrSyntax), ("interleave/scan.operators", laid_interleave_scan_operators)] }
def SyntaxWalkSaid : Prop := syntaxWalkRow.holds Tryd.pinned (OpenSpec.ofChange syntaxWalkSpec)

/-- ITS FALSE NEIGHBOUR: 'it returns false'. Refute it at one input. -/
def syntaxWalkWrong : ChangeSpec := { name := "syntaxWalk", fn := fun _ => fun
  | [d1, d2] => { results := [.lit (.bool false)], args := [d1, d2] }
  | _ => none }
def SyntaxWalkWrongFalsely : Prop := syntaxWalkRow.holds Tryd.pinned (OpenSpec.ofChange syntaxWalkWrong)

/- THE SECOND FORM. 'bulk': how many values and letters a reading holds, each counted each time it is reached (what is shared counts as often as it is met; a slice's spare places count too). A statement '..UptoSaid' is the law's where the arguments, and the package variables that the reading takes, are together of bulk at most 1048576: NARROWER than '..Said'. Prove '..Said' where nothing that the law and all that it calls make is longer than what came in: it says more and counts as full. Else prove '..UptoSaid'. A law counts once. -/
mutual
def uptoBulk {H : Type} : DataW H → Nat
  | .lit (.string bytes) => bytes.length + 1
  | .lit _ => 1
  | .nil => 1
  | .ptr d => uptoBulk d + 1
  | .slice elems spare => uptoBulkAll elems + uptoBulkAll spare + 1
  | .agg parts => uptoBulkAll parts + 1
  | .iface _ d => uptoBulk d + 1
  | .map entries => uptoBulkEntries entries + 1
  | .held _ => 1
def uptoBulkAll {H : Type} : List (DataW H) → Nat
  | [] => 0
  | d :: r => uptoBulk d + uptoBulkAll r
def uptoBulkEntries {H : Type} : List (Lit × DataW H) → Nat
  | [] => 0
  | x :: r => uptoBulkEntry x + uptoBulkEntries r
def uptoBulkEntry {H : Type} : Lit × DataW H → Nat
  | (.string bytes, d) => bytes.length + uptoBulk d + 1
  | (_, d) => uptoBulk d + 1
 end
def uptoSmall : (H : Type) → List (DataW H) → Bool := fun _ ds => decide (uptoBulkAll ds ≤ 1048576)
def OpenSpec.upto (s : _root_.Go.ChangeSpec) : _root_.Go.OpenSpec := { _root_.Go.OpenSpec.ofChange s with cond := some uptoSmall }

/-- 'interleavelaw07.FoldValue', WHERE WHAT IT READS IS OF BULK AT MOST 1048576: true; the input reads as it did. -/
def foldValueUptoRow : OpenClaim := { program := "ytheifopckahdiaadoor", sum := "bbb6257dd252cd889b8eae60ddf4fdf719af7351314b66a285fe36e82b02be50", func := "interleave/interleavelaw07.FoldValue", spec := "foldValue", unfollowed := true, recurses := true, named := ["interleave/scan.operators", "strconv.ErrSyntax", "strconv.ErrRange", "internal/strconv.uint64pow10", "math/bits.deBruijn32tab", "math/bits.deBruijn64tab"], loops := true, apart := false, laid := [("math/bits.deBruijn32tab", laid_math_bits_deBruijn32tab), ("math/bits.deBruijn64tab", laid_math_bits_deBruijn64tab), ("internal/strconv.uint64pow10", laid_internal_strconv_uint64pow10), ("strconv.ErrRange", laid_strconv_ErrRange), ("strconv.ErrSyntax", laid_strconv_ErrSyntax), ("interleave/scan.operators", laid_interleave_scan_operators)], narrowed := true }
def FoldValueUptoSaid : Prop := foldValueUptoRow.holds Tryd.pinned (OpenSpec.upto foldValueSpec)

/-- 'interleavelaw07.FoldArithmetic', WHERE WHAT IT READS IS OF BULK AT MOST 1048576: true; the input reads as it did. -/
def foldArithmeticUptoRow : OpenClaim := { program := "ytheifopckahdiaadoor", sum := "bbb6257dd252cd889b8eae60ddf4fdf719af7351314b66a285fe36e82b02be50", func := "interleave/interleavelaw07.FoldArithmetic", spec := "foldArithmetic", unfollowed := true, recurses := true, named := ["interleave/scan.operators", "strconv.ErrSyntax", "strconv.ErrRange", "internal/strconv.uint64pow10", "math/bits.deBruijn32tab", "math/bits.deBruijn64tab"], apart := false, laid := [("math/bits.deBruijn32tab", laid_math_bits_deBruijn32tab), ("math/bits.deBruijn64tab", laid_math_bits_deBruijn64tab), ("internal/strconv.uint64pow10", laid_internal_strconv_uint64pow10), ("strconv.ErrRange", laid_strconv_ErrRange), ("strconv.ErrSyntax", laid_strconv_ErrSyntax), ("interleave/scan.operators", laid_interleave_scan_operators)], narrowed := true }
def FoldArithmeticUptoSaid : Prop := foldArithmeticUptoRow.holds Tryd.pinned (OpenSpec.upto foldArithmeticSpec)

/-- 'interleavelaw07.FoldAgain', WHERE WHAT IT READS IS OF BULK AT MOST 1048576: true; the input reads as it did. -/
def foldAgainUptoRow : OpenClaim := { program := "ytheifopckahdiaadoor", sum := "bbb6257dd252cd889b8eae60ddf4fdf719af7351314b66a285fe36e82b02be50", func := "interleave/interleavelaw07.FoldAgain", spec := "foldAgain", unfollowed := true, recurses := true, named := ["interleave/scan.operators", "strconv.ErrSyntax", "strconv.ErrRange", "internal/strconv.uint64pow10", "math/bits.deBruijn32tab", "math/bits.deBruijn64tab"], loops := true, apart := false, laid := [("math/bits.deBruijn32tab", laid_math_bits_deBruijn32tab), ("math/bits.deBruijn64tab", laid_math_bits_deBruijn64tab), ("internal/strconv.uint64pow10", laid_internal_strconv_uint64pow10), ("strconv.ErrRange", laid_strconv_ErrRange), ("strconv.ErrSyntax", laid_strconv_ErrSyntax), ("interleave/scan.operators", laid_interleave_scan_operators)], narrowed := true }
def FoldAgainUptoSaid : Prop := foldAgainUptoRow.holds Tryd.pinned (OpenSpec.upto foldAgainSpec)

/-- 'interleavelaw07.FoldConstants', WHERE WHAT IT READS IS OF BULK AT MOST 1048576: true; the input reads as it did. -/
def foldConstantsUptoRow : OpenClaim := { program := "ytheifopckahdiaadoor", sum := "bbb6257dd252cd889b8eae60ddf4fdf719af7351314b66a285fe36e82b02be50", func := "interleave/interleavelaw07.FoldConstants", spec := "foldConstants", unfollowed := true, recurses := true, named := ["interleave/scan.operators", "strconv.ErrSyntax", "strconv.ErrRange", "internal/strconv.uint64pow10", "math/bits.deBruijn32tab", "math/bits.deBruijn64tab"], loops := true, apart := false, laid := [("math/bits.deBruijn32tab", laid_math_bits_deBruijn32tab), ("math/bits.deBruijn64tab", laid_math_bits_deBruijn64tab), ("internal/strconv.uint64pow10", laid_internal_strconv_uint64pow10), ("strconv.ErrRange", laid_strconv_ErrRange), ("strconv.ErrSyntax", laid_strconv_ErrSyntax), ("interleave/scan.operators", laid_interleave_scan_operators)], narrowed := true }
def FoldConstantsUptoSaid : Prop := foldConstantsUptoRow.holds Tryd.pinned (OpenSpec.upto foldConstantsSpec)

/-- 'interleavelaw07.FoldKeepsValue', WHERE WHAT IT READS IS OF BULK AT MOST 1048576: true; the input reads as it did. -/
def foldKeepsValueUptoRow : OpenClaim := { program := "ytheifopckahdiaadoor", sum := "bbb6257dd252cd889b8eae60ddf4fdf719af7351314b66a285fe36e82b02be50", func := "interleave/interleavelaw07.FoldKeepsValue", spec := "foldKeepsValue", unfollowed := true, recurses := true, named := ["interleave/scan.operators", "strconv.ErrSyntax", "strconv.ErrRange", "internal/strconv.uint64pow10", "math/bits.deBruijn32tab", "math/bits.deBruijn64tab"], loops := true, apart := false, laid := [("math/bits.deBruijn32tab", laid_math_bits_deBruijn32tab), ("math/bits.deBruijn64tab", laid_math_bits_deBruijn64tab), ("internal/strconv.uint64pow10", laid_internal_strconv_uint64pow10), ("strconv.ErrRange", laid_strconv_ErrRange), ("strconv.ErrSyntax", laid_strconv_ErrSyntax), ("interleave/scan.operators", laid_interleave_scan_operators)], narrowed := true }
def FoldKeepsValueUptoSaid : Prop := foldKeepsValueUptoRow.holds Tryd.pinned (OpenSpec.upto foldKeepsValueSpec)

/-- 'interleavelaw03.SyntaxDepth', WHERE WHAT IT READS IS OF BULK AT MOST 1048576: true; the input reads as it did. -/
def syntaxDepthUptoRow : OpenClaim := { program := "ytheifopckahdiaadoor", sum := "bbb6257dd252cd889b8eae60ddf4fdf719af7351314b66a285fe36e82b02be50", func := "interleave/interleavelaw03.SyntaxDepth", spec := "syntaxDepth", inPlace := ["internal/abi.NoEscape"], unfollowed := true, recurses := true, named := ["interleave/scan.operators", "strconv.ErrSyntax", "strconv.ErrRange", "internal/strconv.uint64pow10", "math/bits.deBruijn32tab", "math/bits.deBruijn64tab"], apart := false, laid := [("math/bits.deBruijn32tab", laid_math_bits_deBruijn32tab), ("math/bits.deBruijn64tab", laid_math_bits_deBruijn64tab), ("internal/strconv.uint64pow10", laid_internal_strconv_uint64pow10), ("strconv.ErrRange", laid_strconv_ErrRange), ("strconv.ErrSyntax", laid_strconv_ErrSyntax), ("interleave/scan.operators", laid_interleave_scan_operators)], narrowed := true }
def SyntaxDepthUptoSaid : Prop := syntaxDepthUptoRow.holds Tryd.pinned (OpenSpec.upto syntaxDepthSpec)

/-- 'interleavelaw03.SyntaxEqual', WHERE WHAT IT READS IS OF BULK AT MOST 1048576: true; the input reads as it did. -/
def syntaxEqualUptoRow : OpenClaim := { program := "ytheifopckahdiaadoor", sum := "bbb6257dd252cd889b8eae60ddf4fdf719af7351314b66a285fe36e82b02be50", func := "interleave/interleavelaw03.SyntaxEqual", spec := "syntaxEqual", inPlace := ["internal/abi.NoEscape"], unfollowed := true, recurses := true, named := ["interleave/scan.operators", "strconv.ErrSyntax", "strconv.ErrRange", "internal/strconv.uint64pow10", "math/bits.deBruijn32tab", "math/bits.deBruijn64tab"], loops := true, apart := false, laid := [("math/bits.deBruijn32tab", laid_math_bits_deBruijn32tab), ("math/bits.deBruijn64tab", laid_math_bits_deBruijn64tab), ("internal/strconv.uint64pow10", laid_internal_strconv_uint64pow10), ("strconv.ErrRange", laid_strconv_ErrRange), ("strconv.ErrSyntax", laid_strconv_ErrSyntax), ("interleave/scan.operators", laid_interleave_scan_operators)], narrowed := true }
def SyntaxEqualUptoSaid : Prop := syntaxEqualUptoRow.holds Tryd.pinned (OpenSpec.upto syntaxEqualSpec)

/-- 'interleavelaw03.SyntaxStrip', WHERE WHAT IT READS IS OF BULK AT MOST 1048576: true; the input reads as it did. -/
def syntaxStripUptoRow : OpenClaim := { program := "ytheifopckahdiaadoor", sum := "bbb6257dd252cd889b8eae60ddf4fdf719af7351314b66a285fe36e82b02be50", func := "interleave/interleavelaw03.SyntaxStrip", spec := "syntaxStrip", inPlace := ["internal/abi.NoEscape"], unfollowed := true, recurses := true, named := ["interleave/scan.operators", "strconv.ErrSyntax", "strconv.ErrRange", "internal/strconv.uint64pow10", "math/bits.deBruijn32tab", "math/bits.deBruijn64tab"], loops := true, apart := false, laid := [("math/bits.deBruijn32tab", laid_math_bits_deBruijn32tab), ("math/bits.deBruijn64tab", laid_math_bits_deBruijn64tab), ("internal/strconv.uint64pow10", laid_internal_strconv_uint64pow10), ("strconv.ErrRange", laid_strconv_ErrRange), ("strconv.ErrSyntax", laid_strconv_ErrSyntax), ("interleave/scan.operators", laid_interleave_scan_operators)], narrowed := true }
def SyntaxStripUptoSaid : Prop := syntaxStripUptoRow.holds Tryd.pinned (OpenSpec.upto syntaxStripSpec)

/-- 'interleavelaw03.SyntaxWalk', WHERE WHAT IT READS IS OF BULK AT MOST 1048576: true; the input reads as it did. -/
def syntaxWalkUptoRow : OpenClaim := { program := "ytheifopckahdiaadoor", sum := "bbb6257dd252cd889b8eae60ddf4fdf719af7351314b66a285fe36e82b02be50", func := "interleave/interleavelaw03.SyntaxWalk", spec := "syntaxWalk", inPlace := ["internal/abi.NoEscape"], unfollowed := true, recurses := true, named := ["interleave/scan.operators", "strconv.ErrSyntax", "strconv.ErrRange", "internal/strconv.uint64pow10", "math/bits.deBruijn32tab", "math/bits.deBruijn64tab"], loops := true, apart := false, laid := [("math/bits.deBruijn32tab", laid_math_bits_deBruijn32tab), ("math/bits.deBruijn64tab", laid_math_bits_deBruijn64tab), ("internal/strconv.uint64pow10", laid_internal_strconv_uint64pow10), ("strconv.ErrRange", laid_strconv_ErrRange), ("strconv.ErrSyntax", laid_strconv_ErrSyntax), ("interleave/scan.operators", laid_interleave_scan_operators)], narrowed := true }
def SyntaxWalkUptoSaid : Prop := syntaxWalkUptoRow.holds Tryd.pinned (OpenSpec.upto syntaxWalkSpec)

end Rows
end Go.Proofs.YtheifopckahdiaaDoor
