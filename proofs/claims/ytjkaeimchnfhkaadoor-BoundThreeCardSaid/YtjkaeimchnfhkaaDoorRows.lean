/-
  NARROWER THAN 'FOR EVERY INPUT', by the rows' own cells (each row's printed sentence says how): BoundCalcs: laid · BoundAdds: laid · BoundSound: laid · BoundTexts: laid · BoundParses: laid · BoundUndo: laid · BoundThree: laid.
  DERIVED. THE GIVEN ROWS OF THIS SEAT. 7 by the template 'for every input the law returns true; each argument reads behind the call as it read before'; 0 by the template 'total and deterministic' (their statements: YtjkaeimchnfhkaaDoorTotals.lean).
  GIVEN WITH THE SEED: the statements are not yours to turn. If you find one false, say at which input.
  Laid BY PROGRAM, IN A SANDBOX (cutbox-rows.mjs): the forced cells as the released guide's own fill.sh prints them over the translation 853a2e59a284b837… (all of the seat's roots in one cut). By AI agents, Wed Nov 11 2026. No macro, syntax, notation, axiom, sorry.
-/
import Derived.Test.YtjkaeimchnfhkaaDoorChecked
import GoSem.Claim
import GoSem.ClaimJoined
import GoSem.ClaimMapViews
import Derived.JoinedTies
import Derived.KernelRfl
namespace Go.Proofs.YtjkaeimchnfhkaaDoor
/- THE CELL 'sum', in the pinned program and in every row, IS THE sha256 OF THE DUMP (.gsa) THAT YtjkaeimchnfhkaaDoorProg.lean LOADS. Nothing in Lean hashes anything: it is a label: what it is worth is what the hold of that sum in a sandbox is worth. -/
noncomputable def Tryd.pinned : Pinned := { name := "ytjkaeimchnfhkaadoor", sum := "853a2e59a284b83776a0bde2eafeb4f96ff2c5933e48973ffaba300afa1bece8", checked := Tryd.checked }
namespace Rows
def none {H : Type} : Left H := { results := [], args := [] }

/- WHAT THE LISTED PACKAGE-LEVEL VARIABLES READ AS WHEN THE CALL BEGINS. Each datum BY PROGRAM (the guide's laid-datum.mjs) off the statement by which the dump's own 'gosem.cut.vars' lays the variable. In a bare row this is a premise. The card (YtjkaeimchnfhkaaDoorCards.lean) ties it to the program's text. -/
def laid_math_bits_deBruijn32tab {H : Type} : DataW H := .agg [.lit (.int .u8 0), .lit (.int .u8 1), .lit (.int .u8 28), .lit (.int .u8 2), .lit (.int .u8 29), .lit (.int .u8 14), .lit (.int .u8 24), .lit (.int .u8 3), .lit (.int .u8 30), .lit (.int .u8 22), .lit (.int .u8 20), .lit (.int .u8 15), .lit (.int .u8 25), .lit (.int .u8 17), .lit (.int .u8 4), .lit (.int .u8 8), .lit (.int .u8 31), .lit (.int .u8 27), .lit (.int .u8 13), .lit (.int .u8 23), .lit (.int .u8 21), .lit (.int .u8 19), .lit (.int .u8 16), .lit (.int .u8 7), .lit (.int .u8 26), .lit (.int .u8 12), .lit (.int .u8 18), .lit (.int .u8 6), .lit (.int .u8 11), .lit (.int .u8 5), .lit (.int .u8 10), .lit (.int .u8 9)]
def laid_math_bits_deBruijn64tab {H : Type} : DataW H := .agg [.lit (.int .u8 0), .lit (.int .u8 1), .lit (.int .u8 56), .lit (.int .u8 2), .lit (.int .u8 57), .lit (.int .u8 49), .lit (.int .u8 28), .lit (.int .u8 3), .lit (.int .u8 61), .lit (.int .u8 58), .lit (.int .u8 42), .lit (.int .u8 50), .lit (.int .u8 38), .lit (.int .u8 29), .lit (.int .u8 17), .lit (.int .u8 4), .lit (.int .u8 62), .lit (.int .u8 47), .lit (.int .u8 59), .lit (.int .u8 36), .lit (.int .u8 45), .lit (.int .u8 43), .lit (.int .u8 51), .lit (.int .u8 22), .lit (.int .u8 53), .lit (.int .u8 39), .lit (.int .u8 33), .lit (.int .u8 30), .lit (.int .u8 24), .lit (.int .u8 18), .lit (.int .u8 12), .lit (.int .u8 5), .lit (.int .u8 63), .lit (.int .u8 55), .lit (.int .u8 48), .lit (.int .u8 27), .lit (.int .u8 60), .lit (.int .u8 41), .lit (.int .u8 37), .lit (.int .u8 16), .lit (.int .u8 46), .lit (.int .u8 35), .lit (.int .u8 44), .lit (.int .u8 21), .lit (.int .u8 52), .lit (.int .u8 32), .lit (.int .u8 23), .lit (.int .u8 11), .lit (.int .u8 54), .lit (.int .u8 26), .lit (.int .u8 40), .lit (.int .u8 15), .lit (.int .u8 34), .lit (.int .u8 20), .lit (.int .u8 31), .lit (.int .u8 10), .lit (.int .u8 25), .lit (.int .u8 14), .lit (.int .u8 19), .lit (.int .u8 9), .lit (.int .u8 13), .lit (.int .u8 8), .lit (.int .u8 7), .lit (.int .u8 6)]
def laid_internal_strconv_uint64pow10 {H : Type} : DataW H := .agg [.lit (.int .u64 1), .lit (.int .u64 10), .lit (.int .u64 100), .lit (.int .u64 1000), .lit (.int .u64 10000), .lit (.int .u64 100000), .lit (.int .u64 1000000), .lit (.int .u64 10000000), .lit (.int .u64 100000000), .lit (.int .u64 1000000000), .lit (.int .u64 10000000000), .lit (.int .u64 100000000000), .lit (.int .u64 1000000000000), .lit (.int .u64 10000000000000), .lit (.int .u64 100000000000000), .lit (.int .u64 1000000000000000), .lit (.int .u64 10000000000000000), .lit (.int .u64 100000000000000000), .lit (.int .u64 1000000000000000000), .lit (.int .u64 10000000000000000000)]
def laid_strconv_ErrRange {H : Type} : DataW H := .iface "*errors.errorString" (.ptr (.agg [.lit (.string [118, 97, 108, 117, 101, 32, 111, 117, 116, 32, 111, 102, 32, 114, 97, 110, 103, 101])]))
def laid_strconv_ErrSyntax {H : Type} : DataW H := .iface "*errors.errorString" (.ptr (.agg [.lit (.string [105, 110, 118, 97, 108, 105, 100, 32, 115, 121, 110, 116, 97, 120])]))

/-- 'helmsmanlaw01.BoundCalcs': WHATEVER THE INPUT: true; the input reads as it did. -/
def boundCalcsSpec : ChangeSpec := { name := "boundCalcs", fn := fun _ => fun
  | [d1, d2, d3] => { results := [.lit (.bool true)], args := [d1, d2, d3] }
  | _ => none }
def boundCalcsRow : OpenClaim := { program := "ytjkaeimchnfhkaadoor", sum := "853a2e59a284b83776a0bde2eafeb4f96ff2c5933e48973ffaba300afa1bece8", func := "helmsman/helmsmanlaw01.BoundCalcs", spec := "boundCalcs", named := ["strconv.ErrSyntax", "strconv.ErrRange", "internal/strconv.uint64pow10", "math/bits.deBruijn32tab", "math/bits.deBruijn64tab"], apart := false, laid := [("math/bits.deBruijn32tab", laid_math_bits_deBruijn32tab), ("math/bits.deBruijn64tab", laid_math_bits_deBruijn64tab), ("internal/strconv.uint64pow10", laid_internal_strconv_uint64pow10), ("strconv.ErrRange", laid_strconv_ErrRange), ("strconv.ErrSyntax", laid_strconv_ErrSyntax)] }
def BoundCalcsSaid : Prop := boundCalcsRow.holds Tryd.pinned (OpenSpec.ofChange boundCalcsSpec)

/-- ITS FALSE NEIGHBOUR: 'it returns false'. Refute it at one input. -/
def boundCalcsWrong : ChangeSpec := { name := "boundCalcs", fn := fun _ => fun
  | [d1, d2, d3] => { results := [.lit (.bool false)], args := [d1, d2, d3] }
  | _ => none }
def BoundCalcsWrongFalsely : Prop := boundCalcsRow.holds Tryd.pinned (OpenSpec.ofChange boundCalcsWrong)

/-- 'helmsmanlaw01.BoundAdds': WHATEVER THE INPUT: true; the input reads as it did. -/
def boundAddsSpec : ChangeSpec := { name := "boundAdds", fn := fun _ => fun
  | [d1, d2] => { results := [.lit (.bool true)], args := [d1, d2] }
  | _ => none }
def boundAddsRow : OpenClaim := { program := "ytjkaeimchnfhkaadoor", sum := "853a2e59a284b83776a0bde2eafeb4f96ff2c5933e48973ffaba300afa1bece8", func := "helmsman/helmsmanlaw01.BoundAdds", spec := "boundAdds", named := ["strconv.ErrSyntax", "strconv.ErrRange", "internal/strconv.uint64pow10", "math/bits.deBruijn32tab", "math/bits.deBruijn64tab"], apart := false, laid := [("math/bits.deBruijn32tab", laid_math_bits_deBruijn32tab), ("math/bits.deBruijn64tab", laid_math_bits_deBruijn64tab), ("internal/strconv.uint64pow10", laid_internal_strconv_uint64pow10), ("strconv.ErrRange", laid_strconv_ErrRange), ("strconv.ErrSyntax", laid_strconv_ErrSyntax)] }
def BoundAddsSaid : Prop := boundAddsRow.holds Tryd.pinned (OpenSpec.ofChange boundAddsSpec)

/-- ITS FALSE NEIGHBOUR: 'it returns false'. Refute it at one input. -/
def boundAddsWrong : ChangeSpec := { name := "boundAdds", fn := fun _ => fun
  | [d1, d2] => { results := [.lit (.bool false)], args := [d1, d2] }
  | _ => none }
def BoundAddsWrongFalsely : Prop := boundAddsRow.holds Tryd.pinned (OpenSpec.ofChange boundAddsWrong)

/-- 'helmsmanlaw01.BoundSound': WHATEVER THE INPUT: true; the input reads as it did. -/
def boundSoundSpec : ChangeSpec := { name := "boundSound", fn := fun _ => fun
  | [d1, d2, d3] => { results := [.lit (.bool true)], args := [d1, d2, d3] }
  | _ => none }
def boundSoundRow : OpenClaim := { program := "ytjkaeimchnfhkaadoor", sum := "853a2e59a284b83776a0bde2eafeb4f96ff2c5933e48973ffaba300afa1bece8", func := "helmsman/helmsmanlaw01.BoundSound", spec := "boundSound", named := ["strconv.ErrSyntax", "strconv.ErrRange", "internal/strconv.uint64pow10", "math/bits.deBruijn32tab", "math/bits.deBruijn64tab"], apart := false, laid := [("math/bits.deBruijn32tab", laid_math_bits_deBruijn32tab), ("math/bits.deBruijn64tab", laid_math_bits_deBruijn64tab), ("internal/strconv.uint64pow10", laid_internal_strconv_uint64pow10), ("strconv.ErrRange", laid_strconv_ErrRange), ("strconv.ErrSyntax", laid_strconv_ErrSyntax)] }
def BoundSoundSaid : Prop := boundSoundRow.holds Tryd.pinned (OpenSpec.ofChange boundSoundSpec)

/-- ITS FALSE NEIGHBOUR: 'it returns false'. Refute it at one input. -/
def boundSoundWrong : ChangeSpec := { name := "boundSound", fn := fun _ => fun
  | [d1, d2, d3] => { results := [.lit (.bool false)], args := [d1, d2, d3] }
  | _ => none }
def BoundSoundWrongFalsely : Prop := boundSoundRow.holds Tryd.pinned (OpenSpec.ofChange boundSoundWrong)

/-- 'helmsmanlaw01.BoundTexts': WHATEVER THE INPUT: true; the input reads as it did. -/
def boundTextsSpec : ChangeSpec := { name := "boundTexts", fn := fun _ => fun
  | [d] => { results := [.lit (.bool true)], args := [d] }
  | _ => none }
def boundTextsRow : OpenClaim := { program := "ytjkaeimchnfhkaadoor", sum := "853a2e59a284b83776a0bde2eafeb4f96ff2c5933e48973ffaba300afa1bece8", func := "helmsman/helmsmanlaw01.BoundTexts", spec := "boundTexts", recurses := true, named := ["internal/strconv.uint64pow10", "math/bits.deBruijn32tab", "math/bits.deBruijn64tab", "strconv.ErrSyntax", "strconv.ErrRange"], apart := false, laid := [("math/bits.deBruijn32tab", laid_math_bits_deBruijn32tab), ("math/bits.deBruijn64tab", laid_math_bits_deBruijn64tab), ("internal/strconv.uint64pow10", laid_internal_strconv_uint64pow10), ("strconv.ErrRange", laid_strconv_ErrRange), ("strconv.ErrSyntax", laid_strconv_ErrSyntax)] }
def BoundTextsSaid : Prop := boundTextsRow.holds Tryd.pinned (OpenSpec.ofChange boundTextsSpec)

/-- ITS FALSE NEIGHBOUR: 'it returns false'. Refute it at one input. -/
def boundTextsWrong : ChangeSpec := { name := "boundTexts", fn := fun _ => fun
  | [d] => { results := [.lit (.bool false)], args := [d] }
  | _ => none }
def BoundTextsWrongFalsely : Prop := boundTextsRow.holds Tryd.pinned (OpenSpec.ofChange boundTextsWrong)

/-- 'helmsmanlaw01.BoundParses': WHATEVER THE INPUT: true; the input reads as it did. -/
def boundParsesSpec : ChangeSpec := { name := "boundParses", fn := fun _ => fun
  | [d] => { results := [.lit (.bool true)], args := [d] }
  | _ => none }
def boundParsesRow : OpenClaim := { program := "ytjkaeimchnfhkaadoor", sum := "853a2e59a284b83776a0bde2eafeb4f96ff2c5933e48973ffaba300afa1bece8", func := "helmsman/helmsmanlaw01.BoundParses", spec := "boundParses", recurses := true, named := ["strconv.ErrSyntax", "strconv.ErrRange", "internal/strconv.uint64pow10", "math/bits.deBruijn32tab", "math/bits.deBruijn64tab"], apart := false, laid := [("math/bits.deBruijn32tab", laid_math_bits_deBruijn32tab), ("math/bits.deBruijn64tab", laid_math_bits_deBruijn64tab), ("internal/strconv.uint64pow10", laid_internal_strconv_uint64pow10), ("strconv.ErrRange", laid_strconv_ErrRange), ("strconv.ErrSyntax", laid_strconv_ErrSyntax)] }
def BoundParsesSaid : Prop := boundParsesRow.holds Tryd.pinned (OpenSpec.ofChange boundParsesSpec)

/-- ITS FALSE NEIGHBOUR: 'it returns false'. Refute it at one input. -/
def boundParsesWrong : ChangeSpec := { name := "boundParses", fn := fun _ => fun
  | [d] => { results := [.lit (.bool false)], args := [d] }
  | _ => none }
def BoundParsesWrongFalsely : Prop := boundParsesRow.holds Tryd.pinned (OpenSpec.ofChange boundParsesWrong)

/-- 'helmsmanlaw01.BoundUndo': WHATEVER THE INPUT: true; the input reads as it did. -/
def boundUndoSpec : ChangeSpec := { name := "boundUndo", fn := fun _ => fun
  | [d1, d2] => { results := [.lit (.bool true)], args := [d1, d2] }
  | _ => none }
def boundUndoRow : OpenClaim := { program := "ytjkaeimchnfhkaadoor", sum := "853a2e59a284b83776a0bde2eafeb4f96ff2c5933e48973ffaba300afa1bece8", func := "helmsman/helmsmanlaw01.BoundUndo", spec := "boundUndo", named := ["strconv.ErrSyntax", "strconv.ErrRange", "internal/strconv.uint64pow10", "math/bits.deBruijn32tab", "math/bits.deBruijn64tab"], apart := false, laid := [("math/bits.deBruijn32tab", laid_math_bits_deBruijn32tab), ("math/bits.deBruijn64tab", laid_math_bits_deBruijn64tab), ("internal/strconv.uint64pow10", laid_internal_strconv_uint64pow10), ("strconv.ErrRange", laid_strconv_ErrRange), ("strconv.ErrSyntax", laid_strconv_ErrSyntax)] }
def BoundUndoSaid : Prop := boundUndoRow.holds Tryd.pinned (OpenSpec.ofChange boundUndoSpec)

/-- ITS FALSE NEIGHBOUR: 'it returns false'. Refute it at one input. -/
def boundUndoWrong : ChangeSpec := { name := "boundUndo", fn := fun _ => fun
  | [d1, d2] => { results := [.lit (.bool false)], args := [d1, d2] }
  | _ => none }
def BoundUndoWrongFalsely : Prop := boundUndoRow.holds Tryd.pinned (OpenSpec.ofChange boundUndoWrong)

/-- 'helmsmanlaw01.BoundThree': WHATEVER THE INPUT: true; the input reads as it did. -/
def boundThreeSpec : ChangeSpec := { name := "boundThree", fn := fun _ => fun
  | [d1, d2, d3] => { results := [.lit (.bool true)], args := [d1, d2, d3] }
  | _ => none }
def boundThreeRow : OpenClaim := { program := "ytjkaeimchnfhkaadoor", sum := "853a2e59a284b83776a0bde2eafeb4f96ff2c5933e48973ffaba300afa1bece8", func := "helmsman/helmsmanlaw01.BoundThree", spec := "boundThree", unfollowed := true, recurses := true, named := ["strconv.ErrSyntax", "strconv.ErrRange", "internal/strconv.uint64pow10", "math/bits.deBruijn32tab", "math/bits.deBruijn64tab"], apart := false, laid := [("math/bits.deBruijn32tab", laid_math_bits_deBruijn32tab), ("math/bits.deBruijn64tab", laid_math_bits_deBruijn64tab), ("internal/strconv.uint64pow10", laid_internal_strconv_uint64pow10), ("strconv.ErrRange", laid_strconv_ErrRange), ("strconv.ErrSyntax", laid_strconv_ErrSyntax)] }
def BoundThreeSaid : Prop := boundThreeRow.holds Tryd.pinned (OpenSpec.ofChange boundThreeSpec)

/-- ITS FALSE NEIGHBOUR: 'it returns false'. Refute it at one input. -/
def boundThreeWrong : ChangeSpec := { name := "boundThree", fn := fun _ => fun
  | [d1, d2, d3] => { results := [.lit (.bool false)], args := [d1, d2, d3] }
  | _ => none }
def BoundThreeWrongFalsely : Prop := boundThreeRow.holds Tryd.pinned (OpenSpec.ofChange boundThreeWrong)

/- THE SECOND FORM. 'bulk': how many values and letters a reading holds, each counted each time it is reached (what is shared counts as often as it is met; a slice's spare places count too). A statement '..UptoSaid' is the law's where the arguments, and the package variables that the reading takes, are together of bulk at most 1048576: NARROWER than '..Said'. Prove '..Said' where nothing that the law and all that it calls make is longer than what came in: it says more and counts as full. Else prove '..UptoSaid'. A law counts once. -/
mutual
def uptoBulk {H : Type} : DataW H → Nat
  | .lit (.string bytes) => bytes.length + 1
  | .lit _ => 1
  | .nil => 1
  | .ptr d => uptoBulk d + 1
  | .slice elems spare => uptoBulkAll elems + uptoBulkAll spare + 1
  | .agg parts => uptoBulkAll parts + 1
  | .iface _ d => uptoBulk d + 1
  | .map entries => uptoBulkEntries entries + 1
  | .held _ => 1
def uptoBulkAll {H : Type} : List (DataW H) → Nat
  | [] => 0
  | d :: r => uptoBulk d + uptoBulkAll r
def uptoBulkEntries {H : Type} : List (Lit × DataW H) → Nat
  | [] => 0
  | x :: r => uptoBulkEntry x + uptoBulkEntries r
def uptoBulkEntry {H : Type} : Lit × DataW H → Nat
  | (.string bytes, d) => bytes.length + uptoBulk d + 1
  | (_, d) => uptoBulk d + 1
 end
def uptoSmall : (H : Type) → List (DataW H) → Bool := fun _ ds => decide (uptoBulkAll ds ≤ 1048576)
def OpenSpec.upto (s : _root_.Go.ChangeSpec) : _root_.Go.OpenSpec := { _root_.Go.OpenSpec.ofChange s with cond := some uptoSmall }

/-- 'helmsmanlaw01.BoundCalcs', WHERE WHAT IT READS IS OF BULK AT MOST 1048576: true; the input reads as it did. -/
def boundCalcsUptoRow : OpenClaim := { program := "ytjkaeimchnfhkaadoor", sum := "853a2e59a284b83776a0bde2eafeb4f96ff2c5933e48973ffaba300afa1bece8", func := "helmsman/helmsmanlaw01.BoundCalcs", spec := "boundCalcs", named := ["strconv.ErrSyntax", "strconv.ErrRange", "internal/strconv.uint64pow10", "math/bits.deBruijn32tab", "math/bits.deBruijn64tab"], apart := false, laid := [("math/bits.deBruijn32tab", laid_math_bits_deBruijn32tab), ("math/bits.deBruijn64tab", laid_math_bits_deBruijn64tab), ("internal/strconv.uint64pow10", laid_internal_strconv_uint64pow10), ("strconv.ErrRange", laid_strconv_ErrRange), ("strconv.ErrSyntax", laid_strconv_ErrSyntax)], narrowed := true }
def BoundCalcsUptoSaid : Prop := boundCalcsUptoRow.holds Tryd.pinned (OpenSpec.upto boundCalcsSpec)

/-- 'helmsmanlaw01.BoundAdds', WHERE WHAT IT READS IS OF BULK AT MOST 1048576: true; the input reads as it did. -/
def boundAddsUptoRow : OpenClaim := { program := "ytjkaeimchnfhkaadoor", sum := "853a2e59a284b83776a0bde2eafeb4f96ff2c5933e48973ffaba300afa1bece8", func := "helmsman/helmsmanlaw01.BoundAdds", spec := "boundAdds", named := ["strconv.ErrSyntax", "strconv.ErrRange", "internal/strconv.uint64pow10", "math/bits.deBruijn32tab", "math/bits.deBruijn64tab"], apart := false, laid := [("math/bits.deBruijn32tab", laid_math_bits_deBruijn32tab), ("math/bits.deBruijn64tab", laid_math_bits_deBruijn64tab), ("internal/strconv.uint64pow10", laid_internal_strconv_uint64pow10), ("strconv.ErrRange", laid_strconv_ErrRange), ("strconv.ErrSyntax", laid_strconv_ErrSyntax)], narrowed := true }
def BoundAddsUptoSaid : Prop := boundAddsUptoRow.holds Tryd.pinned (OpenSpec.upto boundAddsSpec)

/-- 'helmsmanlaw01.BoundSound', WHERE WHAT IT READS IS OF BULK AT MOST 1048576: true; the input reads as it did. -/
def boundSoundUptoRow : OpenClaim := { program := "ytjkaeimchnfhkaadoor", sum := "853a2e59a284b83776a0bde2eafeb4f96ff2c5933e48973ffaba300afa1bece8", func := "helmsman/helmsmanlaw01.BoundSound", spec := "boundSound", named := ["strconv.ErrSyntax", "strconv.ErrRange", "internal/strconv.uint64pow10", "math/bits.deBruijn32tab", "math/bits.deBruijn64tab"], apart := false, laid := [("math/bits.deBruijn32tab", laid_math_bits_deBruijn32tab), ("math/bits.deBruijn64tab", laid_math_bits_deBruijn64tab), ("internal/strconv.uint64pow10", laid_internal_strconv_uint64pow10), ("strconv.ErrRange", laid_strconv_ErrRange), ("strconv.ErrSyntax", laid_strconv_ErrSyntax)], narrowed := true }
def BoundSoundUptoSaid : Prop := boundSoundUptoRow.holds Tryd.pinned (OpenSpec.upto boundSoundSpec)

/-- 'helmsmanlaw01.BoundTexts', WHERE WHAT IT READS IS OF BULK AT MOST 1048576: true; the input reads as it did. -/
def boundTextsUptoRow : OpenClaim := { program := "ytjkaeimchnfhkaadoor", sum := "853a2e59a284b83776a0bde2eafeb4f96ff2c5933e48973ffaba300afa1bece8", func := "helmsman/helmsmanlaw01.BoundTexts", spec := "boundTexts", recurses := true, named := ["internal/strconv.uint64pow10", "math/bits.deBruijn32tab", "math/bits.deBruijn64tab", "strconv.ErrSyntax", "strconv.ErrRange"], apart := false, laid := [("math/bits.deBruijn32tab", laid_math_bits_deBruijn32tab), ("math/bits.deBruijn64tab", laid_math_bits_deBruijn64tab), ("internal/strconv.uint64pow10", laid_internal_strconv_uint64pow10), ("strconv.ErrRange", laid_strconv_ErrRange), ("strconv.ErrSyntax", laid_strconv_ErrSyntax)], narrowed := true }
def BoundTextsUptoSaid : Prop := boundTextsUptoRow.holds Tryd.pinned (OpenSpec.upto boundTextsSpec)

/-- 'helmsmanlaw01.BoundParses', WHERE WHAT IT READS IS OF BULK AT MOST 1048576: true; the input reads as it did. -/
def boundParsesUptoRow : OpenClaim := { program := "ytjkaeimchnfhkaadoor", sum := "853a2e59a284b83776a0bde2eafeb4f96ff2c5933e48973ffaba300afa1bece8", func := "helmsman/helmsmanlaw01.BoundParses", spec := "boundParses", recurses := true, named := ["strconv.ErrSyntax", "strconv.ErrRange", "internal/strconv.uint64pow10", "math/bits.deBruijn32tab", "math/bits.deBruijn64tab"], apart := false, laid := [("math/bits.deBruijn32tab", laid_math_bits_deBruijn32tab), ("math/bits.deBruijn64tab", laid_math_bits_deBruijn64tab), ("internal/strconv.uint64pow10", laid_internal_strconv_uint64pow10), ("strconv.ErrRange", laid_strconv_ErrRange), ("strconv.ErrSyntax", laid_strconv_ErrSyntax)], narrowed := true }
def BoundParsesUptoSaid : Prop := boundParsesUptoRow.holds Tryd.pinned (OpenSpec.upto boundParsesSpec)

/-- 'helmsmanlaw01.BoundUndo', WHERE WHAT IT READS IS OF BULK AT MOST 1048576: true; the input reads as it did. -/
def boundUndoUptoRow : OpenClaim := { program := "ytjkaeimchnfhkaadoor", sum := "853a2e59a284b83776a0bde2eafeb4f96ff2c5933e48973ffaba300afa1bece8", func := "helmsman/helmsmanlaw01.BoundUndo", spec := "boundUndo", named := ["strconv.ErrSyntax", "strconv.ErrRange", "internal/strconv.uint64pow10", "math/bits.deBruijn32tab", "math/bits.deBruijn64tab"], apart := false, laid := [("math/bits.deBruijn32tab", laid_math_bits_deBruijn32tab), ("math/bits.deBruijn64tab", laid_math_bits_deBruijn64tab), ("internal/strconv.uint64pow10", laid_internal_strconv_uint64pow10), ("strconv.ErrRange", laid_strconv_ErrRange), ("strconv.ErrSyntax", laid_strconv_ErrSyntax)], narrowed := true }
def BoundUndoUptoSaid : Prop := boundUndoUptoRow.holds Tryd.pinned (OpenSpec.upto boundUndoSpec)

/-- 'helmsmanlaw01.BoundThree', WHERE WHAT IT READS IS OF BULK AT MOST 1048576: true; the input reads as it did. -/
def boundThreeUptoRow : OpenClaim := { program := "ytjkaeimchnfhkaadoor", sum := "853a2e59a284b83776a0bde2eafeb4f96ff2c5933e48973ffaba300afa1bece8", func := "helmsman/helmsmanlaw01.BoundThree", spec := "boundThree", unfollowed := true, recurses := true, named := ["strconv.ErrSyntax", "strconv.ErrRange", "internal/strconv.uint64pow10", "math/bits.deBruijn32tab", "math/bits.deBruijn64tab"], apart := false, laid := [("math/bits.deBruijn32tab", laid_math_bits_deBruijn32tab), ("math/bits.deBruijn64tab", laid_math_bits_deBruijn64tab), ("internal/strconv.uint64pow10", laid_internal_strconv_uint64pow10), ("strconv.ErrRange", laid_strconv_ErrRange), ("strconv.ErrSyntax", laid_strconv_ErrSyntax)], narrowed := true }
def BoundThreeUptoSaid : Prop := boundThreeUptoRow.holds Tryd.pinned (OpenSpec.upto boundThreeSpec)

end Rows
end Go.Proofs.YtjkaeimchnfhkaaDoor
