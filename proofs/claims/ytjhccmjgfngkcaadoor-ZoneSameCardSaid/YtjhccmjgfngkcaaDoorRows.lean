/-
  NARROWER THAN 'FOR EVERY INPUT', by the rows' own cells (each row's printed sentence says how): ZoneCloses: laid · ZoneTight: laid · ZoneSets: laid · ZonePoints: laid · ZoneSame: laid · ZoneCopied: laid · ZoneChanges: laid · ZoneMoves: laid · ZoneWidens: laid · ZoneRests: laid.
  DERIVED. THE GIVEN ROWS OF THIS SEAT. 10 by the template 'for every input the law returns true; each argument reads behind the call as it read before'; 0 by the template 'total and deterministic' (their statements: YtjhccmjgfngkcaaDoorTotals.lean).
  GIVEN WITH THE SEED: the statements are not yours to turn. If you find one false, say at which input.
  Laid BY PROGRAM, IN A SANDBOX (cutbox-rows.mjs): the forced cells as the released guide's own fill.sh prints them over the translation aea7873df699b284… (all of the seat's roots in one cut). By AI agents, Wed Nov 11 2026. No macro, syntax, notation, axiom, sorry.
-/
import Derived.Test.YtjhccmjgfngkcaaDoorChecked
import GoSem.Claim
import GoSem.ClaimJoined
import GoSem.ClaimMapViews
import Derived.JoinedTies
import Derived.KernelRfl
namespace Go.Proofs.YtjhccmjgfngkcaaDoor
/- THE CELL 'sum', in the pinned program and in every row, IS THE sha256 OF THE DUMP (.gsa) THAT YtjhccmjgfngkcaaDoorProg.lean LOADS. Nothing in Lean hashes anything: it is a label: what it is worth is what the hold of that sum in a sandbox is worth. -/
noncomputable def Tryd.pinned : Pinned := { name := "ytjhccmjgfngkcaadoor", sum := "aea7873df699b2845408f69c52fd6fc1a104f6dbe32af53faeffca74de1790de", checked := Tryd.checked }
namespace Rows
def none {H : Type} : Left H := { results := [], args := [] }

/- WHAT THE LISTED PACKAGE-LEVEL VARIABLES READ AS WHEN THE CALL BEGINS. Each datum BY PROGRAM (the guide's laid-datum.mjs) off the statement by which the dump's own 'gosem.cut.vars' lays the variable. In a bare row this is a premise. The card (YtjhccmjgfngkcaaDoorCards.lean) ties it to the program's text. -/
def laid_math_bits_deBruijn32tab {H : Type} : DataW H := .agg [.lit (.int .u8 0), .lit (.int .u8 1), .lit (.int .u8 28), .lit (.int .u8 2), .lit (.int .u8 29), .lit (.int .u8 14), .lit (.int .u8 24), .lit (.int .u8 3), .lit (.int .u8 30), .lit (.int .u8 22), .lit (.int .u8 20), .lit (.int .u8 15), .lit (.int .u8 25), .lit (.int .u8 17), .lit (.int .u8 4), .lit (.int .u8 8), .lit (.int .u8 31), .lit (.int .u8 27), .lit (.int .u8 13), .lit (.int .u8 23), .lit (.int .u8 21), .lit (.int .u8 19), .lit (.int .u8 16), .lit (.int .u8 7), .lit (.int .u8 26), .lit (.int .u8 12), .lit (.int .u8 18), .lit (.int .u8 6), .lit (.int .u8 11), .lit (.int .u8 5), .lit (.int .u8 10), .lit (.int .u8 9)]
def laid_math_bits_deBruijn64tab {H : Type} : DataW H := .agg [.lit (.int .u8 0), .lit (.int .u8 1), .lit (.int .u8 56), .lit (.int .u8 2), .lit (.int .u8 57), .lit (.int .u8 49), .lit (.int .u8 28), .lit (.int .u8 3), .lit (.int .u8 61), .lit (.int .u8 58), .lit (.int .u8 42), .lit (.int .u8 50), .lit (.int .u8 38), .lit (.int .u8 29), .lit (.int .u8 17), .lit (.int .u8 4), .lit (.int .u8 62), .lit (.int .u8 47), .lit (.int .u8 59), .lit (.int .u8 36), .lit (.int .u8 45), .lit (.int .u8 43), .lit (.int .u8 51), .lit (.int .u8 22), .lit (.int .u8 53), .lit (.int .u8 39), .lit (.int .u8 33), .lit (.int .u8 30), .lit (.int .u8 24), .lit (.int .u8 18), .lit (.int .u8 12), .lit (.int .u8 5), .lit (.int .u8 63), .lit (.int .u8 55), .lit (.int .u8 48), .lit (.int .u8 27), .lit (.int .u8 60), .lit (.int .u8 41), .lit (.int .u8 37), .lit (.int .u8 16), .lit (.int .u8 46), .lit (.int .u8 35), .lit (.int .u8 44), .lit (.int .u8 21), .lit (.int .u8 52), .lit (.int .u8 32), .lit (.int .u8 23), .lit (.int .u8 11), .lit (.int .u8 54), .lit (.int .u8 26), .lit (.int .u8 40), .lit (.int .u8 15), .lit (.int .u8 34), .lit (.int .u8 20), .lit (.int .u8 31), .lit (.int .u8 10), .lit (.int .u8 25), .lit (.int .u8 14), .lit (.int .u8 19), .lit (.int .u8 9), .lit (.int .u8 13), .lit (.int .u8 8), .lit (.int .u8 7), .lit (.int .u8 6)]
def laid_internal_strconv_uint64pow10 {H : Type} : DataW H := .agg [.lit (.int .u64 1), .lit (.int .u64 10), .lit (.int .u64 100), .lit (.int .u64 1000), .lit (.int .u64 10000), .lit (.int .u64 100000), .lit (.int .u64 1000000), .lit (.int .u64 10000000), .lit (.int .u64 100000000), .lit (.int .u64 1000000000), .lit (.int .u64 10000000000), .lit (.int .u64 100000000000), .lit (.int .u64 1000000000000), .lit (.int .u64 10000000000000), .lit (.int .u64 100000000000000), .lit (.int .u64 1000000000000000), .lit (.int .u64 10000000000000000), .lit (.int .u64 100000000000000000), .lit (.int .u64 1000000000000000000), .lit (.int .u64 10000000000000000000)]

/-- 'helmsmanlaw03.ZoneCloses': WHATEVER THE INPUT: true; the input reads as it did. -/
def zoneClosesSpec : ChangeSpec := { name := "zoneCloses", fn := fun _ => fun
  | [d] => { results := [.lit (.bool true)], args := [d] }
  | _ => none }
def zoneClosesRow : OpenClaim := { program := "ytjhccmjgfngkcaadoor", sum := "aea7873df699b2845408f69c52fd6fc1a104f6dbe32af53faeffca74de1790de", func := "helmsman/helmsmanlaw03.ZoneCloses", spec := "zoneCloses", inPlace := ["internal/abi.NoEscape", "internal/bytealg.MakeNoZero"], unfollowed := true, recurses := true, named := ["internal/strconv.uint64pow10", "math/bits.deBruijn32tab", "math/bits.deBruijn64tab"], apart := false, laid := [("math/bits.deBruijn32tab", laid_math_bits_deBruijn32tab), ("math/bits.deBruijn64tab", laid_math_bits_deBruijn64tab), ("internal/strconv.uint64pow10", laid_internal_strconv_uint64pow10)] }
def ZoneClosesSaid : Prop := zoneClosesRow.holds Tryd.pinned (OpenSpec.ofChange zoneClosesSpec)

/-- ITS FALSE NEIGHBOUR: 'it returns false'. Refute it at one input. -/
def zoneClosesWrong : ChangeSpec := { name := "zoneCloses", fn := fun _ => fun
  | [d] => { results := [.lit (.bool false)], args := [d] }
  | _ => none }
def ZoneClosesWrongFalsely : Prop := zoneClosesRow.holds Tryd.pinned (OpenSpec.ofChange zoneClosesWrong)

/-- 'helmsmanlaw03.ZoneTight': WHATEVER THE INPUT: true; the input reads as it did. -/
def zoneTightSpec : ChangeSpec := { name := "zoneTight", fn := fun _ => fun
  | [d1, d2, d3] => { results := [.lit (.bool true)], args := [d1, d2, d3] }
  | _ => none }
def zoneTightRow : OpenClaim := { program := "ytjhccmjgfngkcaadoor", sum := "aea7873df699b2845408f69c52fd6fc1a104f6dbe32af53faeffca74de1790de", func := "helmsman/helmsmanlaw03.ZoneTight", spec := "zoneTight", inPlace := ["internal/abi.NoEscape", "internal/bytealg.MakeNoZero"], unfollowed := true, recurses := true, named := ["internal/strconv.uint64pow10", "math/bits.deBruijn32tab", "math/bits.deBruijn64tab"], apart := false, laid := [("math/bits.deBruijn32tab", laid_math_bits_deBruijn32tab), ("math/bits.deBruijn64tab", laid_math_bits_deBruijn64tab), ("internal/strconv.uint64pow10", laid_internal_strconv_uint64pow10)] }
def ZoneTightSaid : Prop := zoneTightRow.holds Tryd.pinned (OpenSpec.ofChange zoneTightSpec)

/-- ITS FALSE NEIGHBOUR: 'it returns false'. Refute it at one input. -/
def zoneTightWrong : ChangeSpec := { name := "zoneTight", fn := fun _ => fun
  | [d1, d2, d3] => { results := [.lit (.bool false)], args := [d1, d2, d3] }
  | _ => none }
def ZoneTightWrongFalsely : Prop := zoneTightRow.holds Tryd.pinned (OpenSpec.ofChange zoneTightWrong)

/-- 'helmsmanlaw03.ZoneSets': WHATEVER THE INPUT: true; the input reads as it did. -/
def zoneSetsSpec : ChangeSpec := { name := "zoneSets", fn := fun _ => fun
  | [d1, d2] => { results := [.lit (.bool true)], args := [d1, d2] }
  | _ => none }
def zoneSetsRow : OpenClaim := { program := "ytjhccmjgfngkcaadoor", sum := "aea7873df699b2845408f69c52fd6fc1a104f6dbe32af53faeffca74de1790de", func := "helmsman/helmsmanlaw03.ZoneSets", spec := "zoneSets", inPlace := ["internal/abi.NoEscape", "internal/bytealg.MakeNoZero"], unfollowed := true, recurses := true, named := ["internal/strconv.uint64pow10", "math/bits.deBruijn32tab", "math/bits.deBruijn64tab"], apart := false, laid := [("math/bits.deBruijn32tab", laid_math_bits_deBruijn32tab), ("math/bits.deBruijn64tab", laid_math_bits_deBruijn64tab), ("internal/strconv.uint64pow10", laid_internal_strconv_uint64pow10)] }
def ZoneSetsSaid : Prop := zoneSetsRow.holds Tryd.pinned (OpenSpec.ofChange zoneSetsSpec)

/-- ITS FALSE NEIGHBOUR: 'it returns false'. Refute it at one input. -/
def zoneSetsWrong : ChangeSpec := { name := "zoneSets", fn := fun _ => fun
  | [d1, d2] => { results := [.lit (.bool false)], args := [d1, d2] }
  | _ => none }
def ZoneSetsWrongFalsely : Prop := zoneSetsRow.holds Tryd.pinned (OpenSpec.ofChange zoneSetsWrong)

/-- 'helmsmanlaw03.ZonePoints': WHATEVER THE INPUT: true; the input reads as it did. -/
def zonePointsSpec : ChangeSpec := { name := "zonePoints", fn := fun _ => fun
  | [d1, d2, d3] => { results := [.lit (.bool true)], args := [d1, d2, d3] }
  | _ => none }
def zonePointsRow : OpenClaim := { program := "ytjhccmjgfngkcaadoor", sum := "aea7873df699b2845408f69c52fd6fc1a104f6dbe32af53faeffca74de1790de", func := "helmsman/helmsmanlaw03.ZonePoints", spec := "zonePoints", inPlace := ["internal/abi.NoEscape", "internal/bytealg.MakeNoZero"], unfollowed := true, recurses := true, named := ["internal/strconv.uint64pow10", "math/bits.deBruijn32tab", "math/bits.deBruijn64tab"], apart := false, laid := [("math/bits.deBruijn32tab", laid_math_bits_deBruijn32tab), ("math/bits.deBruijn64tab", laid_math_bits_deBruijn64tab), ("internal/strconv.uint64pow10", laid_internal_strconv_uint64pow10)] }
def ZonePointsSaid : Prop := zonePointsRow.holds Tryd.pinned (OpenSpec.ofChange zonePointsSpec)

/-- ITS FALSE NEIGHBOUR: 'it returns false'. Refute it at one input. -/
def zonePointsWrong : ChangeSpec := { name := "zonePoints", fn := fun _ => fun
  | [d1, d2, d3] => { results := [.lit (.bool false)], args := [d1, d2, d3] }
  | _ => none }
def ZonePointsWrongFalsely : Prop := zonePointsRow.holds Tryd.pinned (OpenSpec.ofChange zonePointsWrong)

/-- 'helmsmanlaw03.ZoneSame': WHATEVER THE INPUT: true; the input reads as it did. -/
def zoneSameSpec : ChangeSpec := { name := "zoneSame", fn := fun _ => fun
  | [d1, d2] => { results := [.lit (.bool true)], args := [d1, d2] }
  | _ => none }
def zoneSameRow : OpenClaim := { program := "ytjhccmjgfngkcaadoor", sum := "aea7873df699b2845408f69c52fd6fc1a104f6dbe32af53faeffca74de1790de", func := "helmsman/helmsmanlaw03.ZoneSame", spec := "zoneSame", inPlace := ["internal/abi.NoEscape", "internal/bytealg.MakeNoZero"], unfollowed := true, recurses := true, named := ["internal/strconv.uint64pow10", "math/bits.deBruijn32tab", "math/bits.deBruijn64tab"], apart := false, laid := [("math/bits.deBruijn32tab", laid_math_bits_deBruijn32tab), ("math/bits.deBruijn64tab", laid_math_bits_deBruijn64tab), ("internal/strconv.uint64pow10", laid_internal_strconv_uint64pow10)] }
def ZoneSameSaid : Prop := zoneSameRow.holds Tryd.pinned (OpenSpec.ofChange zoneSameSpec)

/-- ITS FALSE NEIGHBOUR: 'it returns false'. Refute it at one input. -/
def zoneSameWrong : ChangeSpec := { name := "zoneSame", fn := fun _ => fun
  | [d1, d2] => { results := [.lit (.bool false)], args := [d1, d2] }
  | _ => none }
def ZoneSameWrongFalsely : Prop := zoneSameRow.holds Tryd.pinned (OpenSpec.ofChange zoneSameWrong)

/-- 'helmsmanlaw03.ZoneCopied': WHATEVER THE INPUT: true; the input reads as it did. -/
def zoneCopiedSpec : ChangeSpec := { name := "zoneCopied", fn := fun _ => fun
  | [d1, d2, d3] => { results := [.lit (.bool true)], args := [d1, d2, d3] }
  | _ => none }
def zoneCopiedRow : OpenClaim := { program := "ytjhccmjgfngkcaadoor", sum := "aea7873df699b2845408f69c52fd6fc1a104f6dbe32af53faeffca74de1790de", func := "helmsman/helmsmanlaw03.ZoneCopied", spec := "zoneCopied", inPlace := ["internal/abi.NoEscape", "internal/bytealg.MakeNoZero"], unfollowed := true, recurses := true, named := ["internal/strconv.uint64pow10", "math/bits.deBruijn32tab", "math/bits.deBruijn64tab"], apart := false, laid := [("math/bits.deBruijn32tab", laid_math_bits_deBruijn32tab), ("math/bits.deBruijn64tab", laid_math_bits_deBruijn64tab), ("internal/strconv.uint64pow10", laid_internal_strconv_uint64pow10)] }
def ZoneCopiedSaid : Prop := zoneCopiedRow.holds Tryd.pinned (OpenSpec.ofChange zoneCopiedSpec)

/-- ITS FALSE NEIGHBOUR: 'it returns false'. Refute it at one input. -/
def zoneCopiedWrong : ChangeSpec := { name := "zoneCopied", fn := fun _ => fun
  | [d1, d2, d3] => { results := [.lit (.bool false)], args := [d1, d2, d3] }
  | _ => none }
def ZoneCopiedWrongFalsely : Prop := zoneCopiedRow.holds Tryd.pinned (OpenSpec.ofChange zoneCopiedWrong)

/-- 'helmsmanlaw03.ZoneChanges': WHATEVER THE INPUT: true; the input reads as it did. -/
def zoneChangesSpec : ChangeSpec := { name := "zoneChanges", fn := fun _ => fun
  | [d1, d2] => { results := [.lit (.bool true)], args := [d1, d2] }
  | _ => none }
def zoneChangesRow : OpenClaim := { program := "ytjhccmjgfngkcaadoor", sum := "aea7873df699b2845408f69c52fd6fc1a104f6dbe32af53faeffca74de1790de", func := "helmsman/helmsmanlaw03.ZoneChanges", spec := "zoneChanges", inPlace := ["internal/abi.NoEscape", "internal/bytealg.MakeNoZero"], unfollowed := true, recurses := true, named := ["internal/strconv.uint64pow10", "math/bits.deBruijn32tab", "math/bits.deBruijn64tab"], apart := false, laid := [("math/bits.deBruijn32tab", laid_math_bits_deBruijn32tab), ("math/bits.deBruijn64tab", laid_math_bits_deBruijn64tab), ("internal/strconv.uint64pow10", laid_internal_strconv_uint64pow10)] }
def ZoneChangesSaid : Prop := zoneChangesRow.holds Tryd.pinned (OpenSpec.ofChange zoneChangesSpec)

/-- ITS FALSE NEIGHBOUR: 'it returns false'. Refute it at one input. -/
def zoneChangesWrong : ChangeSpec := { name := "zoneChanges", fn := fun _ => fun
  | [d1, d2] => { results := [.lit (.bool false)], args := [d1, d2] }
  | _ => none }
def ZoneChangesWrongFalsely : Prop := zoneChangesRow.holds Tryd.pinned (OpenSpec.ofChange zoneChangesWrong)

/-- 'helmsmanlaw03.ZoneMoves': WHATEVER THE INPUT: true; the input reads as it did. -/
def zoneMovesSpec : ChangeSpec := { name := "zoneMoves", fn := fun _ => fun
  | [d1, d2, d3] => { results := [.lit (.bool true)], args := [d1, d2, d3] }
  | _ => none }
def zoneMovesRow : OpenClaim := { program := "ytjhccmjgfngkcaadoor", sum := "aea7873df699b2845408f69c52fd6fc1a104f6dbe32af53faeffca74de1790de", func := "helmsman/helmsmanlaw03.ZoneMoves", spec := "zoneMoves", inPlace := ["internal/abi.NoEscape", "internal/bytealg.MakeNoZero"], unfollowed := true, recurses := true, named := ["internal/strconv.uint64pow10", "math/bits.deBruijn32tab", "math/bits.deBruijn64tab"], apart := false, laid := [("math/bits.deBruijn32tab", laid_math_bits_deBruijn32tab), ("math/bits.deBruijn64tab", laid_math_bits_deBruijn64tab), ("internal/strconv.uint64pow10", laid_internal_strconv_uint64pow10)] }
def ZoneMovesSaid : Prop := zoneMovesRow.holds Tryd.pinned (OpenSpec.ofChange zoneMovesSpec)

/-- ITS FALSE NEIGHBOUR: 'it returns false'. Refute it at one input. -/
def zoneMovesWrong : ChangeSpec := { name := "zoneMoves", fn := fun _ => fun
  | [d1, d2, d3] => { results := [.lit (.bool false)], args := [d1, d2, d3] }
  | _ => none }
def ZoneMovesWrongFalsely : Prop := zoneMovesRow.holds Tryd.pinned (OpenSpec.ofChange zoneMovesWrong)

/-- 'helmsmanlaw03.ZoneWidens': WHATEVER THE INPUT: true; the input reads as it did. -/
def zoneWidensSpec : ChangeSpec := { name := "zoneWidens", fn := fun _ => fun
  | [d1, d2, d3] => { results := [.lit (.bool true)], args := [d1, d2, d3] }
  | _ => none }
def zoneWidensRow : OpenClaim := { program := "ytjhccmjgfngkcaadoor", sum := "aea7873df699b2845408f69c52fd6fc1a104f6dbe32af53faeffca74de1790de", func := "helmsman/helmsmanlaw03.ZoneWidens", spec := "zoneWidens", inPlace := ["internal/abi.NoEscape", "internal/bytealg.MakeNoZero"], unfollowed := true, recurses := true, named := ["internal/strconv.uint64pow10", "math/bits.deBruijn32tab", "math/bits.deBruijn64tab"], apart := false, laid := [("math/bits.deBruijn32tab", laid_math_bits_deBruijn32tab), ("math/bits.deBruijn64tab", laid_math_bits_deBruijn64tab), ("internal/strconv.uint64pow10", laid_internal_strconv_uint64pow10)] }
def ZoneWidensSaid : Prop := zoneWidensRow.holds Tryd.pinned (OpenSpec.ofChange zoneWidensSpec)

/-- ITS FALSE NEIGHBOUR: 'it returns false'. Refute it at one input. -/
def zoneWidensWrong : ChangeSpec := { name := "zoneWidens", fn := fun _ => fun
  | [d1, d2, d3] => { results := [.lit (.bool false)], args := [d1, d2, d3] }
  | _ => none }
def ZoneWidensWrongFalsely : Prop := zoneWidensRow.holds Tryd.pinned (OpenSpec.ofChange zoneWidensWrong)

/-- 'helmsmanlaw03.ZoneRests': WHATEVER THE INPUT: true; the input reads as it did. -/
def zoneRestsSpec : ChangeSpec := { name := "zoneRests", fn := fun _ => fun
  | [d1, d2, d3] => { results := [.lit (.bool true)], args := [d1, d2, d3] }
  | _ => none }
def zoneRestsRow : OpenClaim := { program := "ytjhccmjgfngkcaadoor", sum := "aea7873df699b2845408f69c52fd6fc1a104f6dbe32af53faeffca74de1790de", func := "helmsman/helmsmanlaw03.ZoneRests", spec := "zoneRests", inPlace := ["internal/abi.NoEscape", "internal/bytealg.MakeNoZero"], unfollowed := true, recurses := true, named := ["internal/strconv.uint64pow10", "math/bits.deBruijn32tab", "math/bits.deBruijn64tab"], apart := false, laid := [("math/bits.deBruijn32tab", laid_math_bits_deBruijn32tab), ("math/bits.deBruijn64tab", laid_math_bits_deBruijn64tab), ("internal/strconv.uint64pow10", laid_internal_strconv_uint64pow10)] }
def ZoneRestsSaid : Prop := zoneRestsRow.holds Tryd.pinned (OpenSpec.ofChange zoneRestsSpec)

/-- ITS FALSE NEIGHBOUR: 'it returns false'. Refute it at one input. -/
def zoneRestsWrong : ChangeSpec := { name := "zoneRests", fn := fun _ => fun
  | [d1, d2, d3] => { results := [.lit (.bool false)], args := [d1, d2, d3] }
  | _ => none }
def ZoneRestsWrongFalsely : Prop := zoneRestsRow.holds Tryd.pinned (OpenSpec.ofChange zoneRestsWrong)

/- THE SECOND FORM. 'bulk': how many values and letters a reading holds, each counted each time it is reached (what is shared counts as often as it is met; a slice's spare places count too). A statement '..UptoSaid' is the law's where the arguments, and the package variables that the reading takes, are together of bulk at most 1048576: NARROWER than '..Said'. Prove '..Said' where nothing that the law and all that it calls make is longer than what came in: it says more and counts as full. Else prove '..UptoSaid'. A law counts once. -/
mutual
def uptoBulk {H : Type} : DataW H → Nat
  | .lit (.string bytes) => bytes.length + 1
  | .lit _ => 1
  | .nil => 1
  | .ptr d => uptoBulk d + 1
  | .slice elems spare => uptoBulkAll elems + uptoBulkAll spare + 1
  | .agg parts => uptoBulkAll parts + 1
  | .iface _ d => uptoBulk d + 1
  | .map entries => uptoBulkEntries entries + 1
  | .held _ => 1
def uptoBulkAll {H : Type} : List (DataW H) → Nat
  | [] => 0
  | d :: r => uptoBulk d + uptoBulkAll r
def uptoBulkEntries {H : Type} : List (Lit × DataW H) → Nat
  | [] => 0
  | x :: r => uptoBulkEntry x + uptoBulkEntries r
def uptoBulkEntry {H : Type} : Lit × DataW H → Nat
  | (.string bytes, d) => bytes.length + uptoBulk d + 1
  | (_, d) => uptoBulk d + 1
 end
def uptoSmall : (H : Type) → List (DataW H) → Bool := fun _ ds => decide (uptoBulkAll ds ≤ 1048576)
def OpenSpec.upto (s : _root_.Go.ChangeSpec) : _root_.Go.OpenSpec := { _root_.Go.OpenSpec.ofChange s with cond := some uptoSmall }

/-- 'helmsmanlaw03.ZoneCloses', WHERE WHAT IT READS IS OF BULK AT MOST 1048576: true; the input reads as it did. -/
def zoneClosesUptoRow : OpenClaim := { program := "ytjhccmjgfngkcaadoor", sum := "aea7873df699b2845408f69c52fd6fc1a104f6dbe32af53faeffca74de1790de", func := "helmsman/helmsmanlaw03.ZoneCloses", spec := "zoneCloses", inPlace := ["internal/abi.NoEscape", "internal/bytealg.MakeNoZero"], unfollowed := true, recurses := true, named := ["internal/strconv.uint64pow10", "math/bits.deBruijn32tab", "math/bits.deBruijn64tab"], apart := false, laid := [("math/bits.deBruijn32tab", laid_math_bits_deBruijn32tab), ("math/bits.deBruijn64tab", laid_math_bits_deBruijn64tab), ("internal/strconv.uint64pow10", laid_internal_strconv_uint64pow10)], narrowed := true }
def ZoneClosesUptoSaid : Prop := zoneClosesUptoRow.holds Tryd.pinned (OpenSpec.upto zoneClosesSpec)

/-- 'helmsmanlaw03.ZoneTight', WHERE WHAT IT READS IS OF BULK AT MOST 1048576: true; the input reads as it did. -/
def zoneTightUptoRow : OpenClaim := { program := "ytjhccmjgfngkcaadoor", sum := "aea7873df699b2845408f69c52fd6fc1a104f6dbe32af53faeffca74de1790de", func := "helmsman/helmsmanlaw03.ZoneTight", spec := "zoneTight", inPlace := ["internal/abi.NoEscape", "internal/bytealg.MakeNoZero"], unfollowed := true, recurses := true, named := ["internal/strconv.uint64pow10", "math/bits.deBruijn32tab", "math/bits.deBruijn64tab"], apart := false, laid := [("math/bits.deBruijn32tab", laid_math_bits_deBruijn32tab), ("math/bits.deBruijn64tab", laid_math_bits_deBruijn64tab), ("internal/strconv.uint64pow10", laid_internal_strconv_uint64pow10)], narrowed := true }
def ZoneTightUptoSaid : Prop := zoneTightUptoRow.holds Tryd.pinned (OpenSpec.upto zoneTightSpec)

/-- 'helmsmanlaw03.ZoneSets', WHERE WHAT IT READS IS OF BULK AT MOST 1048576: true; the input reads as it did. -/
def zoneSetsUptoRow : OpenClaim := { program := "ytjhccmjgfngkcaadoor", sum := "aea7873df699b2845408f69c52fd6fc1a104f6dbe32af53faeffca74de1790de", func := "helmsman/helmsmanlaw03.ZoneSets", spec := "zoneSets", inPlace := ["internal/abi.NoEscape", "internal/bytealg.MakeNoZero"], unfollowed := true, recurses := true, named := ["internal/strconv.uint64pow10", "math/bits.deBruijn32tab", "math/bits.deBruijn64tab"], apart := false, laid := [("math/bits.deBruijn32tab", laid_math_bits_deBruijn32tab), ("math/bits.deBruijn64tab", laid_math_bits_deBruijn64tab), ("internal/strconv.uint64pow10", laid_internal_strconv_uint64pow10)], narrowed := true }
def ZoneSetsUptoSaid : Prop := zoneSetsUptoRow.holds Tryd.pinned (OpenSpec.upto zoneSetsSpec)

/-- 'helmsmanlaw03.ZonePoints', WHERE WHAT IT READS IS OF BULK AT MOST 1048576: true; the input reads as it did. -/
def zonePointsUptoRow : OpenClaim := { program := "ytjhccmjgfngkcaadoor", sum := "aea7873df699b2845408f69c52fd6fc1a104f6dbe32af53faeffca74de1790de", func := "helmsman/helmsmanlaw03.ZonePoints", spec := "zonePoints", inPlace := ["internal/abi.NoEscape", "internal/bytealg.MakeNoZero"], unfollowed := true, recurses := true, named := ["internal/strconv.uint64pow10", "math/bits.deBruijn32tab", "math/bits.deBruijn64tab"], apart := false, laid := [("math/bits.deBruijn32tab", laid_math_bits_deBruijn32tab), ("math/bits.deBruijn64tab", laid_math_bits_deBruijn64tab), ("internal/strconv.uint64pow10", laid_internal_strconv_uint64pow10)], narrowed := true }
def ZonePointsUptoSaid : Prop := zonePointsUptoRow.holds Tryd.pinned (OpenSpec.upto zonePointsSpec)

/-- 'helmsmanlaw03.ZoneSame', WHERE WHAT IT READS IS OF BULK AT MOST 1048576: true; the input reads as it did. -/
def zoneSameUptoRow : OpenClaim := { program := "ytjhccmjgfngkcaadoor", sum := "aea7873df699b2845408f69c52fd6fc1a104f6dbe32af53faeffca74de1790de", func := "helmsman/helmsmanlaw03.ZoneSame", spec := "zoneSame", inPlace := ["internal/abi.NoEscape", "internal/bytealg.MakeNoZero"], unfollowed := true, recurses := true, named := ["internal/strconv.uint64pow10", "math/bits.deBruijn32tab", "math/bits.deBruijn64tab"], apart := false, laid := [("math/bits.deBruijn32tab", laid_math_bits_deBruijn32tab), ("math/bits.deBruijn64tab", laid_math_bits_deBruijn64tab), ("internal/strconv.uint64pow10", laid_internal_strconv_uint64pow10)], narrowed := true }
def ZoneSameUptoSaid : Prop := zoneSameUptoRow.holds Tryd.pinned (OpenSpec.upto zoneSameSpec)

/-- 'helmsmanlaw03.ZoneCopied', WHERE WHAT IT READS IS OF BULK AT MOST 1048576: true; the input reads as it did. -/
def zoneCopiedUptoRow : OpenClaim := { program := "ytjhccmjgfngkcaadoor", sum := "aea7873df699b2845408f69c52fd6fc1a104f6dbe32af53faeffca74de1790de", func := "helmsman/helmsmanlaw03.ZoneCopied", spec := "zoneCopied", inPlace := ["internal/abi.NoEscape", "internal/bytealg.MakeNoZero"], unfollowed := true, recurses := true, named := ["internal/strconv.uint64pow10", "math/bits.deBruijn32tab", "math/bits.deBruijn64tab"], apart := false, laid := [("math/bits.deBruijn32tab", laid_math_bits_deBruijn32tab), ("math/bits.deBruijn64tab", laid_math_bits_deBruijn64tab), ("internal/strconv.uint64pow10", laid_internal_strconv_uint64pow10)], narrowed := true }
def ZoneCopiedUptoSaid : Prop := zoneCopiedUptoRow.holds Tryd.pinned (OpenSpec.upto zoneCopiedSpec)

/-- 'helmsmanlaw03.ZoneChanges', WHERE WHAT IT READS IS OF BULK AT MOST 1048576: true; the input reads as it did. -/
def zoneChangesUptoRow : OpenClaim := { program := "ytjhccmjgfngkcaadoor", sum := "aea7873df699b2845408f69c52fd6fc1a104f6dbe32af53faeffca74de1790de", func := "helmsman/helmsmanlaw03.ZoneChanges", spec := "zoneChanges", inPlace := ["internal/abi.NoEscape", "internal/bytealg.MakeNoZero"], unfollowed := true, recurses := true, named := ["internal/strconv.uint64pow10", "math/bits.deBruijn32tab", "math/bits.deBruijn64tab"], apart := false, laid := [("math/bits.deBruijn32tab", laid_math_bits_deBruijn32tab), ("math/bits.deBruijn64tab", laid_math_bits_deBruijn64tab), ("internal/strconv.uint64pow10", laid_internal_strconv_uint64pow10)], narrowed := true }
def ZoneChangesUptoSaid : Prop := zoneChangesUptoRow.holds Tryd.pinned (OpenSpec.upto zoneChangesSpec)

/-- 'helmsmanlaw03.ZoneMoves', WHERE WHAT IT READS IS OF BULK AT MOST 1048576: true; the input reads as it did. -/
def zoneMovesUptoRow : OpenClaim := { program := "ytjhccmjgfngkcaadoor", sum := "aea7873df699b2845408f69c52fd6fc1a104f6dbe32af53faeffca74de1790de", func := "helmsman/helmsmanlaw03.ZoneMoves", spec := "zoneMoves", inPlace := ["internal/abi.NoEscape", "internal/bytealg.MakeNoZero"], unfollowed := true, recurses := true, named := ["internal/strconv.uint64pow10", "math/bits.deBruijn32tab", "math/bits.deBruijn64tab"], apart := false, laid := [("math/bits.deBruijn32tab", laid_math_bits_deBruijn32tab), ("math/bits.deBruijn64tab", laid_math_bits_deBruijn64tab), ("internal/strconv.uint64pow10", laid_internal_strconv_uint64pow10)], narrowed := true }
def ZoneMovesUptoSaid : Prop := zoneMovesUptoRow.holds Tryd.pinned (OpenSpec.upto zoneMovesSpec)

/-- 'helmsmanlaw03.ZoneWidens', WHERE WHAT IT READS IS OF BULK AT MOST 1048576: true; the input reads as it did. -/
def zoneWidensUptoRow : OpenClaim := { program := "ytjhccmjgfngkcaadoor", sum := "aea7873df699b2845408f69c52fd6fc1a104f6dbe32af53faeffca74de1790de", func := "helmsman/helmsmanlaw03.ZoneWidens", spec := "zoneWidens", inPlace := ["internal/abi.NoEscape", "internal/bytealg.MakeNoZero"], unfollowed := true, recurses := true, named := ["internal/strconv.uint64pow10", "math/bits.deBruijn32tab", "math/bits.deBruijn64tab"], apart := false, laid := [("math/bits.deBruijn32tab", laid_math_bits_deBruijn32tab), ("math/bits.deBruijn64tab", laid_math_bits_deBruijn64tab), ("internal/strconv.uint64pow10", laid_internal_strconv_uint64pow10)], narrowed := true }
def ZoneWidensUptoSaid : Prop := zoneWidensUptoRow.holds Tryd.pinned (OpenSpec.upto zoneWidensSpec)

/-- 'helmsmanlaw03.ZoneRests', WHERE WHAT IT READS IS OF BULK AT MOST 1048576: true; the input reads as it did. -/
def zoneRestsUptoRow : OpenClaim := { program := "ytjhccmjgfngkcaadoor", sum := "aea7873df699b2845408f69c52fd6fc1a104f6dbe32af53faeffca74de1790de", func := "helmsman/helmsmanlaw03.ZoneRests", spec := "zoneRests", inPlace := ["internal/abi.NoEscape", "internal/bytealg.MakeNoZero"], unfollowed := true, recurses := true, named := ["internal/strconv.uint64pow10", "math/bits.deBruijn32tab", "math/bits.deBruijn64tab"], apart := false, laid := [("math/bits.deBruijn32tab", laid_math_bits_deBruijn32tab), ("math/bits.deBruijn64tab", laid_math_bits_deBruijn64tab), ("internal/strconv.uint64pow10", laid_internal_strconv_uint64pow10)], narrowed := true }
def ZoneRestsUptoSaid : Prop := zoneRestsUptoRow.holds Tryd.pinned (OpenSpec.upto zoneRestsSpec)

end Rows
end Go.Proofs.YtjhccmjgfngkcaaDoor
