/-
  No cell of these rows narrows 'for every input' (looked for: loops, veiled, ifaces, maps, wideKeys, modest, calm, conditions, laid).
  DERIVED. THE GIVEN ROWS OF THIS SEAT. 7 by the template 'for every input the law returns true; each argument reads behind the call as it read before'; 0 by the template 'total and deterministic' (their statements: YtiagkbmhfgdffaaTotals.lean).
  GIVEN WITH THE SEED: the statements are not yours to turn. If you find one false, say at which input.
  Laid BY PROGRAM, IN A SANDBOX (cutbox-rows.mjs): the forced cells as the released guide's own fill.sh prints them over the translation faab42aeddbf943b… (all of the seat's roots in one cut). By AI agents, Wed Nov 11 2026. No macro, syntax, notation, axiom, sorry.
-/
import Derived.Test.YtiagkbmhfgdffaaChecked
import GoSem.Claim
import GoSem.ClaimJoined
import GoSem.ClaimMapViews
import Derived.JoinedTies
import Derived.KernelRfl
namespace Go.Proofs.Ytiagkbmhfgdffaa
/- THE CELL 'sum', in the pinned program and in every row, IS THE sha256 OF THE DUMP (.gsa) THAT YtiagkbmhfgdffaaProg.lean LOADS. Nothing in Lean hashes anything: it is a label: what it is worth is what the hold of that sum in a sandbox is worth. -/
noncomputable def Try.pinned : Pinned := { name := "ytiagkbmhfgdffaa", sum := "faab42aeddbf943bd48d6944903df30c9f33f4a690f07dcd4754e46c9750d975", checked := Try.checked }
namespace Rows
def none {H : Type} : Left H := { results := [], args := [] }

/-- 'helmsmanlaw07.BddAll': WHATEVER THE INPUT: true; the input reads as it did. -/
def bddAllSpec : ChangeSpec := { name := "bddAll", fn := fun _ => fun
  | [d1, d2] => { results := [.lit (.bool true)], args := [d1, d2] }
  | _ => none }
def bddAllRow : OpenClaim := { program := "ytiagkbmhfgdffaa", sum := "faab42aeddbf943bd48d6944903df30c9f33f4a690f07dcd4754e46c9750d975", func := "helmsman/helmsmanlaw07.BddAll", spec := "bddAll", inPlace := ["internal/reflectlite.TypeOf"], unfollowed := true, recurses := true, apart := false }
def BddAllSaid : Prop := bddAllRow.holds Try.pinned (OpenSpec.ofChange bddAllSpec)

/-- ITS FALSE NEIGHBOUR: 'it returns false'. Refute it at one input. -/
def bddAllWrong : ChangeSpec := { name := "bddAll", fn := fun _ => fun
  | [d1, d2] => { results := [.lit (.bool false)], args := [d1, d2] }
  | _ => none }
def BddAllWrongFalsely : Prop := bddAllRow.holds Try.pinned (OpenSpec.ofChange bddAllWrong)

/-- 'helmsmanlaw07.BddSame': WHATEVER THE INPUT: true; the input reads as it did. -/
def bddSameSpec : ChangeSpec := { name := "bddSame", fn := fun _ => fun
  | [d1, d2] => { results := [.lit (.bool true)], args := [d1, d2] }
  | _ => none }
def bddSameRow : OpenClaim := { program := "ytiagkbmhfgdffaa", sum := "faab42aeddbf943bd48d6944903df30c9f33f4a690f07dcd4754e46c9750d975", func := "helmsman/helmsmanlaw07.BddSame", spec := "bddSame", inPlace := ["internal/reflectlite.TypeOf"], unfollowed := true, recurses := true, apart := false }
def BddSameSaid : Prop := bddSameRow.holds Try.pinned (OpenSpec.ofChange bddSameSpec)

/-- ITS FALSE NEIGHBOUR: 'it returns false'. Refute it at one input. -/
def bddSameWrong : ChangeSpec := { name := "bddSame", fn := fun _ => fun
  | [d1, d2] => { results := [.lit (.bool false)], args := [d1, d2] }
  | _ => none }
def BddSameWrongFalsely : Prop := bddSameRow.holds Try.pinned (OpenSpec.ofChange bddSameWrong)

/-- 'helmsmanlaw07.BddCache': WHATEVER THE INPUT: true; the input reads as it did. -/
def bddCacheSpec : ChangeSpec := { name := "bddCache", fn := fun _ => fun
  | [d1, d2, d3] => { results := [.lit (.bool true)], args := [d1, d2, d3] }
  | _ => none }
def bddCacheRow : OpenClaim := { program := "ytiagkbmhfgdffaa", sum := "faab42aeddbf943bd48d6944903df30c9f33f4a690f07dcd4754e46c9750d975", func := "helmsman/helmsmanlaw07.BddCache", spec := "bddCache", inPlace := ["internal/reflectlite.TypeOf"], unfollowed := true, recurses := true, apart := false }
def BddCacheSaid : Prop := bddCacheRow.holds Try.pinned (OpenSpec.ofChange bddCacheSpec)

/-- ITS FALSE NEIGHBOUR: 'it returns false'. Refute it at one input. -/
def bddCacheWrong : ChangeSpec := { name := "bddCache", fn := fun _ => fun
  | [d1, d2, d3] => { results := [.lit (.bool false)], args := [d1, d2, d3] }
  | _ => none }
def BddCacheWrongFalsely : Prop := bddCacheRow.holds Try.pinned (OpenSpec.ofChange bddCacheWrong)

/-- 'helmsmanlaw07.BddSupport': WHATEVER THE INPUT: true; the input reads as it did. -/
def bddSupportSpec : ChangeSpec := { name := "bddSupport", fn := fun _ => fun
  | [d] => { results := [.lit (.bool true)], args := [d] }
  | _ => none }
def bddSupportRow : OpenClaim := { program := "ytiagkbmhfgdffaa", sum := "faab42aeddbf943bd48d6944903df30c9f33f4a690f07dcd4754e46c9750d975", func := "helmsman/helmsmanlaw07.BddSupport", spec := "bddSupport", inPlace := ["internal/reflectlite.TypeOf"], unfollowed := true, recurses := true, apart := false }
def BddSupportSaid : Prop := bddSupportRow.holds Try.pinned (OpenSpec.ofChange bddSupportSpec)

/-- ITS FALSE NEIGHBOUR: 'it returns false'. Refute it at one input. -/
def bddSupportWrong : ChangeSpec := { name := "bddSupport", fn := fun _ => fun
  | [d] => { results := [.lit (.bool false)], args := [d] }
  | _ => none }
def BddSupportWrongFalsely : Prop := bddSupportRow.holds Try.pinned (OpenSpec.ofChange bddSupportWrong)

/-- 'helmsmanlaw07.BddOdd': WHATEVER THE INPUT: true; the input reads as it did. -/
def bddOddSpec : ChangeSpec := { name := "bddOdd", fn := fun _ => fun
  | [d1, d2, d3] => { results := [.lit (.bool true)], args := [d1, d2, d3] }
  | _ => none }
def bddOddRow : OpenClaim := { program := "ytiagkbmhfgdffaa", sum := "faab42aeddbf943bd48d6944903df30c9f33f4a690f07dcd4754e46c9750d975", func := "helmsman/helmsmanlaw07.BddOdd", spec := "bddOdd", inPlace := ["internal/reflectlite.TypeOf"], unfollowed := true, recurses := true, apart := false }
def BddOddSaid : Prop := bddOddRow.holds Try.pinned (OpenSpec.ofChange bddOddSpec)

/-- ITS FALSE NEIGHBOUR: 'it returns false'. Refute it at one input. -/
def bddOddWrong : ChangeSpec := { name := "bddOdd", fn := fun _ => fun
  | [d1, d2, d3] => { results := [.lit (.bool false)], args := [d1, d2, d3] }
  | _ => none }
def BddOddWrongFalsely : Prop := bddOddRow.holds Try.pinned (OpenSpec.ofChange bddOddWrong)

/-- 'helmsmanlaw07.BddSplits': WHATEVER THE INPUT: true; the input reads as it did. -/
def bddSplitsSpec : ChangeSpec := { name := "bddSplits", fn := fun _ => fun
  | [d1, d2, d3] => { results := [.lit (.bool true)], args := [d1, d2, d3] }
  | _ => none }
def bddSplitsRow : OpenClaim := { program := "ytiagkbmhfgdffaa", sum := "faab42aeddbf943bd48d6944903df30c9f33f4a690f07dcd4754e46c9750d975", func := "helmsman/helmsmanlaw07.BddSplits", spec := "bddSplits", inPlace := ["internal/reflectlite.TypeOf"], unfollowed := true, recurses := true, apart := false }
def BddSplitsSaid : Prop := bddSplitsRow.holds Try.pinned (OpenSpec.ofChange bddSplitsSpec)

/-- ITS FALSE NEIGHBOUR: 'it returns false'. Refute it at one input. -/
def bddSplitsWrong : ChangeSpec := { name := "bddSplits", fn := fun _ => fun
  | [d1, d2, d3] => { results := [.lit (.bool false)], args := [d1, d2, d3] }
  | _ => none }
def BddSplitsWrongFalsely : Prop := bddSplitsRow.holds Try.pinned (OpenSpec.ofChange bddSplitsWrong)

/-- 'helmsmanlaw07.BddFull': WHATEVER THE INPUT: true; the input reads as it did. -/
def bddFullSpec : ChangeSpec := { name := "bddFull", fn := fun _ => fun
  | [d1, d2, d3] => { results := [.lit (.bool true)], args := [d1, d2, d3] }
  | _ => none }
def bddFullRow : OpenClaim := { program := "ytiagkbmhfgdffaa", sum := "faab42aeddbf943bd48d6944903df30c9f33f4a690f07dcd4754e46c9750d975", func := "helmsman/helmsmanlaw07.BddFull", spec := "bddFull", inPlace := ["internal/reflectlite.TypeOf"], unfollowed := true, recurses := true, apart := false }
def BddFullSaid : Prop := bddFullRow.holds Try.pinned (OpenSpec.ofChange bddFullSpec)

/-- ITS FALSE NEIGHBOUR: 'it returns false'. Refute it at one input. -/
def bddFullWrong : ChangeSpec := { name := "bddFull", fn := fun _ => fun
  | [d1, d2, d3] => { results := [.lit (.bool false)], args := [d1, d2, d3] }
  | _ => none }
def BddFullWrongFalsely : Prop := bddFullRow.holds Try.pinned (OpenSpec.ofChange bddFullWrong)

/- THE SECOND FORM. 'bulk': how many values and letters a reading holds, each counted each time it is reached (what is shared counts as often as it is met; a slice's spare places count too). A statement '..UptoSaid' is the law's where the arguments, and the package variables that the reading takes, are together of bulk at most 1048576: NARROWER than '..Said'. Prove '..Said' where nothing that the law and all that it calls make is longer than what came in: it says more and counts as full. Else prove '..UptoSaid'. A law counts once. -/
mutual
def uptoBulk {H : Type} : DataW H → Nat
  | .lit (.string bytes) => bytes.length + 1
  | .lit _ => 1
  | .nil => 1
  | .ptr d => uptoBulk d + 1
  | .slice elems spare => uptoBulkAll elems + uptoBulkAll spare + 1
  | .agg parts => uptoBulkAll parts + 1
  | .iface _ d => uptoBulk d + 1
  | .map entries => uptoBulkEntries entries + 1
  | .held _ => 1
def uptoBulkAll {H : Type} : List (DataW H) → Nat
  | [] => 0
  | d :: r => uptoBulk d + uptoBulkAll r
def uptoBulkEntries {H : Type} : List (Lit × DataW H) → Nat
  | [] => 0
  | x :: r => uptoBulkEntry x + uptoBulkEntries r
def uptoBulkEntry {H : Type} : Lit × DataW H → Nat
  | (.string bytes, d) => bytes.length + uptoBulk d + 1
  | (_, d) => uptoBulk d + 1
 end
def uptoSmall : (H : Type) → List (DataW H) → Bool := fun _ ds => decide (uptoBulkAll ds ≤ 1048576)
def OpenSpec.upto (s : _root_.Go.ChangeSpec) : _root_.Go.OpenSpec := { _root_.Go.OpenSpec.ofChange s with cond := some uptoSmall }

/-- 'helmsmanlaw07.BddAll', WHERE WHAT IT READS IS OF BULK AT MOST 1048576: true; the input reads as it did. -/
def bddAllUptoRow : OpenClaim := { program := "ytiagkbmhfgdffaa", sum := "faab42aeddbf943bd48d6944903df30c9f33f4a690f07dcd4754e46c9750d975", func := "helmsman/helmsmanlaw07.BddAll", spec := "bddAll", inPlace := ["internal/reflectlite.TypeOf"], unfollowed := true, recurses := true, apart := false, narrowed := true }
def BddAllUptoSaid : Prop := bddAllUptoRow.holds Try.pinned (OpenSpec.upto bddAllSpec)

/-- 'helmsmanlaw07.BddSame', WHERE WHAT IT READS IS OF BULK AT MOST 1048576: true; the input reads as it did. -/
def bddSameUptoRow : OpenClaim := { program := "ytiagkbmhfgdffaa", sum := "faab42aeddbf943bd48d6944903df30c9f33f4a690f07dcd4754e46c9750d975", func := "helmsman/helmsmanlaw07.BddSame", spec := "bddSame", inPlace := ["internal/reflectlite.TypeOf"], unfollowed := true, recurses := true, apart := false, narrowed := true }
def BddSameUptoSaid : Prop := bddSameUptoRow.holds Try.pinned (OpenSpec.upto bddSameSpec)

/-- 'helmsmanlaw07.BddCache', WHERE WHAT IT READS IS OF BULK AT MOST 1048576: true; the input reads as it did. -/
def bddCacheUptoRow : OpenClaim := { program := "ytiagkbmhfgdffaa", sum := "faab42aeddbf943bd48d6944903df30c9f33f4a690f07dcd4754e46c9750d975", func := "helmsman/helmsmanlaw07.BddCache", spec := "bddCache", inPlace := ["internal/reflectlite.TypeOf"], unfollowed := true, recurses := true, apart := false, narrowed := true }
def BddCacheUptoSaid : Prop := bddCacheUptoRow.holds Try.pinned (OpenSpec.upto bddCacheSpec)

/-- 'helmsmanlaw07.BddSupport', WHERE WHAT IT READS IS OF BULK AT MOST 1048576: true; the input reads as it did. -/
def bddSupportUptoRow : OpenClaim := { program := "ytiagkbmhfgdffaa", sum := "faab42aeddbf943bd48d6944903df30c9f33f4a690f07dcd4754e46c9750d975", func := "helmsman/helmsmanlaw07.BddSupport", spec := "bddSupport", inPlace := ["internal/reflectlite.TypeOf"], unfollowed := true, recurses := true, apart := false, narrowed := true }
def BddSupportUptoSaid : Prop := bddSupportUptoRow.holds Try.pinned (OpenSpec.upto bddSupportSpec)

/-- 'helmsmanlaw07.BddOdd', WHERE WHAT IT READS IS OF BULK AT MOST 1048576: true; the input reads as it did. -/
def bddOddUptoRow : OpenClaim := { program := "ytiagkbmhfgdffaa", sum := "faab42aeddbf943bd48d6944903df30c9f33f4a690f07dcd4754e46c9750d975", func := "helmsman/helmsmanlaw07.BddOdd", spec := "bddOdd", inPlace := ["internal/reflectlite.TypeOf"], unfollowed := true, recurses := true, apart := false, narrowed := true }
def BddOddUptoSaid : Prop := bddOddUptoRow.holds Try.pinned (OpenSpec.upto bddOddSpec)

/-- 'helmsmanlaw07.BddSplits', WHERE WHAT IT READS IS OF BULK AT MOST 1048576: true; the input reads as it did. -/
def bddSplitsUptoRow : OpenClaim := { program := "ytiagkbmhfgdffaa", sum := "faab42aeddbf943bd48d6944903df30c9f33f4a690f07dcd4754e46c9750d975", func := "helmsman/helmsmanlaw07.BddSplits", spec := "bddSplits", inPlace := ["internal/reflectlite.TypeOf"], unfollowed := true, recurses := true, apart := false, narrowed := true }
def BddSplitsUptoSaid : Prop := bddSplitsUptoRow.holds Try.pinned (OpenSpec.upto bddSplitsSpec)

/-- 'helmsmanlaw07.BddFull', WHERE WHAT IT READS IS OF BULK AT MOST 1048576: true; the input reads as it did. -/
def bddFullUptoRow : OpenClaim := { program := "ytiagkbmhfgdffaa", sum := "faab42aeddbf943bd48d6944903df30c9f33f4a690f07dcd4754e46c9750d975", func := "helmsman/helmsmanlaw07.BddFull", spec := "bddFull", inPlace := ["internal/reflectlite.TypeOf"], unfollowed := true, recurses := true, apart := false, narrowed := true }
def BddFullUptoSaid : Prop := bddFullUptoRow.holds Try.pinned (OpenSpec.upto bddFullSpec)

end Rows
end Go.Proofs.Ytiagkbmhfgdffaa
