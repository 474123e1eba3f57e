/-
  DERIVED. GIVEN WITH THE SEED: THE CARDS: each row of YtknoigebkpapoaaDoorRows.lean that lists a variable, with what it lists TIED to the program's text (the seventh form; the later family's looks); each row that meets fmt, with fmt's text TOLD by the authors' own Lean function (tested against real Go, not proved from fmt's source: count such statements apart). THE CARD IS WHAT COUNTS. Prove the row's statement (the work); the ties are given (YtknoigebkpapoaaDoorTie.lean); close each card by the builder's one call (the guide's Derived/Test/ToyasCard.lean, 'card_holds'). Laid BY PROGRAM, IN A SANDBOX (cutbox-door.mjs). By AI agents, Wed Nov 11 2026. No macro, syntax, notation, axiom, sorry.
-/
import Derived.Test.YtknoigebkpapoaaDoorRows
import GoSem.ClaimSeven
namespace Go.Proofs.YtknoigebkpapoaaDoor
namespace Rows

/-- THE TIED CARD OF 'helmsmanlaw09.SweepCompacts'. -/
def sweepCompactsCard : Claim7 := { stood := { row := sweepCompactsRow, standIns := [], harness := (true, "4b83aa542e00a7b8c9fa706513d953f67b0360340ea65f64163136cb113cc5ee"), looks := true }, kinds := [], alts := [], laidByText := true, laidKinds := [.handle], laidTests := true, laidLooks := .later }
def SweepCompactsCardSaid : Prop := Claim7.holds Tryd.pinned (.plain (OpenSpec.ofChange sweepCompactsSpec)) sweepCompactsCard

/-- THE TIED CARD OF 'helmsmanlaw09.SweepMoves'. -/
def sweepMovesCard : Claim7 := { stood := { row := sweepMovesRow, standIns := [], harness := (true, "4b83aa542e00a7b8c9fa706513d953f67b0360340ea65f64163136cb113cc5ee"), looks := true }, kinds := [], alts := [], laidByText := true, laidKinds := [.handle], laidTests := true, laidLooks := .later }
def SweepMovesCardSaid : Prop := Claim7.holds Tryd.pinned (.plain (OpenSpec.ofChange sweepMovesSpec)) sweepMovesCard

/-- THE TIED CARD OF 'helmsmanlaw05.NodeAll'. -/
def nodeAllCard : Claim7 := { stood := { row := nodeAllRow, standIns := [], harness := (true, "4b83aa542e00a7b8c9fa706513d953f67b0360340ea65f64163136cb113cc5ee"), looks := true }, kinds := [], alts := [], laidByText := true, laidKinds := [.data, .data, .data, .handle], laidTests := true, laidLooks := .later }
def NodeAllCardSaid : Prop := Claim7.holds Tryd.pinned (.plain (OpenSpec.ofChange nodeAllSpec)) nodeAllCard

/-- THE TIED CARD OF 'helmsmanlaw05.NodeWalks'. -/
def nodeWalksCard : Claim7 := { stood := { row := nodeWalksRow, standIns := [], harness := (true, "4b83aa542e00a7b8c9fa706513d953f67b0360340ea65f64163136cb113cc5ee"), looks := true }, kinds := [], alts := [], laidByText := true, laidKinds := [.data, .data, .data, .handle], laidTests := true, laidLooks := .later }
def NodeWalksCardSaid : Prop := Claim7.holds Tryd.pinned (.plain (OpenSpec.ofChange nodeWalksSpec)) nodeWalksCard

/-- THE TIED CARD OF 'helmsmanlaw05.NodeSame'. -/
def nodeSameCard : Claim7 := { stood := { row := nodeSameRow, standIns := [], harness := (true, "4b83aa542e00a7b8c9fa706513d953f67b0360340ea65f64163136cb113cc5ee"), looks := true }, kinds := [], alts := [], laidByText := true, laidKinds := [.data, .data, .data, .handle], laidTests := true, laidLooks := .later }
def NodeSameCardSaid : Prop := Claim7.holds Tryd.pinned (.plain (OpenSpec.ofChange nodeSameSpec)) nodeSameCard

/-- THE TIED CARD OF 'helmsmanlaw05.NodeRight'. -/
def nodeRightCard : Claim7 := { stood := { row := nodeRightRow, standIns := [], harness := (true, "4b83aa542e00a7b8c9fa706513d953f67b0360340ea65f64163136cb113cc5ee"), looks := true }, kinds := [], alts := [], laidByText := true, laidKinds := [.data, .data, .data, .handle], laidTests := true, laidLooks := .later }
def NodeRightCardSaid : Prop := Claim7.holds Tryd.pinned (.plain (OpenSpec.ofChange nodeRightSpec)) nodeRightCard

/-- THE TIED CARD OF 'helmsmanlaw05.NodeAlike'. -/
def nodeAlikeCard : Claim7 := { stood := { row := nodeAlikeRow, standIns := [], harness := (true, "4b83aa542e00a7b8c9fa706513d953f67b0360340ea65f64163136cb113cc5ee"), looks := true }, kinds := [], alts := [], laidByText := true, laidKinds := [.data, .data, .data, .handle], laidTests := true, laidLooks := .later }
def NodeAlikeCardSaid : Prop := Claim7.holds Tryd.pinned (.plain (OpenSpec.ofChange nodeAlikeSpec)) nodeAlikeCard

/-- THE TIED CARD OF 'helmsmanlaw05.NodeStays'. -/
def nodeStaysCard : Claim7 := { stood := { row := nodeStaysRow, standIns := [], harness := (true, "4b83aa542e00a7b8c9fa706513d953f67b0360340ea65f64163136cb113cc5ee"), looks := true }, kinds := [], alts := [], laidByText := true, laidKinds := [.data, .data, .data, .handle], laidTests := true, laidLooks := .later }
def NodeStaysCardSaid : Prop := Claim7.holds Tryd.pinned (.plain (OpenSpec.ofChange nodeStaysSpec)) nodeStaysCard

/-- THE SECOND FORM's CARD OF 'helmsmanlaw09.SweepCompacts'. -/
def sweepCompactsUptoCard : Claim7 := { stood := { row := sweepCompactsUptoRow, standIns := [], harness := (true, "4b83aa542e00a7b8c9fa706513d953f67b0360340ea65f64163136cb113cc5ee"), looks := true }, kinds := [], alts := [], laidByText := true, laidKinds := [.handle], laidTests := true, laidLooks := .later }
def SweepCompactsUptoCardSaid : Prop := Claim7.holds Tryd.pinned (.plain (OpenSpec.upto sweepCompactsSpec)) sweepCompactsUptoCard

/-- THE SECOND FORM's CARD OF 'helmsmanlaw09.SweepMoves'. -/
def sweepMovesUptoCard : Claim7 := { stood := { row := sweepMovesUptoRow, standIns := [], harness := (true, "4b83aa542e00a7b8c9fa706513d953f67b0360340ea65f64163136cb113cc5ee"), looks := true }, kinds := [], alts := [], laidByText := true, laidKinds := [.handle], laidTests := true, laidLooks := .later }
def SweepMovesUptoCardSaid : Prop := Claim7.holds Tryd.pinned (.plain (OpenSpec.upto sweepMovesSpec)) sweepMovesUptoCard

/-- THE SECOND FORM's CARD OF 'helmsmanlaw05.NodeAll'. -/
def nodeAllUptoCard : Claim7 := { stood := { row := nodeAllUptoRow, standIns := [], harness := (true, "4b83aa542e00a7b8c9fa706513d953f67b0360340ea65f64163136cb113cc5ee"), looks := true }, kinds := [], alts := [], laidByText := true, laidKinds := [.data, .data, .data, .handle], laidTests := true, laidLooks := .later }
def NodeAllUptoCardSaid : Prop := Claim7.holds Tryd.pinned (.plain (OpenSpec.upto nodeAllSpec)) nodeAllUptoCard

/-- THE SECOND FORM's CARD OF 'helmsmanlaw05.NodeWalks'. -/
def nodeWalksUptoCard : Claim7 := { stood := { row := nodeWalksUptoRow, standIns := [], harness := (true, "4b83aa542e00a7b8c9fa706513d953f67b0360340ea65f64163136cb113cc5ee"), looks := true }, kinds := [], alts := [], laidByText := true, laidKinds := [.data, .data, .data, .handle], laidTests := true, laidLooks := .later }
def NodeWalksUptoCardSaid : Prop := Claim7.holds Tryd.pinned (.plain (OpenSpec.upto nodeWalksSpec)) nodeWalksUptoCard

/-- THE SECOND FORM's CARD OF 'helmsmanlaw05.NodeSame'. -/
def nodeSameUptoCard : Claim7 := { stood := { row := nodeSameUptoRow, standIns := [], harness := (true, "4b83aa542e00a7b8c9fa706513d953f67b0360340ea65f64163136cb113cc5ee"), looks := true }, kinds := [], alts := [], laidByText := true, laidKinds := [.data, .data, .data, .handle], laidTests := true, laidLooks := .later }
def NodeSameUptoCardSaid : Prop := Claim7.holds Tryd.pinned (.plain (OpenSpec.upto nodeSameSpec)) nodeSameUptoCard

/-- THE SECOND FORM's CARD OF 'helmsmanlaw05.NodeRight'. -/
def nodeRightUptoCard : Claim7 := { stood := { row := nodeRightUptoRow, standIns := [], harness := (true, "4b83aa542e00a7b8c9fa706513d953f67b0360340ea65f64163136cb113cc5ee"), looks := true }, kinds := [], alts := [], laidByText := true, laidKinds := [.data, .data, .data, .handle], laidTests := true, laidLooks := .later }
def NodeRightUptoCardSaid : Prop := Claim7.holds Tryd.pinned (.plain (OpenSpec.upto nodeRightSpec)) nodeRightUptoCard

/-- THE SECOND FORM's CARD OF 'helmsmanlaw05.NodeAlike'. -/
def nodeAlikeUptoCard : Claim7 := { stood := { row := nodeAlikeUptoRow, standIns := [], harness := (true, "4b83aa542e00a7b8c9fa706513d953f67b0360340ea65f64163136cb113cc5ee"), looks := true }, kinds := [], alts := [], laidByText := true, laidKinds := [.data, .data, .data, .handle], laidTests := true, laidLooks := .later }
def NodeAlikeUptoCardSaid : Prop := Claim7.holds Tryd.pinned (.plain (OpenSpec.upto nodeAlikeSpec)) nodeAlikeUptoCard

/-- THE SECOND FORM's CARD OF 'helmsmanlaw05.NodeStays'. -/
def nodeStaysUptoCard : Claim7 := { stood := { row := nodeStaysUptoRow, standIns := [], harness := (true, "4b83aa542e00a7b8c9fa706513d953f67b0360340ea65f64163136cb113cc5ee"), looks := true }, kinds := [], alts := [], laidByText := true, laidKinds := [.data, .data, .data, .handle], laidTests := true, laidLooks := .later }
def NodeStaysUptoCardSaid : Prop := Claim7.holds Tryd.pinned (.plain (OpenSpec.upto nodeStaysSpec)) nodeStaysUptoCard
end Rows
end Go.Proofs.YtknoigebkpapoaaDoor
