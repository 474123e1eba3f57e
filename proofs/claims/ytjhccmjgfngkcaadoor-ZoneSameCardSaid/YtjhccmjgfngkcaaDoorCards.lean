/-
  DERIVED. GIVEN WITH THE SEED: THE CARDS: each row of YtjhccmjgfngkcaaDoorRows.lean that lists a variable, with what it lists TIED to the program's text (the seventh form; the later family's looks); each row that meets fmt, with fmt's text TOLD by the authors' own Lean function (tested against real Go, not proved from fmt's source: count such statements apart). THE CARD IS WHAT COUNTS. Prove the row's statement (the work); the ties are given (YtjhccmjgfngkcaaDoorTie.lean); close each card by the builder's one call (the guide's Derived/Test/ToyasCard.lean, 'card_holds'). Laid BY PROGRAM, IN A SANDBOX (cutbox-door.mjs). By AI agents, Wed Nov 11 2026. No macro, syntax, notation, axiom, sorry.
-/
import Derived.Test.YtjhccmjgfngkcaaDoorRows
import GoSem.ClaimSeven
namespace Go.Proofs.YtjhccmjgfngkcaaDoor
namespace Rows

/-- THE TIED CARD OF 'helmsmanlaw03.ZoneCloses'. -/
def zoneClosesCard : Claim7 := { stood := { row := zoneClosesRow, standIns := [], harness := (true, "7d6acef265f9bc1a4dd30f52d757e0dca1c84afc93e51767f2458c19b492bad7"), looks := false }, kinds := [], alts := [], laidByText := true, laidKinds := [.data, .data, .data], laidTests := true, laidLooks := .later }
def ZoneClosesCardSaid : Prop := Claim7.holds Tryd.pinned (.plain (OpenSpec.ofChange zoneClosesSpec)) zoneClosesCard

/-- THE TIED CARD OF 'helmsmanlaw03.ZoneTight'. -/
def zoneTightCard : Claim7 := { stood := { row := zoneTightRow, standIns := [], harness := (true, "7d6acef265f9bc1a4dd30f52d757e0dca1c84afc93e51767f2458c19b492bad7"), looks := false }, kinds := [], alts := [], laidByText := true, laidKinds := [.data, .data, .data], laidTests := true, laidLooks := .later }
def ZoneTightCardSaid : Prop := Claim7.holds Tryd.pinned (.plain (OpenSpec.ofChange zoneTightSpec)) zoneTightCard

/-- THE TIED CARD OF 'helmsmanlaw03.ZoneSets'. -/
def zoneSetsCard : Claim7 := { stood := { row := zoneSetsRow, standIns := [], harness := (true, "7d6acef265f9bc1a4dd30f52d757e0dca1c84afc93e51767f2458c19b492bad7"), looks := false }, kinds := [], alts := [], laidByText := true, laidKinds := [.data, .data, .data], laidTests := true, laidLooks := .later }
def ZoneSetsCardSaid : Prop := Claim7.holds Tryd.pinned (.plain (OpenSpec.ofChange zoneSetsSpec)) zoneSetsCard

/-- THE TIED CARD OF 'helmsmanlaw03.ZonePoints'. -/
def zonePointsCard : Claim7 := { stood := { row := zonePointsRow, standIns := [], harness := (true, "7d6acef265f9bc1a4dd30f52d757e0dca1c84afc93e51767f2458c19b492bad7"), looks := false }, kinds := [], alts := [], laidByText := true, laidKinds := [.data, .data, .data], laidTests := true, laidLooks := .later }
def ZonePointsCardSaid : Prop := Claim7.holds Tryd.pinned (.plain (OpenSpec.ofChange zonePointsSpec)) zonePointsCard

/-- THE TIED CARD OF 'helmsmanlaw03.ZoneSame'. -/
def zoneSameCard : Claim7 := { stood := { row := zoneSameRow, standIns := [], harness := (true, "7d6acef265f9bc1a4dd30f52d757e0dca1c84afc93e51767f2458c19b492bad7"), looks := false }, kinds := [], alts := [], laidByText := true, laidKinds := [.data, .data, .data], laidTests := true, laidLooks := .later }
def ZoneSameCardSaid : Prop := Claim7.holds Tryd.pinned (.plain (OpenSpec.ofChange zoneSameSpec)) zoneSameCard

/-- THE TIED CARD OF 'helmsmanlaw03.ZoneCopied'. -/
def zoneCopiedCard : Claim7 := { stood := { row := zoneCopiedRow, standIns := [], harness := (true, "7d6acef265f9bc1a4dd30f52d757e0dca1c84afc93e51767f2458c19b492bad7"), looks := false }, kinds := [], alts := [], laidByText := true, laidKinds := [.data, .data, .data], laidTests := true, laidLooks := .later }
def ZoneCopiedCardSaid : Prop := Claim7.holds Tryd.pinned (.plain (OpenSpec.ofChange zoneCopiedSpec)) zoneCopiedCard

/-- THE TIED CARD OF 'helmsmanlaw03.ZoneChanges'. -/
def zoneChangesCard : Claim7 := { stood := { row := zoneChangesRow, standIns := [], harness := (true, "7d6acef265f9bc1a4dd30f52d757e0dca1c84afc93e51767f2458c19b492bad7"), looks := false }, kinds := [], alts := [], laidByText := true, laidKinds := [.data, .data, .data], laidTests := true, laidLooks := .later }
def ZoneChangesCardSaid : Prop := Claim7.holds Tryd.pinned (.plain (OpenSpec.ofChange zoneChangesSpec)) zoneChangesCard

/-- THE TIED CARD OF 'helmsmanlaw03.ZoneMoves'. -/
def zoneMovesCard : Claim7 := { stood := { row := zoneMovesRow, standIns := [], harness := (true, "7d6acef265f9bc1a4dd30f52d757e0dca1c84afc93e51767f2458c19b492bad7"), looks := false }, kinds := [], alts := [], laidByText := true, laidKinds := [.data, .data, .data], laidTests := true, laidLooks := .later }
def ZoneMovesCardSaid : Prop := Claim7.holds Tryd.pinned (.plain (OpenSpec.ofChange zoneMovesSpec)) zoneMovesCard

/-- THE TIED CARD OF 'helmsmanlaw03.ZoneWidens'. -/
def zoneWidensCard : Claim7 := { stood := { row := zoneWidensRow, standIns := [], harness := (true, "7d6acef265f9bc1a4dd30f52d757e0dca1c84afc93e51767f2458c19b492bad7"), looks := false }, kinds := [], alts := [], laidByText := true, laidKinds := [.data, .data, .data], laidTests := true, laidLooks := .later }
def ZoneWidensCardSaid : Prop := Claim7.holds Tryd.pinned (.plain (OpenSpec.ofChange zoneWidensSpec)) zoneWidensCard

/-- THE TIED CARD OF 'helmsmanlaw03.ZoneRests'. -/
def zoneRestsCard : Claim7 := { stood := { row := zoneRestsRow, standIns := [], harness := (true, "7d6acef265f9bc1a4dd30f52d757e0dca1c84afc93e51767f2458c19b492bad7"), looks := false }, kinds := [], alts := [], laidByText := true, laidKinds := [.data, .data, .data], laidTests := true, laidLooks := .later }
def ZoneRestsCardSaid : Prop := Claim7.holds Tryd.pinned (.plain (OpenSpec.ofChange zoneRestsSpec)) zoneRestsCard

/-- THE SECOND FORM's CARD OF 'helmsmanlaw03.ZoneCloses'. -/
def zoneClosesUptoCard : Claim7 := { stood := { row := zoneClosesUptoRow, standIns := [], harness := (true, "7d6acef265f9bc1a4dd30f52d757e0dca1c84afc93e51767f2458c19b492bad7"), looks := false }, kinds := [], alts := [], laidByText := true, laidKinds := [.data, .data, .data], laidTests := true, laidLooks := .later }
def ZoneClosesUptoCardSaid : Prop := Claim7.holds Tryd.pinned (.plain (OpenSpec.upto zoneClosesSpec)) zoneClosesUptoCard

/-- THE SECOND FORM's CARD OF 'helmsmanlaw03.ZoneTight'. -/
def zoneTightUptoCard : Claim7 := { stood := { row := zoneTightUptoRow, standIns := [], harness := (true, "7d6acef265f9bc1a4dd30f52d757e0dca1c84afc93e51767f2458c19b492bad7"), looks := false }, kinds := [], alts := [], laidByText := true, laidKinds := [.data, .data, .data], laidTests := true, laidLooks := .later }
def ZoneTightUptoCardSaid : Prop := Claim7.holds Tryd.pinned (.plain (OpenSpec.upto zoneTightSpec)) zoneTightUptoCard

/-- THE SECOND FORM's CARD OF 'helmsmanlaw03.ZoneSets'. -/
def zoneSetsUptoCard : Claim7 := { stood := { row := zoneSetsUptoRow, standIns := [], harness := (true, "7d6acef265f9bc1a4dd30f52d757e0dca1c84afc93e51767f2458c19b492bad7"), looks := false }, kinds := [], alts := [], laidByText := true, laidKinds := [.data, .data, .data], laidTests := true, laidLooks := .later }
def ZoneSetsUptoCardSaid : Prop := Claim7.holds Tryd.pinned (.plain (OpenSpec.upto zoneSetsSpec)) zoneSetsUptoCard

/-- THE SECOND FORM's CARD OF 'helmsmanlaw03.ZonePoints'. -/
def zonePointsUptoCard : Claim7 := { stood := { row := zonePointsUptoRow, standIns := [], harness := (true, "7d6acef265f9bc1a4dd30f52d757e0dca1c84afc93e51767f2458c19b492bad7"), looks := false }, kinds := [], alts := [], laidByText := true, laidKinds := [.data, .data, .data], laidTests := true, laidLooks := .later }
def ZonePointsUptoCardSaid : Prop := Claim7.holds Tryd.pinned (.plain (OpenSpec.upto zonePointsSpec)) zonePointsUptoCard

/-- THE SECOND FORM's CARD OF 'helmsmanlaw03.ZoneSame'. -/
def zoneSameUptoCard : Claim7 := { stood := { row := zoneSameUptoRow, standIns := [], harness := (true, "7d6acef265f9bc1a4dd30f52d757e0dca1c84afc93e51767f2458c19b492bad7"), looks := false }, kinds := [], alts := [], laidByText := true, laidKinds := [.data, .data, .data], laidTests := true, laidLooks := .later }
def ZoneSameUptoCardSaid : Prop := Claim7.holds Tryd.pinned (.plain (OpenSpec.upto zoneSameSpec)) zoneSameUptoCard

/-- THE SECOND FORM's CARD OF 'helmsmanlaw03.ZoneCopied'. -/
def zoneCopiedUptoCard : Claim7 := { stood := { row := zoneCopiedUptoRow, standIns := [], harness := (true, "7d6acef265f9bc1a4dd30f52d757e0dca1c84afc93e51767f2458c19b492bad7"), looks := false }, kinds := [], alts := [], laidByText := true, laidKinds := [.data, .data, .data], laidTests := true, laidLooks := .later }
def ZoneCopiedUptoCardSaid : Prop := Claim7.holds Tryd.pinned (.plain (OpenSpec.upto zoneCopiedSpec)) zoneCopiedUptoCard

/-- THE SECOND FORM's CARD OF 'helmsmanlaw03.ZoneChanges'. -/
def zoneChangesUptoCard : Claim7 := { stood := { row := zoneChangesUptoRow, standIns := [], harness := (true, "7d6acef265f9bc1a4dd30f52d757e0dca1c84afc93e51767f2458c19b492bad7"), looks := false }, kinds := [], alts := [], laidByText := true, laidKinds := [.data, .data, .data], laidTests := true, laidLooks := .later }
def ZoneChangesUptoCardSaid : Prop := Claim7.holds Tryd.pinned (.plain (OpenSpec.upto zoneChangesSpec)) zoneChangesUptoCard

/-- THE SECOND FORM's CARD OF 'helmsmanlaw03.ZoneMoves'. -/
def zoneMovesUptoCard : Claim7 := { stood := { row := zoneMovesUptoRow, standIns := [], harness := (true, "7d6acef265f9bc1a4dd30f52d757e0dca1c84afc93e51767f2458c19b492bad7"), looks := false }, kinds := [], alts := [], laidByText := true, laidKinds := [.data, .data, .data], laidTests := true, laidLooks := .later }
def ZoneMovesUptoCardSaid : Prop := Claim7.holds Tryd.pinned (.plain (OpenSpec.upto zoneMovesSpec)) zoneMovesUptoCard

/-- THE SECOND FORM's CARD OF 'helmsmanlaw03.ZoneWidens'. -/
def zoneWidensUptoCard : Claim7 := { stood := { row := zoneWidensUptoRow, standIns := [], harness := (true, "7d6acef265f9bc1a4dd30f52d757e0dca1c84afc93e51767f2458c19b492bad7"), looks := false }, kinds := [], alts := [], laidByText := true, laidKinds := [.data, .data, .data], laidTests := true, laidLooks := .later }
def ZoneWidensUptoCardSaid : Prop := Claim7.holds Tryd.pinned (.plain (OpenSpec.upto zoneWidensSpec)) zoneWidensUptoCard

/-- THE SECOND FORM's CARD OF 'helmsmanlaw03.ZoneRests'. -/
def zoneRestsUptoCard : Claim7 := { stood := { row := zoneRestsUptoRow, standIns := [], harness := (true, "7d6acef265f9bc1a4dd30f52d757e0dca1c84afc93e51767f2458c19b492bad7"), looks := false }, kinds := [], alts := [], laidByText := true, laidKinds := [.data, .data, .data], laidTests := true, laidLooks := .later }
def ZoneRestsUptoCardSaid : Prop := Claim7.holds Tryd.pinned (.plain (OpenSpec.upto zoneRestsSpec)) zoneRestsUptoCard
end Rows
end Go.Proofs.YtjhccmjgfngkcaaDoor
