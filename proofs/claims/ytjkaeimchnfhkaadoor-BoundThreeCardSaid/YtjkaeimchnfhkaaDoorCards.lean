/-
  DERIVED. GIVEN WITH THE SEED: THE CARDS: each row of YtjkaeimchnfhkaaDoorRows.lean that lists a variable, with what it lists TIED to the program's text (the seventh form; the later family's looks); each row that meets fmt, with fmt's text TOLD by the authors' own Lean function (tested against real Go, not proved from fmt's source: count such statements apart). THE CARD IS WHAT COUNTS. Prove the row's statement (the work); the ties are given (YtjkaeimchnfhkaaDoorTie.lean); close each card by the builder's one call (the guide's Derived/Test/ToyasCard.lean, 'card_holds'). Laid BY PROGRAM, IN A SANDBOX (cutbox-door.mjs). By AI agents, Wed Nov 11 2026. No macro, syntax, notation, axiom, sorry.
-/
import Derived.Test.YtjkaeimchnfhkaaDoorRows
import GoSem.ClaimSeven
namespace Go.Proofs.YtjkaeimchnfhkaaDoor
namespace Rows

/-- THE TIED CARD OF 'helmsmanlaw01.BoundCalcs'. -/
def boundCalcsCard : Claim7 := { stood := { row := boundCalcsRow, standIns := [], harness := (true, "a1d3ef11fe9e6014f27c02f721b5c1cf438bc1cfb2dd267ec7c3e7b5955c23b7"), looks := true }, kinds := [], alts := [], laidByText := true, laidKinds := [.data, .data, .data, .sentinel, .sentinel], laidTests := true, laidLooks := .later }
def BoundCalcsCardSaid : Prop := Claim7.holds Tryd.pinned (.plain (OpenSpec.ofChange boundCalcsSpec)) boundCalcsCard

/-- THE TIED CARD OF 'helmsmanlaw01.BoundAdds'. -/
def boundAddsCard : Claim7 := { stood := { row := boundAddsRow, standIns := [], harness := (true, "a1d3ef11fe9e6014f27c02f721b5c1cf438bc1cfb2dd267ec7c3e7b5955c23b7"), looks := true }, kinds := [], alts := [], laidByText := true, laidKinds := [.data, .data, .data, .sentinel, .sentinel], laidTests := true, laidLooks := .later }
def BoundAddsCardSaid : Prop := Claim7.holds Tryd.pinned (.plain (OpenSpec.ofChange boundAddsSpec)) boundAddsCard

/-- THE TIED CARD OF 'helmsmanlaw01.BoundSound'. -/
def boundSoundCard : Claim7 := { stood := { row := boundSoundRow, standIns := [], harness := (true, "a1d3ef11fe9e6014f27c02f721b5c1cf438bc1cfb2dd267ec7c3e7b5955c23b7"), looks := true }, kinds := [], alts := [], laidByText := true, laidKinds := [.data, .data, .data, .sentinel, .sentinel], laidTests := true, laidLooks := .later }
def BoundSoundCardSaid : Prop := Claim7.holds Tryd.pinned (.plain (OpenSpec.ofChange boundSoundSpec)) boundSoundCard

/-- THE TIED CARD OF 'helmsmanlaw01.BoundTexts'. -/
def boundTextsCard : Claim7 := { stood := { row := boundTextsRow, standIns := [], harness := (true, "a1d3ef11fe9e6014f27c02f721b5c1cf438bc1cfb2dd267ec7c3e7b5955c23b7"), looks := true }, kinds := [], alts := [], laidByText := true, laidKinds := [.data, .data, .data, .sentinel, .sentinel], laidTests := true, laidLooks := .later }
def BoundTextsCardSaid : Prop := Claim7.holds Tryd.pinned (.plain (OpenSpec.ofChange boundTextsSpec)) boundTextsCard

/-- THE TIED CARD OF 'helmsmanlaw01.BoundParses'. -/
def boundParsesCard : Claim7 := { stood := { row := boundParsesRow, standIns := [], harness := (true, "a1d3ef11fe9e6014f27c02f721b5c1cf438bc1cfb2dd267ec7c3e7b5955c23b7"), looks := true }, kinds := [], alts := [], laidByText := true, laidKinds := [.data, .data, .data, .sentinel, .sentinel], laidTests := true, laidLooks := .later }
def BoundParsesCardSaid : Prop := Claim7.holds Tryd.pinned (.plain (OpenSpec.ofChange boundParsesSpec)) boundParsesCard

/-- THE TIED CARD OF 'helmsmanlaw01.BoundUndo'. -/
def boundUndoCard : Claim7 := { stood := { row := boundUndoRow, standIns := [], harness := (true, "a1d3ef11fe9e6014f27c02f721b5c1cf438bc1cfb2dd267ec7c3e7b5955c23b7"), looks := true }, kinds := [], alts := [], laidByText := true, laidKinds := [.data, .data, .data, .sentinel, .sentinel], laidTests := true, laidLooks := .later }
def BoundUndoCardSaid : Prop := Claim7.holds Tryd.pinned (.plain (OpenSpec.ofChange boundUndoSpec)) boundUndoCard

/-- THE TIED CARD OF 'helmsmanlaw01.BoundThree'. -/
def boundThreeCard : Claim7 := { stood := { row := boundThreeRow, standIns := [], harness := (true, "a1d3ef11fe9e6014f27c02f721b5c1cf438bc1cfb2dd267ec7c3e7b5955c23b7"), looks := true }, kinds := [], alts := [], laidByText := true, laidKinds := [.data, .data, .data, .sentinel, .sentinel], laidTests := true, laidLooks := .later }
def BoundThreeCardSaid : Prop := Claim7.holds Tryd.pinned (.plain (OpenSpec.ofChange boundThreeSpec)) boundThreeCard

/-- THE SECOND FORM's CARD OF 'helmsmanlaw01.BoundCalcs'. -/
def boundCalcsUptoCard : Claim7 := { stood := { row := boundCalcsUptoRow, standIns := [], harness := (true, "a1d3ef11fe9e6014f27c02f721b5c1cf438bc1cfb2dd267ec7c3e7b5955c23b7"), looks := true }, kinds := [], alts := [], laidByText := true, laidKinds := [.data, .data, .data, .sentinel, .sentinel], laidTests := true, laidLooks := .later }
def BoundCalcsUptoCardSaid : Prop := Claim7.holds Tryd.pinned (.plain (OpenSpec.upto boundCalcsSpec)) boundCalcsUptoCard

/-- THE SECOND FORM's CARD OF 'helmsmanlaw01.BoundAdds'. -/
def boundAddsUptoCard : Claim7 := { stood := { row := boundAddsUptoRow, standIns := [], harness := (true, "a1d3ef11fe9e6014f27c02f721b5c1cf438bc1cfb2dd267ec7c3e7b5955c23b7"), looks := true }, kinds := [], alts := [], laidByText := true, laidKinds := [.data, .data, .data, .sentinel, .sentinel], laidTests := true, laidLooks := .later }
def BoundAddsUptoCardSaid : Prop := Claim7.holds Tryd.pinned (.plain (OpenSpec.upto boundAddsSpec)) boundAddsUptoCard

/-- THE SECOND FORM's CARD OF 'helmsmanlaw01.BoundSound'. -/
def boundSoundUptoCard : Claim7 := { stood := { row := boundSoundUptoRow, standIns := [], harness := (true, "a1d3ef11fe9e6014f27c02f721b5c1cf438bc1cfb2dd267ec7c3e7b5955c23b7"), looks := true }, kinds := [], alts := [], laidByText := true, laidKinds := [.data, .data, .data, .sentinel, .sentinel], laidTests := true, laidLooks := .later }
def BoundSoundUptoCardSaid : Prop := Claim7.holds Tryd.pinned (.plain (OpenSpec.upto boundSoundSpec)) boundSoundUptoCard

/-- THE SECOND FORM's CARD OF 'helmsmanlaw01.BoundTexts'. -/
def boundTextsUptoCard : Claim7 := { stood := { row := boundTextsUptoRow, standIns := [], harness := (true, "a1d3ef11fe9e6014f27c02f721b5c1cf438bc1cfb2dd267ec7c3e7b5955c23b7"), looks := true }, kinds := [], alts := [], laidByText := true, laidKinds := [.data, .data, .data, .sentinel, .sentinel], laidTests := true, laidLooks := .later }
def BoundTextsUptoCardSaid : Prop := Claim7.holds Tryd.pinned (.plain (OpenSpec.upto boundTextsSpec)) boundTextsUptoCard

/-- THE SECOND FORM's CARD OF 'helmsmanlaw01.BoundParses'. -/
def boundParsesUptoCard : Claim7 := { stood := { row := boundParsesUptoRow, standIns := [], harness := (true, "a1d3ef11fe9e6014f27c02f721b5c1cf438bc1cfb2dd267ec7c3e7b5955c23b7"), looks := true }, kinds := [], alts := [], laidByText := true, laidKinds := [.data, .data, .data, .sentinel, .sentinel], laidTests := true, laidLooks := .later }
def BoundParsesUptoCardSaid : Prop := Claim7.holds Tryd.pinned (.plain (OpenSpec.upto boundParsesSpec)) boundParsesUptoCard

/-- THE SECOND FORM's CARD OF 'helmsmanlaw01.BoundUndo'. -/
def boundUndoUptoCard : Claim7 := { stood := { row := boundUndoUptoRow, standIns := [], harness := (true, "a1d3ef11fe9e6014f27c02f721b5c1cf438bc1cfb2dd267ec7c3e7b5955c23b7"), looks := true }, kinds := [], alts := [], laidByText := true, laidKinds := [.data, .data, .data, .sentinel, .sentinel], laidTests := true, laidLooks := .later }
def BoundUndoUptoCardSaid : Prop := Claim7.holds Tryd.pinned (.plain (OpenSpec.upto boundUndoSpec)) boundUndoUptoCard

/-- THE SECOND FORM's CARD OF 'helmsmanlaw01.BoundThree'. -/
def boundThreeUptoCard : Claim7 := { stood := { row := boundThreeUptoRow, standIns := [], harness := (true, "a1d3ef11fe9e6014f27c02f721b5c1cf438bc1cfb2dd267ec7c3e7b5955c23b7"), looks := true }, kinds := [], alts := [], laidByText := true, laidKinds := [.data, .data, .data, .sentinel, .sentinel], laidTests := true, laidLooks := .later }
def BoundThreeUptoCardSaid : Prop := Claim7.holds Tryd.pinned (.plain (OpenSpec.upto boundThreeSpec)) boundThreeUptoCard
end Rows
end Go.Proofs.YtjkaeimchnfhkaaDoor
