/-
  DERIVED. GIVEN WITH THE SEED: THE CARDS: each row of YtjddafaaplhnfaaDoorRows.lean that lists a variable, with what it lists TIED to the program's text (the seventh form; the later family's looks); each row that meets fmt, with fmt's text TOLD by the authors' own Lean function (tested against real Go, not proved from fmt's source: count such statements apart). THE CARD IS WHAT COUNTS. Prove the row's statement (the work); the ties are given (YtjddafaaplhnfaaDoorTie.lean); close each card by the builder's one call (the guide's Derived/Test/ToyasCard.lean, 'card_holds'). Laid BY PROGRAM, IN A SANDBOX (cutbox-door.mjs). By AI agents, Wed Nov 11 2026. No macro, syntax, notation, axiom, sorry.
-/
import Derived.Test.YtjddafaaplhnfaaDoorRows
import GoSem.ClaimSeven
namespace Go.Proofs.YtjddafaaplhnfaaDoor
namespace Rows

/-- THE TIED CARD OF 'helmsmanlaw02.SpanCalcs'. -/
def spanCalcsCard : Claim7 := { stood := { row := spanCalcsRow, standIns := [], harness := (true, "dd4255569846f32772da1bc8f9ad4daf2d0e0abb43648cb154e52fabfac71cc0"), looks := false }, kinds := [], alts := [], laidByText := true, laidKinds := [.data, .data, .data], laidTests := true, laidLooks := .later }
def SpanCalcsCardSaid : Prop := Claim7.holds Tryd.pinned (.plain (OpenSpec.ofChange spanCalcsSpec)) spanCalcsCard

/-- THE TIED CARD OF 'helmsmanlaw02.SpanWidens'. -/
def spanWidensCard : Claim7 := { stood := { row := spanWidensRow, standIns := [], harness := (true, "dd4255569846f32772da1bc8f9ad4daf2d0e0abb43648cb154e52fabfac71cc0"), looks := false }, kinds := [], alts := [], laidByText := true, laidKinds := [.data, .data, .data], laidTests := true, laidLooks := .later }
def SpanWidensCardSaid : Prop := Claim7.holds Tryd.pinned (.plain (OpenSpec.ofChange spanWidensSpec)) spanWidensCard

/-- THE TIED CARD OF 'helmsmanlaw02.SpanEnds'. -/
def spanEndsCard : Claim7 := { stood := { row := spanEndsRow, standIns := [], harness := (true, "dd4255569846f32772da1bc8f9ad4daf2d0e0abb43648cb154e52fabfac71cc0"), looks := false }, kinds := [], alts := [], laidByText := true, laidKinds := [.data, .data, .data], laidTests := true, laidLooks := .later }
def SpanEndsCardSaid : Prop := Claim7.holds Tryd.pinned (.plain (OpenSpec.ofChange spanEndsSpec)) spanEndsCard

/-- THE TIED CARD OF 'helmsmanlaw02.SpanHulls'. -/
def spanHullsCard : Claim7 := { stood := { row := spanHullsRow, standIns := [], harness := (true, "dd4255569846f32772da1bc8f9ad4daf2d0e0abb43648cb154e52fabfac71cc0"), looks := false }, kinds := [], alts := [], laidByText := true, laidKinds := [.data, .data, .data], laidTests := true, laidLooks := .later }
def SpanHullsCardSaid : Prop := Claim7.holds Tryd.pinned (.plain (OpenSpec.ofChange spanHullsSpec)) spanHullsCard

/-- THE TIED CARD OF 'helmsmanlaw02.SpanSets'. -/
def spanSetsCard : Claim7 := { stood := { row := spanSetsRow, standIns := [], harness := (true, "dd4255569846f32772da1bc8f9ad4daf2d0e0abb43648cb154e52fabfac71cc0"), looks := false }, kinds := [], alts := [], laidByText := true, laidKinds := [.data, .data, .data], laidTests := true, laidLooks := .later }
def SpanSetsCardSaid : Prop := Claim7.holds Tryd.pinned (.plain (OpenSpec.ofChange spanSetsSpec)) spanSetsCard

/-- THE TIED CARD OF 'helmsmanlaw02.SpanLaws'. -/
def spanLawsCard : Claim7 := { stood := { row := spanLawsRow, standIns := [], harness := (true, "dd4255569846f32772da1bc8f9ad4daf2d0e0abb43648cb154e52fabfac71cc0"), looks := false }, kinds := [], alts := [], laidByText := true, laidKinds := [.data, .data, .data], laidTests := true, laidLooks := .later }
def SpanLawsCardSaid : Prop := Claim7.holds Tryd.pinned (.plain (OpenSpec.ofChange spanLawsSpec)) spanLawsCard

/-- THE TIED CARD OF 'helmsmanlaw02.SpanSound'. -/
def spanSoundCard : Claim7 := { stood := { row := spanSoundRow, standIns := [], harness := (true, "dd4255569846f32772da1bc8f9ad4daf2d0e0abb43648cb154e52fabfac71cc0"), looks := false }, kinds := [], alts := [], laidByText := true, laidKinds := [.data, .data, .data], laidTests := true, laidLooks := .later }
def SpanSoundCardSaid : Prop := Claim7.holds Tryd.pinned (.plain (OpenSpec.ofChange spanSoundSpec)) spanSoundCard

/-- THE TIED CARD OF 'helmsmanlaw02.SpanReached'. -/
def spanReachedCard : Claim7 := { stood := { row := spanReachedRow, standIns := [], harness := (true, "dd4255569846f32772da1bc8f9ad4daf2d0e0abb43648cb154e52fabfac71cc0"), looks := false }, kinds := [], alts := [], laidByText := true, laidKinds := [.data, .data, .data], laidTests := true, laidLooks := .later }
def SpanReachedCardSaid : Prop := Claim7.holds Tryd.pinned (.plain (OpenSpec.ofChange spanReachedSpec)) spanReachedCard

/-- THE SECOND FORM's CARD OF 'helmsmanlaw02.SpanCalcs'. -/
def spanCalcsUptoCard : Claim7 := { stood := { row := spanCalcsUptoRow, standIns := [], harness := (true, "dd4255569846f32772da1bc8f9ad4daf2d0e0abb43648cb154e52fabfac71cc0"), looks := false }, kinds := [], alts := [], laidByText := true, laidKinds := [.data, .data, .data], laidTests := true, laidLooks := .later }
def SpanCalcsUptoCardSaid : Prop := Claim7.holds Tryd.pinned (.plain (OpenSpec.upto spanCalcsSpec)) spanCalcsUptoCard

/-- THE SECOND FORM's CARD OF 'helmsmanlaw02.SpanWidens'. -/
def spanWidensUptoCard : Claim7 := { stood := { row := spanWidensUptoRow, standIns := [], harness := (true, "dd4255569846f32772da1bc8f9ad4daf2d0e0abb43648cb154e52fabfac71cc0"), looks := false }, kinds := [], alts := [], laidByText := true, laidKinds := [.data, .data, .data], laidTests := true, laidLooks := .later }
def SpanWidensUptoCardSaid : Prop := Claim7.holds Tryd.pinned (.plain (OpenSpec.upto spanWidensSpec)) spanWidensUptoCard

/-- THE SECOND FORM's CARD OF 'helmsmanlaw02.SpanEnds'. -/
def spanEndsUptoCard : Claim7 := { stood := { row := spanEndsUptoRow, standIns := [], harness := (true, "dd4255569846f32772da1bc8f9ad4daf2d0e0abb43648cb154e52fabfac71cc0"), looks := false }, kinds := [], alts := [], laidByText := true, laidKinds := [.data, .data, .data], laidTests := true, laidLooks := .later }
def SpanEndsUptoCardSaid : Prop := Claim7.holds Tryd.pinned (.plain (OpenSpec.upto spanEndsSpec)) spanEndsUptoCard

/-- THE SECOND FORM's CARD OF 'helmsmanlaw02.SpanHulls'. -/
def spanHullsUptoCard : Claim7 := { stood := { row := spanHullsUptoRow, standIns := [], harness := (true, "dd4255569846f32772da1bc8f9ad4daf2d0e0abb43648cb154e52fabfac71cc0"), looks := false }, kinds := [], alts := [], laidByText := true, laidKinds := [.data, .data, .data], laidTests := true, laidLooks := .later }
def SpanHullsUptoCardSaid : Prop := Claim7.holds Tryd.pinned (.plain (OpenSpec.upto spanHullsSpec)) spanHullsUptoCard

/-- THE SECOND FORM's CARD OF 'helmsmanlaw02.SpanSets'. -/
def spanSetsUptoCard : Claim7 := { stood := { row := spanSetsUptoRow, standIns := [], harness := (true, "dd4255569846f32772da1bc8f9ad4daf2d0e0abb43648cb154e52fabfac71cc0"), looks := false }, kinds := [], alts := [], laidByText := true, laidKinds := [.data, .data, .data], laidTests := true, laidLooks := .later }
def SpanSetsUptoCardSaid : Prop := Claim7.holds Tryd.pinned (.plain (OpenSpec.upto spanSetsSpec)) spanSetsUptoCard

/-- THE SECOND FORM's CARD OF 'helmsmanlaw02.SpanLaws'. -/
def spanLawsUptoCard : Claim7 := { stood := { row := spanLawsUptoRow, standIns := [], harness := (true, "dd4255569846f32772da1bc8f9ad4daf2d0e0abb43648cb154e52fabfac71cc0"), looks := false }, kinds := [], alts := [], laidByText := true, laidKinds := [.data, .data, .data], laidTests := true, laidLooks := .later }
def SpanLawsUptoCardSaid : Prop := Claim7.holds Tryd.pinned (.plain (OpenSpec.upto spanLawsSpec)) spanLawsUptoCard

/-- THE SECOND FORM's CARD OF 'helmsmanlaw02.SpanSound'. -/
def spanSoundUptoCard : Claim7 := { stood := { row := spanSoundUptoRow, standIns := [], harness := (true, "dd4255569846f32772da1bc8f9ad4daf2d0e0abb43648cb154e52fabfac71cc0"), looks := false }, kinds := [], alts := [], laidByText := true, laidKinds := [.data, .data, .data], laidTests := true, laidLooks := .later }
def SpanSoundUptoCardSaid : Prop := Claim7.holds Tryd.pinned (.plain (OpenSpec.upto spanSoundSpec)) spanSoundUptoCard

/-- THE SECOND FORM's CARD OF 'helmsmanlaw02.SpanReached'. -/
def spanReachedUptoCard : Claim7 := { stood := { row := spanReachedUptoRow, standIns := [], harness := (true, "dd4255569846f32772da1bc8f9ad4daf2d0e0abb43648cb154e52fabfac71cc0"), looks := false }, kinds := [], alts := [], laidByText := true, laidKinds := [.data, .data, .data], laidTests := true, laidLooks := .later }
def SpanReachedUptoCardSaid : Prop := Claim7.holds Tryd.pinned (.plain (OpenSpec.upto spanReachedSpec)) spanReachedUptoCard
end Rows
end Go.Proofs.YtjddafaaplhnfaaDoor
