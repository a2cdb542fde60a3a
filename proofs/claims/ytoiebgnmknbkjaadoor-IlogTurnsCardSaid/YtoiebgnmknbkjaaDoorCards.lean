/-
  DERIVED. GIVEN WITH THE SEED: THE CARDS: each row of YtoiebgnmknbkjaaDoorRows.lean that lists a variable, with what it lists TIED to the program's text (the seventh form; the later family's looks); each row that meets fmt, with fmt's text TOLD by the authors' own Lean function (tested against real Go, not proved from fmt's source: count such statements apart). THE CARD IS WHAT COUNTS. Prove the row's statement (the work); the ties are given (YtoiebgnmknbkjaaDoorTie.lean); close each card by the builder's one call (the guide's Derived/Test/ToyasCard.lean, 'card_holds'). Laid BY PROGRAM, IN A SANDBOX (cutbox-door.mjs). By AI agents, Wed Nov 11 2026. No macro, syntax, notation, axiom, sorry.
-/
import Derived.Test.YtoiebgnmknbkjaaDoorRows
import GoSem.ClaimSeven
namespace Go.Proofs.YtoiebgnmknbkjaaDoor
namespace Rows

/-- THE TIED CARD OF 'furrowlaw03.LayoutFits'. -/
def layoutFitsCard : Claim7 := { stood := { row := layoutFitsRow, standIns := [], harness := (true, "8482434dbc4e61b736786c4505ca5f69593feebf6d1c8f8cd984f179fabe7027"), looks := true }, kinds := [], alts := [], laidByText := true, laidKinds := [.data], laidTests := true, laidLooks := .later }
def LayoutFitsCardSaid : Prop := Claim7.holds Tryd.pinned (.plain (OpenSpec.ofChange layoutFitsSpec)) layoutFitsCard

/-- THE TIED CARD OF 'furrowlaw03.LayoutSupers'. -/
def layoutSupersCard : Claim7 := { stood := { row := layoutSupersRow, standIns := [], harness := (true, "8482434dbc4e61b736786c4505ca5f69593feebf6d1c8f8cd984f179fabe7027"), looks := true }, kinds := [], alts := [], laidByText := true, laidKinds := [.data], laidTests := true, laidLooks := .later }
def LayoutSupersCardSaid : Prop := Claim7.holds Tryd.pinned (.plain (OpenSpec.ofChange layoutSupersSpec)) layoutSupersCard

/-- THE TIED CARD OF 'furrowlaw03.LayoutHeaders'. -/
def layoutHeadersCard : Claim7 := { stood := { row := layoutHeadersRow, standIns := [], harness := (true, "8482434dbc4e61b736786c4505ca5f69593feebf6d1c8f8cd984f179fabe7027"), looks := true }, kinds := [], alts := [], laidByText := true, laidKinds := [.data], laidTests := true, laidLooks := .later }
def LayoutHeadersCardSaid : Prop := Claim7.holds Tryd.pinned (.plain (OpenSpec.ofChange layoutHeadersSpec)) layoutHeadersCard

/-- THE TIED CARD OF 'furrowlaw03.LayoutHeaderHolds'. -/
def layoutHeaderHoldsCard : Claim7 := { stood := { row := layoutHeaderHoldsRow, standIns := [], harness := (true, "8482434dbc4e61b736786c4505ca5f69593feebf6d1c8f8cd984f179fabe7027"), looks := true }, kinds := [], alts := [], laidByText := true, laidKinds := [.data], laidTests := true, laidLooks := .later }
def LayoutHeaderHoldsCardSaid : Prop := Claim7.holds Tryd.pinned (.plain (OpenSpec.ofChange layoutHeaderHoldsSpec)) layoutHeaderHoldsCard

/-- THE TIED CARD OF 'furrowlaw03.LayoutFinds'. -/
def layoutFindsCard : Claim7 := { stood := { row := layoutFindsRow, standIns := [], harness := (true, "8482434dbc4e61b736786c4505ca5f69593feebf6d1c8f8cd984f179fabe7027"), looks := true }, kinds := [], alts := [], laidByText := true, laidKinds := [.data], laidTests := true, laidLooks := .later }
def LayoutFindsCardSaid : Prop := Claim7.holds Tryd.pinned (.plain (OpenSpec.ofChange layoutFindsSpec)) layoutFindsCard

/-- THE TIED CARD OF 'furrowlaw03.LayoutSuperHolds'. -/
def layoutSuperHoldsCard : Claim7 := { stood := { row := layoutSuperHoldsRow, standIns := [], harness := (true, "8482434dbc4e61b736786c4505ca5f69593feebf6d1c8f8cd984f179fabe7027"), looks := true }, kinds := [], alts := [], laidByText := true, laidKinds := [.data], laidTests := true, laidLooks := .later }
def LayoutSuperHoldsCardSaid : Prop := Claim7.holds Tryd.pinned (.plain (OpenSpec.ofChange layoutSuperHoldsSpec)) layoutSuperHoldsCard

/-- THE TIED CARD OF 'furrowlaw03.LayoutSlots'. -/
def layoutSlotsCard : Claim7 := { stood := { row := layoutSlotsRow, standIns := [], harness := (true, "8482434dbc4e61b736786c4505ca5f69593feebf6d1c8f8cd984f179fabe7027"), looks := true }, kinds := [], alts := [], laidByText := true, laidKinds := [.data], laidTests := true, laidLooks := .later }
def LayoutSlotsCardSaid : Prop := Claim7.holds Tryd.pinned (.plain (OpenSpec.ofChange layoutSlotsSpec)) layoutSlotsCard

/-- THE TIED CARD OF 'furrowlaw03.LayoutSaveds'. -/
def layoutSavedsCard : Claim7 := { stood := { row := layoutSavedsRow, standIns := [], harness := (true, "8482434dbc4e61b736786c4505ca5f69593feebf6d1c8f8cd984f179fabe7027"), looks := true }, kinds := [], alts := [], laidByText := true, laidKinds := [.data], laidTests := true, laidLooks := .later }
def LayoutSavedsCardSaid : Prop := Claim7.holds Tryd.pinned (.plain (OpenSpec.ofChange layoutSavedsSpec)) layoutSavedsCard

/-- THE TIED CARD OF 'furrowlaw03.LayoutSlotHolds'. -/
def layoutSlotHoldsCard : Claim7 := { stood := { row := layoutSlotHoldsRow, standIns := [], harness := (true, "8482434dbc4e61b736786c4505ca5f69593feebf6d1c8f8cd984f179fabe7027"), looks := true }, kinds := [], alts := [], laidByText := true, laidKinds := [.data], laidTests := true, laidLooks := .later }
def LayoutSlotHoldsCardSaid : Prop := Claim7.holds Tryd.pinned (.plain (OpenSpec.ofChange layoutSlotHoldsSpec)) layoutSlotHoldsCard

/-- THE TIED CARD OF 'furrowlaw03.LayoutSavedHolds'. -/
def layoutSavedHoldsCard : Claim7 := { stood := { row := layoutSavedHoldsRow, standIns := [], harness := (true, "8482434dbc4e61b736786c4505ca5f69593feebf6d1c8f8cd984f179fabe7027"), looks := true }, kinds := [], alts := [], laidByText := true, laidKinds := [.data], laidTests := true, laidLooks := .later }
def LayoutSavedHoldsCardSaid : Prop := Claim7.holds Tryd.pinned (.plain (OpenSpec.ofChange layoutSavedHoldsSpec)) layoutSavedHoldsCard

/-- THE TIED CARD OF 'furrowlaw03.LayoutEntries'. -/
def layoutEntriesCard : Claim7 := { stood := { row := layoutEntriesRow, standIns := [], harness := (true, "8482434dbc4e61b736786c4505ca5f69593feebf6d1c8f8cd984f179fabe7027"), looks := true }, kinds := [], alts := [], laidByText := true, laidKinds := [.data], laidTests := true, laidLooks := .later }
def LayoutEntriesCardSaid : Prop := Claim7.holds Tryd.pinned (.plain (OpenSpec.ofChange layoutEntriesSpec)) layoutEntriesCard

/-- THE TIED CARD OF 'furrowlaw03.LayoutEntryHolds'. -/
def layoutEntryHoldsCard : Claim7 := { stood := { row := layoutEntryHoldsRow, standIns := [], harness := (true, "8482434dbc4e61b736786c4505ca5f69593feebf6d1c8f8cd984f179fabe7027"), looks := true }, kinds := [], alts := [], laidByText := true, laidKinds := [.data], laidTests := true, laidLooks := .later }
def LayoutEntryHoldsCardSaid : Prop := Claim7.holds Tryd.pinned (.plain (OpenSpec.ofChange layoutEntryHoldsSpec)) layoutEntryHoldsCard

/-- THE TIED CARD OF 'furrowlaw03.LayoutUndos'. -/
def layoutUndosCard : Claim7 := { stood := { row := layoutUndosRow, standIns := [], harness := (true, "8482434dbc4e61b736786c4505ca5f69593feebf6d1c8f8cd984f179fabe7027"), looks := true }, kinds := [], alts := [], laidByText := true, laidKinds := [.data], laidTests := true, laidLooks := .later }
def LayoutUndosCardSaid : Prop := Claim7.holds Tryd.pinned (.plain (OpenSpec.ofChange layoutUndosSpec)) layoutUndosCard

/-- THE TIED CARD OF 'furrowlaw03.LayoutUndoHolds'. -/
def layoutUndoHoldsCard : Claim7 := { stood := { row := layoutUndoHoldsRow, standIns := [], harness := (true, "8482434dbc4e61b736786c4505ca5f69593feebf6d1c8f8cd984f179fabe7027"), looks := true }, kinds := [], alts := [], laidByText := true, laidKinds := [.data], laidTests := true, laidLooks := .later }
def LayoutUndoHoldsCardSaid : Prop := Claim7.holds Tryd.pinned (.plain (OpenSpec.ofChange layoutUndoHoldsSpec)) layoutUndoHoldsCard

/-- THE TIED CARD OF 'furrowlaw06.IlogNeeds'. -/
def ilogNeedsCard : Claim7 := { stood := { row := ilogNeedsRow, standIns := [], harness := (true, "8482434dbc4e61b736786c4505ca5f69593feebf6d1c8f8cd984f179fabe7027"), looks := true }, kinds := [], alts := [], laidByText := true, laidKinds := [.data], laidTests := true, laidLooks := .later }
def IlogNeedsCardSaid : Prop := Claim7.holds Tryd.pinned (.plain (OpenSpec.ofChange ilogNeedsSpec)) ilogNeedsCard

/-- THE TIED CARD OF 'furrowlaw06.IlogChanges'. -/
def ilogChangesCard : Claim7 := { stood := { row := ilogChangesRow, standIns := [], harness := (true, "8482434dbc4e61b736786c4505ca5f69593feebf6d1c8f8cd984f179fabe7027"), looks := true }, kinds := [], alts := [], laidByText := true, laidKinds := [.data], laidTests := true, laidLooks := .later }
def IlogChangesCardSaid : Prop := Claim7.holds Tryd.pinned (.plain (OpenSpec.ofChange ilogChangesSpec)) ilogChangesCard

/-- THE TIED CARD OF 'furrowlaw06.IlogTurns'. -/
def ilogTurnsCard : Claim7 := { stood := { row := ilogTurnsRow, standIns := [], harness := (true, "8482434dbc4e61b736786c4505ca5f69593feebf6d1c8f8cd984f179fabe7027"), looks := true }, kinds := [], alts := [], laidByText := true, laidKinds := [.data], laidTests := true, laidLooks := .later }
def IlogTurnsCardSaid : Prop := Claim7.holds Tryd.pinned (.plain (OpenSpec.ofChange ilogTurnsSpec)) ilogTurnsCard

/-- THE SECOND FORM's CARD OF 'furrowlaw03.LayoutFits'. -/
def layoutFitsUptoCard : Claim7 := { stood := { row := layoutFitsUptoRow, standIns := [], harness := (true, "8482434dbc4e61b736786c4505ca5f69593feebf6d1c8f8cd984f179fabe7027"), looks := true }, kinds := [], alts := [], laidByText := true, laidKinds := [.data], laidTests := true, laidLooks := .later }
def LayoutFitsUptoCardSaid : Prop := Claim7.holds Tryd.pinned (.plain (OpenSpec.upto layoutFitsSpec)) layoutFitsUptoCard

/-- THE SECOND FORM's CARD OF 'furrowlaw03.LayoutSupers'. -/
def layoutSupersUptoCard : Claim7 := { stood := { row := layoutSupersUptoRow, standIns := [], harness := (true, "8482434dbc4e61b736786c4505ca5f69593feebf6d1c8f8cd984f179fabe7027"), looks := true }, kinds := [], alts := [], laidByText := true, laidKinds := [.data], laidTests := true, laidLooks := .later }
def LayoutSupersUptoCardSaid : Prop := Claim7.holds Tryd.pinned (.plain (OpenSpec.upto layoutSupersSpec)) layoutSupersUptoCard

/-- THE SECOND FORM's CARD OF 'furrowlaw03.LayoutHeaders'. -/
def layoutHeadersUptoCard : Claim7 := { stood := { row := layoutHeadersUptoRow, standIns := [], harness := (true, "8482434dbc4e61b736786c4505ca5f69593feebf6d1c8f8cd984f179fabe7027"), looks := true }, kinds := [], alts := [], laidByText := true, laidKinds := [.data], laidTests := true, laidLooks := .later }
def LayoutHeadersUptoCardSaid : Prop := Claim7.holds Tryd.pinned (.plain (OpenSpec.upto layoutHeadersSpec)) layoutHeadersUptoCard

/-- THE SECOND FORM's CARD OF 'furrowlaw03.LayoutHeaderHolds'. -/
def layoutHeaderHoldsUptoCard : Claim7 := { stood := { row := layoutHeaderHoldsUptoRow, standIns := [], harness := (true, "8482434dbc4e61b736786c4505ca5f69593feebf6d1c8f8cd984f179fabe7027"), looks := true }, kinds := [], alts := [], laidByText := true, laidKinds := [.data], laidTests := true, laidLooks := .later }
def LayoutHeaderHoldsUptoCardSaid : Prop := Claim7.holds Tryd.pinned (.plain (OpenSpec.upto layoutHeaderHoldsSpec)) layoutHeaderHoldsUptoCard

/-- THE SECOND FORM's CARD OF 'furrowlaw03.LayoutFinds'. -/
def layoutFindsUptoCard : Claim7 := { stood := { row := layoutFindsUptoRow, standIns := [], harness := (true, "8482434dbc4e61b736786c4505ca5f69593feebf6d1c8f8cd984f179fabe7027"), looks := true }, kinds := [], alts := [], laidByText := true, laidKinds := [.data], laidTests := true, laidLooks := .later }
def LayoutFindsUptoCardSaid : Prop := Claim7.holds Tryd.pinned (.plain (OpenSpec.upto layoutFindsSpec)) layoutFindsUptoCard

/-- THE SECOND FORM's CARD OF 'furrowlaw03.LayoutSuperHolds'. -/
def layoutSuperHoldsUptoCard : Claim7 := { stood := { row := layoutSuperHoldsUptoRow, standIns := [], harness := (true, "8482434dbc4e61b736786c4505ca5f69593feebf6d1c8f8cd984f179fabe7027"), looks := true }, kinds := [], alts := [], laidByText := true, laidKinds := [.data], laidTests := true, laidLooks := .later }
def LayoutSuperHoldsUptoCardSaid : Prop := Claim7.holds Tryd.pinned (.plain (OpenSpec.upto layoutSuperHoldsSpec)) layoutSuperHoldsUptoCard

/-- THE SECOND FORM's CARD OF 'furrowlaw03.LayoutSlots'. -/
def layoutSlotsUptoCard : Claim7 := { stood := { row := layoutSlotsUptoRow, standIns := [], harness := (true, "8482434dbc4e61b736786c4505ca5f69593feebf6d1c8f8cd984f179fabe7027"), looks := true }, kinds := [], alts := [], laidByText := true, laidKinds := [.data], laidTests := true, laidLooks := .later }
def LayoutSlotsUptoCardSaid : Prop := Claim7.holds Tryd.pinned (.plain (OpenSpec.upto layoutSlotsSpec)) layoutSlotsUptoCard

/-- THE SECOND FORM's CARD OF 'furrowlaw03.LayoutSaveds'. -/
def layoutSavedsUptoCard : Claim7 := { stood := { row := layoutSavedsUptoRow, standIns := [], harness := (true, "8482434dbc4e61b736786c4505ca5f69593feebf6d1c8f8cd984f179fabe7027"), looks := true }, kinds := [], alts := [], laidByText := true, laidKinds := [.data], laidTests := true, laidLooks := .later }
def LayoutSavedsUptoCardSaid : Prop := Claim7.holds Tryd.pinned (.plain (OpenSpec.upto layoutSavedsSpec)) layoutSavedsUptoCard

/-- THE SECOND FORM's CARD OF 'furrowlaw03.LayoutSlotHolds'. -/
def layoutSlotHoldsUptoCard : Claim7 := { stood := { row := layoutSlotHoldsUptoRow, standIns := [], harness := (true, "8482434dbc4e61b736786c4505ca5f69593feebf6d1c8f8cd984f179fabe7027"), looks := true }, kinds := [], alts := [], laidByText := true, laidKinds := [.data], laidTests := true, laidLooks := .later }
def LayoutSlotHoldsUptoCardSaid : Prop := Claim7.holds Tryd.pinned (.plain (OpenSpec.upto layoutSlotHoldsSpec)) layoutSlotHoldsUptoCard

/-- THE SECOND FORM's CARD OF 'furrowlaw03.LayoutSavedHolds'. -/
def layoutSavedHoldsUptoCard : Claim7 := { stood := { row := layoutSavedHoldsUptoRow, standIns := [], harness := (true, "8482434dbc4e61b736786c4505ca5f69593feebf6d1c8f8cd984f179fabe7027"), looks := true }, kinds := [], alts := [], laidByText := true, laidKinds := [.data], laidTests := true, laidLooks := .later }
def LayoutSavedHoldsUptoCardSaid : Prop := Claim7.holds Tryd.pinned (.plain (OpenSpec.upto layoutSavedHoldsSpec)) layoutSavedHoldsUptoCard

/-- THE SECOND FORM's CARD OF 'furrowlaw03.LayoutEntries'. -/
def layoutEntriesUptoCard : Claim7 := { stood := { row := layoutEntriesUptoRow, standIns := [], harness := (true, "8482434dbc4e61b736786c4505ca5f69593feebf6d1c8f8cd984f179fabe7027"), looks := true }, kinds := [], alts := [], laidByText := true, laidKinds := [.data], laidTests := true, laidLooks := .later }
def LayoutEntriesUptoCardSaid : Prop := Claim7.holds Tryd.pinned (.plain (OpenSpec.upto layoutEntriesSpec)) layoutEntriesUptoCard

/-- THE SECOND FORM's CARD OF 'furrowlaw03.LayoutEntryHolds'. -/
def layoutEntryHoldsUptoCard : Claim7 := { stood := { row := layoutEntryHoldsUptoRow, standIns := [], harness := (true, "8482434dbc4e61b736786c4505ca5f69593feebf6d1c8f8cd984f179fabe7027"), looks := true }, kinds := [], alts := [], laidByText := true, laidKinds := [.data], laidTests := true, laidLooks := .later }
def LayoutEntryHoldsUptoCardSaid : Prop := Claim7.holds Tryd.pinned (.plain (OpenSpec.upto layoutEntryHoldsSpec)) layoutEntryHoldsUptoCard

/-- THE SECOND FORM's CARD OF 'furrowlaw03.LayoutUndos'. -/
def layoutUndosUptoCard : Claim7 := { stood := { row := layoutUndosUptoRow, standIns := [], harness := (true, "8482434dbc4e61b736786c4505ca5f69593feebf6d1c8f8cd984f179fabe7027"), looks := true }, kinds := [], alts := [], laidByText := true, laidKinds := [.data], laidTests := true, laidLooks := .later }
def LayoutUndosUptoCardSaid : Prop := Claim7.holds Tryd.pinned (.plain (OpenSpec.upto layoutUndosSpec)) layoutUndosUptoCard

/-- THE SECOND FORM's CARD OF 'furrowlaw03.LayoutUndoHolds'. -/
def layoutUndoHoldsUptoCard : Claim7 := { stood := { row := layoutUndoHoldsUptoRow, standIns := [], harness := (true, "8482434dbc4e61b736786c4505ca5f69593feebf6d1c8f8cd984f179fabe7027"), looks := true }, kinds := [], alts := [], laidByText := true, laidKinds := [.data], laidTests := true, laidLooks := .later }
def LayoutUndoHoldsUptoCardSaid : Prop := Claim7.holds Tryd.pinned (.plain (OpenSpec.upto layoutUndoHoldsSpec)) layoutUndoHoldsUptoCard

/-- THE SECOND FORM's CARD OF 'furrowlaw06.IlogNeeds'. -/
def ilogNeedsUptoCard : Claim7 := { stood := { row := ilogNeedsUptoRow, standIns := [], harness := (true, "8482434dbc4e61b736786c4505ca5f69593feebf6d1c8f8cd984f179fabe7027"), looks := true }, kinds := [], alts := [], laidByText := true, laidKinds := [.data], laidTests := true, laidLooks := .later }
def IlogNeedsUptoCardSaid : Prop := Claim7.holds Tryd.pinned (.plain (OpenSpec.upto ilogNeedsSpec)) ilogNeedsUptoCard

/-- THE SECOND FORM's CARD OF 'furrowlaw06.IlogChanges'. -/
def ilogChangesUptoCard : Claim7 := { stood := { row := ilogChangesUptoRow, standIns := [], harness := (true, "8482434dbc4e61b736786c4505ca5f69593feebf6d1c8f8cd984f179fabe7027"), looks := true }, kinds := [], alts := [], laidByText := true, laidKinds := [.data], laidTests := true, laidLooks := .later }
def IlogChangesUptoCardSaid : Prop := Claim7.holds Tryd.pinned (.plain (OpenSpec.upto ilogChangesSpec)) ilogChangesUptoCard

/-- THE SECOND FORM's CARD OF 'furrowlaw06.IlogTurns'. -/
def ilogTurnsUptoCard : Claim7 := { stood := { row := ilogTurnsUptoRow, standIns := [], harness := (true, "8482434dbc4e61b736786c4505ca5f69593feebf6d1c8f8cd984f179fabe7027"), looks := true }, kinds := [], alts := [], laidByText := true, laidKinds := [.data], laidTests := true, laidLooks := .later }
def IlogTurnsUptoCardSaid : Prop := Claim7.holds Tryd.pinned (.plain (OpenSpec.upto ilogTurnsSpec)) ilogTurnsUptoCard
end Rows
end Go.Proofs.YtoiebgnmknbkjaaDoor
