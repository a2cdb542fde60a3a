/-
  DERIVED. GIVEN WITH THE SEED: THE CARDS: each row of YthhkbbodhghmcaaGreatDoorRows.lean that lists a variable, with what it lists TIED to the program's text (the seventh form; the later family's looks); each row that meets fmt, with fmt's text TOLD by the authors' own Lean function (tested against real Go, not proved from fmt's source: count such statements apart). THE CARD IS WHAT COUNTS. Prove the row's statement (the work); the ties are given (YthhkbbodhghmcaaGreatDoorTie.lean); close each card by the builder's one call (the guide's Derived/Test/ToyasCard.lean, 'card_holds'). Laid BY PROGRAM, IN A SANDBOX (cutbox-door.mjs). By AI agents, Wed Nov 11 2026. No macro, syntax, notation, axiom, sorry.
-/
import Derived.Test.YthhkbbodhghmcaaGreatDoorRows
import GoSem.ClaimSeven
namespace Go.Proofs.YthhkbbodhghmcaaGreatDoor
namespace Rows

/-- THE TIED CARD OF 'furrowlaw13.SavedSaves'. -/
def savedSavesCard : Claim7 := { stood := { row := savedSavesRow, standIns := [], harness := (true, "abeb2645f6082a693ae1f14dda4d6a898a95a9898537392d8648bb9cee922278"), looks := true }, kinds := [], alts := [], laidByText := true, laidKinds := [.data], laidTests := true, laidLooks := .later }
def SavedSavesCardSaid : Prop := Claim7.holds Tryz.pinned (.plain (OpenSpec.ofChange savedSavesSpec)) savedSavesCard

/-- THE TIED CARD OF 'furrowlaw13.SavedRestores'. -/
def savedRestoresCard : Claim7 := { stood := { row := savedRestoresRow, standIns := [], harness := (true, "abeb2645f6082a693ae1f14dda4d6a898a95a9898537392d8648bb9cee922278"), looks := true }, kinds := [], alts := [], laidByText := true, laidKinds := [.data], laidTests := true, laidLooks := .later }
def SavedRestoresCardSaid : Prop := Claim7.holds Tryz.pinned (.plain (OpenSpec.ofChange savedRestoresSpec)) savedRestoresCard

/-- THE TIED CARD OF 'furrowlaw13.SavedAll'. -/
def savedAllCard : Claim7 := { stood := { row := savedAllRow, standIns := [], harness := (true, "abeb2645f6082a693ae1f14dda4d6a898a95a9898537392d8648bb9cee922278"), looks := true }, kinds := [], alts := [], laidByText := true, laidKinds := [.data], laidTests := true, laidLooks := .later }
def SavedAllCardSaid : Prop := Claim7.holds Tryz.pinned (.plain (OpenSpec.ofChange savedAllSpec)) savedAllCard

/-- THE SECOND FORM's CARD OF 'furrowlaw13.SavedSaves'. -/
def savedSavesUptoCard : Claim7 := { stood := { row := savedSavesUptoRow, standIns := [], harness := (true, "abeb2645f6082a693ae1f14dda4d6a898a95a9898537392d8648bb9cee922278"), looks := true }, kinds := [], alts := [], laidByText := true, laidKinds := [.data], laidTests := true, laidLooks := .later }
def SavedSavesUptoCardSaid : Prop := Claim7.holds Tryz.pinned (.plain (OpenSpec.upto savedSavesSpec)) savedSavesUptoCard

/-- THE SECOND FORM's CARD OF 'furrowlaw13.SavedRestores'. -/
def savedRestoresUptoCard : Claim7 := { stood := { row := savedRestoresUptoRow, standIns := [], harness := (true, "abeb2645f6082a693ae1f14dda4d6a898a95a9898537392d8648bb9cee922278"), looks := true }, kinds := [], alts := [], laidByText := true, laidKinds := [.data], laidTests := true, laidLooks := .later }
def SavedRestoresUptoCardSaid : Prop := Claim7.holds Tryz.pinned (.plain (OpenSpec.upto savedRestoresSpec)) savedRestoresUptoCard

/-- THE SECOND FORM's CARD OF 'furrowlaw13.SavedAll'. -/
def savedAllUptoCard : Claim7 := { stood := { row := savedAllUptoRow, standIns := [], harness := (true, "abeb2645f6082a693ae1f14dda4d6a898a95a9898537392d8648bb9cee922278"), looks := true }, kinds := [], alts := [], laidByText := true, laidKinds := [.data], laidTests := true, laidLooks := .later }
def SavedAllUptoCardSaid : Prop := Claim7.holds Tryz.pinned (.plain (OpenSpec.upto savedAllSpec)) savedAllUptoCard
end Rows
end Go.Proofs.YthhkbbodhghmcaaGreatDoor
