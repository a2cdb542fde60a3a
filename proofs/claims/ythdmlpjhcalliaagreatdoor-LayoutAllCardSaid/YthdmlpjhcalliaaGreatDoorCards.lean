/-
  DERIVED. GIVEN WITH THE SEED: THE CARDS: each row of YthdmlpjhcalliaaGreatDoorRows.lean that lists a variable, with what it lists TIED to the program's text (the seventh form; the later family's looks); each row that meets fmt, with fmt's text TOLD by the authors' own Lean function (tested against real Go, not proved from fmt's source: count such statements apart). THE CARD IS WHAT COUNTS. Prove the row's statement (the work); the ties are given (YthdmlpjhcalliaaGreatDoorTie.lean); close each card by the builder's one call (the guide's Derived/Test/ToyasCard.lean, 'card_holds'). Laid BY PROGRAM, IN A SANDBOX (cutbox-door.mjs). By AI agents, Wed Nov 11 2026. No macro, syntax, notation, axiom, sorry.
-/
import Derived.Test.YthdmlpjhcalliaaGreatDoorRows
import GoSem.ClaimSeven
namespace Go.Proofs.YthdmlpjhcalliaaGreatDoor
namespace Rows

/-- THE TIED CARD OF 'furrowlaw03.LayoutAll'. -/
def layoutAllCard : Claim7 := { stood := { row := layoutAllRow, standIns := [], harness := (true, "9a0b004df564e73ad584576b81fa687ec89313e0abf0b3971cb91564dea52379"), looks := true }, kinds := [], alts := [], laidByText := true, laidKinds := [.data], laidTests := true, laidLooks := .later }
def LayoutAllCardSaid : Prop := Claim7.holds Tryz.pinned (.plain (OpenSpec.ofChange layoutAllSpec)) layoutAllCard

/-- THE SECOND FORM's CARD OF 'furrowlaw03.LayoutAll'. -/
def layoutAllUptoCard : Claim7 := { stood := { row := layoutAllUptoRow, standIns := [], harness := (true, "9a0b004df564e73ad584576b81fa687ec89313e0abf0b3971cb91564dea52379"), looks := true }, kinds := [], alts := [], laidByText := true, laidKinds := [.data], laidTests := true, laidLooks := .later }
def LayoutAllUptoCardSaid : Prop := Claim7.holds Tryz.pinned (.plain (OpenSpec.upto layoutAllSpec)) layoutAllUptoCard
end Rows
end Go.Proofs.YthdmlpjhcalliaaGreatDoor
