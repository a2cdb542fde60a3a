/-
  DERIVED. GIVEN WITH THE SEED: THE CARDS: each row of YtpihenmdkoojdaaDoorRows.lean that lists a variable, with what it lists TIED to the program's text (the seventh form; the later family's looks); each row that meets fmt, with fmt's text TOLD by the authors' own Lean function (tested against real Go, not proved from fmt's source: count such statements apart). THE CARD IS WHAT COUNTS. Prove the row's statement (the work); the ties are given (YtpihenmdkoojdaaDoorTie.lean); close each card by the builder's one call (the guide's Derived/Test/ToyasCard.lean, 'card_holds'). Laid BY PROGRAM, IN A SANDBOX (cutbox-door.mjs). By AI agents, Wed Nov 11 2026. No macro, syntax, notation, axiom, sorry.
-/
import Derived.Test.YtpihenmdkoojdaaDoorRows
import GoSem.ClaimSeven
namespace Go.Proofs.YtpihenmdkoojdaaDoor
namespace Rows

/-- THE TIED CARD OF 'furrowlaw13.SavedTurned'. -/
def savedTurnedCard : Claim7 := { stood := { row := savedTurnedRow, standIns := [], harness := (true, "770979afe1e0c29aad719026c15217f3b69c804441f2be99d29feddad375dc4c"), looks := true }, kinds := [], alts := [], laidByText := true, laidKinds := [.data], laidTests := true, laidLooks := .later }
def SavedTurnedCardSaid : Prop := Claim7.holds Tryd.pinned (.plain (OpenSpec.ofChange savedTurnedSpec)) savedTurnedCard

/-- THE TIED CARD OF 'furrowlaw13.SavedBelieved'. -/
def savedBelievedCard : Claim7 := { stood := { row := savedBelievedRow, standIns := [], harness := (true, "770979afe1e0c29aad719026c15217f3b69c804441f2be99d29feddad375dc4c"), looks := true }, kinds := [], alts := [], laidByText := true, laidKinds := [.data], laidTests := true, laidLooks := .later }
def SavedBelievedCardSaid : Prop := Claim7.holds Tryd.pinned (.plain (OpenSpec.ofChange savedBelievedSpec)) savedBelievedCard

/-- THE TIED CARD OF 'furrowlaw13.SavedApart'. -/
def savedApartCard : Claim7 := { stood := { row := savedApartRow, standIns := [], harness := (true, "770979afe1e0c29aad719026c15217f3b69c804441f2be99d29feddad375dc4c"), looks := true }, kinds := [], alts := [], laidByText := true, laidKinds := [.data], laidTests := true, laidLooks := .later }
def SavedApartCardSaid : Prop := Claim7.holds Tryd.pinned (.plain (OpenSpec.ofChange savedApartSpec)) savedApartCard

/-- THE TIED CARD OF 'furrowlaw13.SavedMany'. -/
def savedManyCard : Claim7 := { stood := { row := savedManyRow, standIns := [], harness := (true, "770979afe1e0c29aad719026c15217f3b69c804441f2be99d29feddad375dc4c"), looks := true }, kinds := [], alts := [], laidByText := true, laidKinds := [.data], laidTests := true, laidLooks := .later }
def SavedManyCardSaid : Prop := Claim7.holds Tryd.pinned (.plain (OpenSpec.ofChange savedManySpec)) savedManyCard

/-- THE TIED CARD OF 'furrowlaw13.SavedCut'. -/
def savedCutCard : Claim7 := { stood := { row := savedCutRow, standIns := [], harness := (true, "770979afe1e0c29aad719026c15217f3b69c804441f2be99d29feddad375dc4c"), looks := true }, kinds := [], alts := [], laidByText := true, laidKinds := [.data], laidTests := true, laidLooks := .later }
def SavedCutCardSaid : Prop := Claim7.holds Tryd.pinned (.plain (OpenSpec.ofChange savedCutSpec)) savedCutCard

/-- THE TIED CARD OF 'furrowlaw13.SavedFound'. -/
def savedFoundCard : Claim7 := { stood := { row := savedFoundRow, standIns := [], harness := (true, "770979afe1e0c29aad719026c15217f3b69c804441f2be99d29feddad375dc4c"), looks := true }, kinds := [], alts := [], laidByText := true, laidKinds := [.data], laidTests := true, laidLooks := .later }
def SavedFoundCardSaid : Prop := Claim7.holds Tryd.pinned (.plain (OpenSpec.ofChange savedFoundSpec)) savedFoundCard

/-- THE SECOND FORM's CARD OF 'furrowlaw13.SavedTurned'. -/
def savedTurnedUptoCard : Claim7 := { stood := { row := savedTurnedUptoRow, standIns := [], harness := (true, "770979afe1e0c29aad719026c15217f3b69c804441f2be99d29feddad375dc4c"), looks := true }, kinds := [], alts := [], laidByText := true, laidKinds := [.data], laidTests := true, laidLooks := .later }
def SavedTurnedUptoCardSaid : Prop := Claim7.holds Tryd.pinned (.plain (OpenSpec.upto savedTurnedSpec)) savedTurnedUptoCard

/-- THE SECOND FORM's CARD OF 'furrowlaw13.SavedBelieved'. -/
def savedBelievedUptoCard : Claim7 := { stood := { row := savedBelievedUptoRow, standIns := [], harness := (true, "770979afe1e0c29aad719026c15217f3b69c804441f2be99d29feddad375dc4c"), looks := true }, kinds := [], alts := [], laidByText := true, laidKinds := [.data], laidTests := true, laidLooks := .later }
def SavedBelievedUptoCardSaid : Prop := Claim7.holds Tryd.pinned (.plain (OpenSpec.upto savedBelievedSpec)) savedBelievedUptoCard

/-- THE SECOND FORM's CARD OF 'furrowlaw13.SavedApart'. -/
def savedApartUptoCard : Claim7 := { stood := { row := savedApartUptoRow, standIns := [], harness := (true, "770979afe1e0c29aad719026c15217f3b69c804441f2be99d29feddad375dc4c"), looks := true }, kinds := [], alts := [], laidByText := true, laidKinds := [.data], laidTests := true, laidLooks := .later }
def SavedApartUptoCardSaid : Prop := Claim7.holds Tryd.pinned (.plain (OpenSpec.upto savedApartSpec)) savedApartUptoCard

/-- THE SECOND FORM's CARD OF 'furrowlaw13.SavedMany'. -/
def savedManyUptoCard : Claim7 := { stood := { row := savedManyUptoRow, standIns := [], harness := (true, "770979afe1e0c29aad719026c15217f3b69c804441f2be99d29feddad375dc4c"), looks := true }, kinds := [], alts := [], laidByText := true, laidKinds := [.data], laidTests := true, laidLooks := .later }
def SavedManyUptoCardSaid : Prop := Claim7.holds Tryd.pinned (.plain (OpenSpec.upto savedManySpec)) savedManyUptoCard

/-- THE SECOND FORM's CARD OF 'furrowlaw13.SavedCut'. -/
def savedCutUptoCard : Claim7 := { stood := { row := savedCutUptoRow, standIns := [], harness := (true, "770979afe1e0c29aad719026c15217f3b69c804441f2be99d29feddad375dc4c"), looks := true }, kinds := [], alts := [], laidByText := true, laidKinds := [.data], laidTests := true, laidLooks := .later }
def SavedCutUptoCardSaid : Prop := Claim7.holds Tryd.pinned (.plain (OpenSpec.upto savedCutSpec)) savedCutUptoCard

/-- THE SECOND FORM's CARD OF 'furrowlaw13.SavedFound'. -/
def savedFoundUptoCard : Claim7 := { stood := { row := savedFoundUptoRow, standIns := [], harness := (true, "770979afe1e0c29aad719026c15217f3b69c804441f2be99d29feddad375dc4c"), looks := true }, kinds := [], alts := [], laidByText := true, laidKinds := [.data], laidTests := true, laidLooks := .later }
def SavedFoundUptoCardSaid : Prop := Claim7.holds Tryd.pinned (.plain (OpenSpec.upto savedFoundSpec)) savedFoundUptoCard
end Rows
end Go.Proofs.YtpihenmdkoojdaaDoor
