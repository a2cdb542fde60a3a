/-
  DERIVED. GIVEN WITH THE SEED: THE CARDS: each row of YtfchinibjhcejaaDoorRows.lean that lists a variable, with what it lists TIED to the program's text (the seventh form; the later family's looks); each row that meets fmt, with fmt's text TOLD by the authors' own Lean function (tested against real Go, not proved from fmt's source: count such statements apart). THE CARD IS WHAT COUNTS. Prove the row's statement (the work); the ties are given (YtfchinibjhcejaaDoorTie.lean); close each card by the builder's one call (the guide's Derived/Test/ToyasCard.lean, 'card_holds'). Laid BY PROGRAM, IN A SANDBOX (cutbox-door.mjs). By AI agents, Wed Nov 11 2026. No macro, syntax, notation, axiom, sorry.
-/
import Derived.Test.YtfchinibjhcejaaDoorRows
import GoSem.ClaimSeven
namespace Go.Proofs.YtfchinibjhcejaaDoor
namespace Rows

/-- THE TIED CARD OF 'furrowlaw04.JournalSteps'. -/
def journalStepsCard : Claim7 := { stood := { row := journalStepsRow, standIns := [], harness := (true, "022dc62c627a1d80343c483efae91f9194360c0dec110f64d826d43cc6202c3b"), looks := true }, kinds := [], alts := [], laidByText := true, laidKinds := [.data], laidTests := true, laidLooks := .later }
def JournalStepsCardSaid : Prop := Claim7.holds Tryd.pinned (.plain (OpenSpec.ofChange journalStepsSpec)) journalStepsCard

/-- THE SECOND FORM's CARD OF 'furrowlaw04.JournalSteps'. -/
def journalStepsUptoCard : Claim7 := { stood := { row := journalStepsUptoRow, standIns := [], harness := (true, "022dc62c627a1d80343c483efae91f9194360c0dec110f64d826d43cc6202c3b"), looks := true }, kinds := [], alts := [], laidByText := true, laidKinds := [.data], laidTests := true, laidLooks := .later }
def JournalStepsUptoCardSaid : Prop := Claim7.holds Tryd.pinned (.plain (OpenSpec.upto journalStepsSpec)) journalStepsUptoCard
end Rows
end Go.Proofs.YtfchinibjhcejaaDoor
