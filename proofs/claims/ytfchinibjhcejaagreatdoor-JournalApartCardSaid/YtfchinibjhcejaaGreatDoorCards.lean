/-
  DERIVED. GIVEN WITH THE SEED: THE CARDS: each row of YtfchinibjhcejaaGreatDoorRows.lean that lists a variable, with what it lists TIED to the program's text (the seventh form; the later family's looks); each row that meets fmt, with fmt's text TOLD by the authors' own Lean function (tested against real Go, not proved from fmt's source: count such statements apart). THE CARD IS WHAT COUNTS. Prove the row's statement (the work); the ties are given (YtfchinibjhcejaaGreatDoorTie.lean); close each card by the builder's one call (the guide's Derived/Test/ToyasCard.lean, 'card_holds'). Laid BY PROGRAM, IN A SANDBOX (cutbox-door.mjs). By AI agents, Wed Nov 11 2026. No macro, syntax, notation, axiom, sorry.
-/
import Derived.Test.YtfchinibjhcejaaGreatDoorRows
import GoSem.ClaimSeven
namespace Go.Proofs.YtfchinibjhcejaaGreatDoor
namespace Rows

/-- THE TIED CARD OF 'furrowlaw04.JournalApart'. -/
def journalApartCard : Claim7 := { stood := { row := journalApartRow, standIns := [], harness := (true, "e71a5478825aed34799c53636f79d9410cbc1acea7a50a14741e95b2501c00b8"), looks := true }, kinds := [], alts := [], laidByText := true, laidKinds := [.data], laidTests := true, laidLooks := .later }
def JournalApartCardSaid : Prop := Claim7.holds Tryz.pinned (.plain (OpenSpec.ofChange journalApartSpec)) journalApartCard

/-- THE TIED CARD OF 'furrowlaw04.JournalTaken'. -/
def journalTakenCard : Claim7 := { stood := { row := journalTakenRow, standIns := [], harness := (true, "e71a5478825aed34799c53636f79d9410cbc1acea7a50a14741e95b2501c00b8"), looks := true }, kinds := [], alts := [], laidByText := true, laidKinds := [.data], laidTests := true, laidLooks := .later }
def JournalTakenCardSaid : Prop := Claim7.holds Tryz.pinned (.plain (OpenSpec.ofChange journalTakenSpec)) journalTakenCard

/-- THE TIED CARD OF 'furrowlaw04.JournalWhole'. -/
def journalWholeCard : Claim7 := { stood := { row := journalWholeRow, standIns := [], harness := (true, "e71a5478825aed34799c53636f79d9410cbc1acea7a50a14741e95b2501c00b8"), looks := true }, kinds := [], alts := [], laidByText := true, laidKinds := [.data], laidTests := true, laidLooks := .later }
def JournalWholeCardSaid : Prop := Claim7.holds Tryz.pinned (.plain (OpenSpec.ofChange journalWholeSpec)) journalWholeCard

/-- THE TIED CARD OF 'furrowlaw04.JournalCommits'. -/
def journalCommitsCard : Claim7 := { stood := { row := journalCommitsRow, standIns := [], harness := (true, "e71a5478825aed34799c53636f79d9410cbc1acea7a50a14741e95b2501c00b8"), looks := true }, kinds := [], alts := [], laidByText := true, laidKinds := [.data], laidTests := true, laidLooks := .later }
def JournalCommitsCardSaid : Prop := Claim7.holds Tryz.pinned (.plain (OpenSpec.ofChange journalCommitsSpec)) journalCommitsCard

/-- THE TIED CARD OF 'furrowlaw04.JournalReads'. -/
def journalReadsCard : Claim7 := { stood := { row := journalReadsRow, standIns := [], harness := (true, "e71a5478825aed34799c53636f79d9410cbc1acea7a50a14741e95b2501c00b8"), looks := true }, kinds := [], alts := [], laidByText := true, laidKinds := [.data], laidTests := true, laidLooks := .later }
def JournalReadsCardSaid : Prop := Claim7.holds Tryz.pinned (.plain (OpenSpec.ofChange journalReadsSpec)) journalReadsCard

/-- THE TIED CARD OF 'furrowlaw04.JournalRecovers'. -/
def journalRecoversCard : Claim7 := { stood := { row := journalRecoversRow, standIns := [], harness := (true, "e71a5478825aed34799c53636f79d9410cbc1acea7a50a14741e95b2501c00b8"), looks := true }, kinds := [], alts := [], laidByText := true, laidKinds := [.data], laidTests := true, laidLooks := .later }
def JournalRecoversCardSaid : Prop := Claim7.holds Tryz.pinned (.plain (OpenSpec.ofChange journalRecoversSpec)) journalRecoversCard

/-- THE TIED CARD OF 'furrowlaw04.JournalAll'. -/
def journalAllCard : Claim7 := { stood := { row := journalAllRow, standIns := [], harness := (true, "e71a5478825aed34799c53636f79d9410cbc1acea7a50a14741e95b2501c00b8"), looks := true }, kinds := [], alts := [], laidByText := true, laidKinds := [.data], laidTests := true, laidLooks := .later }
def JournalAllCardSaid : Prop := Claim7.holds Tryz.pinned (.plain (OpenSpec.ofChange journalAllSpec)) journalAllCard

/-- THE TIED CARD OF 'furrowlaw04.JournalAgain'. -/
def journalAgainCard : Claim7 := { stood := { row := journalAgainRow, standIns := [], harness := (true, "e71a5478825aed34799c53636f79d9410cbc1acea7a50a14741e95b2501c00b8"), looks := true }, kinds := [], alts := [], laidByText := true, laidKinds := [.data], laidTests := true, laidLooks := .later }
def JournalAgainCardSaid : Prop := Claim7.holds Tryz.pinned (.plain (OpenSpec.ofChange journalAgainSpec)) journalAgainCard

/-- THE SECOND FORM's CARD OF 'furrowlaw04.JournalApart'. -/
def journalApartUptoCard : Claim7 := { stood := { row := journalApartUptoRow, standIns := [], harness := (true, "e71a5478825aed34799c53636f79d9410cbc1acea7a50a14741e95b2501c00b8"), looks := true }, kinds := [], alts := [], laidByText := true, laidKinds := [.data], laidTests := true, laidLooks := .later }
def JournalApartUptoCardSaid : Prop := Claim7.holds Tryz.pinned (.plain (OpenSpec.upto journalApartSpec)) journalApartUptoCard

/-- THE SECOND FORM's CARD OF 'furrowlaw04.JournalTaken'. -/
def journalTakenUptoCard : Claim7 := { stood := { row := journalTakenUptoRow, standIns := [], harness := (true, "e71a5478825aed34799c53636f79d9410cbc1acea7a50a14741e95b2501c00b8"), looks := true }, kinds := [], alts := [], laidByText := true, laidKinds := [.data], laidTests := true, laidLooks := .later }
def JournalTakenUptoCardSaid : Prop := Claim7.holds Tryz.pinned (.plain (OpenSpec.upto journalTakenSpec)) journalTakenUptoCard

/-- THE SECOND FORM's CARD OF 'furrowlaw04.JournalWhole'. -/
def journalWholeUptoCard : Claim7 := { stood := { row := journalWholeUptoRow, standIns := [], harness := (true, "e71a5478825aed34799c53636f79d9410cbc1acea7a50a14741e95b2501c00b8"), looks := true }, kinds := [], alts := [], laidByText := true, laidKinds := [.data], laidTests := true, laidLooks := .later }
def JournalWholeUptoCardSaid : Prop := Claim7.holds Tryz.pinned (.plain (OpenSpec.upto journalWholeSpec)) journalWholeUptoCard

/-- THE SECOND FORM's CARD OF 'furrowlaw04.JournalCommits'. -/
def journalCommitsUptoCard : Claim7 := { stood := { row := journalCommitsUptoRow, standIns := [], harness := (true, "e71a5478825aed34799c53636f79d9410cbc1acea7a50a14741e95b2501c00b8"), looks := true }, kinds := [], alts := [], laidByText := true, laidKinds := [.data], laidTests := true, laidLooks := .later }
def JournalCommitsUptoCardSaid : Prop := Claim7.holds Tryz.pinned (.plain (OpenSpec.upto journalCommitsSpec)) journalCommitsUptoCard

/-- THE SECOND FORM's CARD OF 'furrowlaw04.JournalReads'. -/
def journalReadsUptoCard : Claim7 := { stood := { row := journalReadsUptoRow, standIns := [], harness := (true, "e71a5478825aed34799c53636f79d9410cbc1acea7a50a14741e95b2501c00b8"), looks := true }, kinds := [], alts := [], laidByText := true, laidKinds := [.data], laidTests := true, laidLooks := .later }
def JournalReadsUptoCardSaid : Prop := Claim7.holds Tryz.pinned (.plain (OpenSpec.upto journalReadsSpec)) journalReadsUptoCard

/-- THE SECOND FORM's CARD OF 'furrowlaw04.JournalRecovers'. -/
def journalRecoversUptoCard : Claim7 := { stood := { row := journalRecoversUptoRow, standIns := [], harness := (true, "e71a5478825aed34799c53636f79d9410cbc1acea7a50a14741e95b2501c00b8"), looks := true }, kinds := [], alts := [], laidByText := true, laidKinds := [.data], laidTests := true, laidLooks := .later }
def JournalRecoversUptoCardSaid : Prop := Claim7.holds Tryz.pinned (.plain (OpenSpec.upto journalRecoversSpec)) journalRecoversUptoCard

/-- THE SECOND FORM's CARD OF 'furrowlaw04.JournalAll'. -/
def journalAllUptoCard : Claim7 := { stood := { row := journalAllUptoRow, standIns := [], harness := (true, "e71a5478825aed34799c53636f79d9410cbc1acea7a50a14741e95b2501c00b8"), looks := true }, kinds := [], alts := [], laidByText := true, laidKinds := [.data], laidTests := true, laidLooks := .later }
def JournalAllUptoCardSaid : Prop := Claim7.holds Tryz.pinned (.plain (OpenSpec.upto journalAllSpec)) journalAllUptoCard

/-- THE SECOND FORM's CARD OF 'furrowlaw04.JournalAgain'. -/
def journalAgainUptoCard : Claim7 := { stood := { row := journalAgainUptoRow, standIns := [], harness := (true, "e71a5478825aed34799c53636f79d9410cbc1acea7a50a14741e95b2501c00b8"), looks := true }, kinds := [], alts := [], laidByText := true, laidKinds := [.data], laidTests := true, laidLooks := .later }
def JournalAgainUptoCardSaid : Prop := Claim7.holds Tryz.pinned (.plain (OpenSpec.upto journalAgainSpec)) journalAgainUptoCard
end Rows
end Go.Proofs.YtfchinibjhcejaaGreatDoor
