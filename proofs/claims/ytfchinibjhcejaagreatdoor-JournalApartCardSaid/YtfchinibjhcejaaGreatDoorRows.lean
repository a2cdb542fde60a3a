/-
  NARROWER THAN 'FOR EVERY INPUT', by the rows' own cells (each row's printed sentence says how): JournalApart: laid · JournalTaken: laid · JournalWhole: laid · JournalCommits: laid · JournalReads: laid · JournalRecovers: laid · JournalAll: laid · JournalAgain: laid.
  DERIVED. THE GIVEN ROWS OF THIS SEAT. 8 by the template 'for every input the law returns true; each argument reads behind the call as it read before'; 0 by the template 'total and deterministic' (their statements: YtfchinibjhcejaaGreatDoorTotals.lean).
  GIVEN WITH THE SEED: the statements are not yours to turn. If you find one false, say at which input.
  Laid BY PROGRAM, IN A SANDBOX (cutbox-rows.mjs): the forced cells as the released guide's own fill.sh prints them over the translation 7641cacfd626007b… (all of the seat's roots in one cut). By AI agents, Wed Nov 11 2026. No macro, syntax, notation, axiom, sorry.
-/
import Derived.Test.YtfchinibjhcejaaGreatDoorChecked
import GoSem.Claim
import GoSem.ClaimJoined
import GoSem.ClaimMapViews
import Derived.JoinedTies
import Derived.KernelRfl
namespace Go.Proofs.YtfchinibjhcejaaGreatDoor
/- THE CELL 'sum', in the pinned program and in every row, IS THE sha256 OF THE DUMP (.gsa) THAT YtfchinibjhcejaaGreatDoorProg.lean LOADS. Nothing in Lean hashes anything: it is a label: what it is worth is what the hold of that sum in a sandbox is worth. -/
noncomputable def Tryz.pinned : Pinned := { name := "ytfchinibjhcejaagreatdoor", sum := "7641cacfd626007b9138784fb764e5dcc89e94e62cae3af1974c18f0e8c0292d", checked := Tryz.checked }
namespace Rows
def none {H : Type} : Left H := { results := [], args := [] }

/- WHAT THE LISTED PACKAGE-LEVEL VARIABLES READ AS WHEN THE CALL BEGINS. Each datum BY PROGRAM (the guide's laid-datum.mjs) off the statement by which the dump's own 'gosem.cut.vars' lays the variable. In a bare row this is a premise. The card (YtfchinibjhcejaaGreatDoorCards.lean) ties it to the program's text. -/
def laid_furrow_codec_steps {H : Type} : DataW H := .agg [.lit (.int .u32 0), .lit (.int .u32 498536548), .lit (.int .u32 997073096), .lit (.int .u32 651767980), .lit (.int .u32 1994146192), .lit (.int .u32 1802195444), .lit (.int .u32 1303535960), .lit (.int .u32 1342533948), .lit (.int .u32 3988292384), .lit (.int .u32 4027552580), .lit (.int .u32 3604390888), .lit (.int .u32 3412177804), .lit (.int .u32 2607071920), .lit (.int .u32 2262029012), .lit (.int .u32 2685067896), .lit (.int .u32 3183342108)]

/-- 'furrowlaw04.JournalApart': WHATEVER THE INPUT: true; the input reads as it did. -/
def journalApartSpec : ChangeSpec := { name := "journalApart", fn := fun _ => fun
  | [d1, d2, d3] => { results := [.lit (.bool true)], args := [d1, d2, d3] }
  | _ => none }
def journalApartRow : OpenClaim := { program := "ytfchinibjhcejaagreatdoor", sum := "7641cacfd626007b9138784fb764e5dcc89e94e62cae3af1974c18f0e8c0292d", func := "furrow/furrowlaw04.JournalApart", spec := "journalApart", unfollowed := true, recurses := true, named := ["furrow/codec.steps"], apart := false, laid := [("furrow/codec.steps", laid_furrow_codec_steps)] }
def JournalApartSaid : Prop := journalApartRow.holds Tryz.pinned (OpenSpec.ofChange journalApartSpec)

/-- ITS FALSE NEIGHBOUR: 'it returns false'. Refute it at one input. -/
def journalApartWrong : ChangeSpec := { name := "journalApart", fn := fun _ => fun
  | [d1, d2, d3] => { results := [.lit (.bool false)], args := [d1, d2, d3] }
  | _ => none }
def JournalApartWrongFalsely : Prop := journalApartRow.holds Tryz.pinned (OpenSpec.ofChange journalApartWrong)

/-- 'furrowlaw04.JournalTaken': WHATEVER THE INPUT: true; the input reads as it did. -/
def journalTakenSpec : ChangeSpec := { name := "journalTaken", fn := fun _ => fun
  | [d1, d2] => { results := [.lit (.bool true)], args := [d1, d2] }
  | _ => none }
def journalTakenRow : OpenClaim := { program := "ytfchinibjhcejaagreatdoor", sum := "7641cacfd626007b9138784fb764e5dcc89e94e62cae3af1974c18f0e8c0292d", func := "furrow/furrowlaw04.JournalTaken", spec := "journalTaken", unfollowed := true, recurses := true, named := ["furrow/codec.steps"], apart := false, laid := [("furrow/codec.steps", laid_furrow_codec_steps)] }
def JournalTakenSaid : Prop := journalTakenRow.holds Tryz.pinned (OpenSpec.ofChange journalTakenSpec)

/-- ITS FALSE NEIGHBOUR: 'it returns false'. Refute it at one input. -/
def journalTakenWrong : ChangeSpec := { name := "journalTaken", fn := fun _ => fun
  | [d1, d2] => { results := [.lit (.bool false)], args := [d1, d2] }
  | _ => none }
def JournalTakenWrongFalsely : Prop := journalTakenRow.holds Tryz.pinned (OpenSpec.ofChange journalTakenWrong)

/-- 'furrowlaw04.JournalWhole': WHATEVER THE INPUT: true; the input reads as it did. -/
def journalWholeSpec : ChangeSpec := { name := "journalWhole", fn := fun _ => fun
  | [d1, d2, d3] => { results := [.lit (.bool true)], args := [d1, d2, d3] }
  | _ => none }
def journalWholeRow : OpenClaim := { program := "ytfchinibjhcejaagreatdoor", sum := "7641cacfd626007b9138784fb764e5dcc89e94e62cae3af1974c18f0e8c0292d", func := "furrow/furrowlaw04.JournalWhole", spec := "journalWhole", unfollowed := true, recurses := true, named := ["furrow/codec.steps"], apart := false, laid := [("furrow/codec.steps", laid_furrow_codec_steps)] }
def JournalWholeSaid : Prop := journalWholeRow.holds Tryz.pinned (OpenSpec.ofChange journalWholeSpec)

/-- ITS FALSE NEIGHBOUR: 'it returns false'. Refute it at one input. -/
def journalWholeWrong : ChangeSpec := { name := "journalWhole", fn := fun _ => fun
  | [d1, d2, d3] => { results := [.lit (.bool false)], args := [d1, d2, d3] }
  | _ => none }
def JournalWholeWrongFalsely : Prop := journalWholeRow.holds Tryz.pinned (OpenSpec.ofChange journalWholeWrong)

/-- 'furrowlaw04.JournalCommits': WHATEVER THE INPUT: true; the input reads as it did. -/
def journalCommitsSpec : ChangeSpec := { name := "journalCommits", fn := fun _ => fun
  | [d1, d2] => { results := [.lit (.bool true)], args := [d1, d2] }
  | _ => none }
def journalCommitsRow : OpenClaim := { program := "ytfchinibjhcejaagreatdoor", sum := "7641cacfd626007b9138784fb764e5dcc89e94e62cae3af1974c18f0e8c0292d", func := "furrow/furrowlaw04.JournalCommits", spec := "journalCommits", unfollowed := true, recurses := true, named := ["furrow/codec.steps"], apart := false, laid := [("furrow/codec.steps", laid_furrow_codec_steps)] }
def JournalCommitsSaid : Prop := journalCommitsRow.holds Tryz.pinned (OpenSpec.ofChange journalCommitsSpec)

/-- ITS FALSE NEIGHBOUR: 'it returns false'. Refute it at one input. -/
def journalCommitsWrong : ChangeSpec := { name := "journalCommits", fn := fun _ => fun
  | [d1, d2] => { results := [.lit (.bool false)], args := [d1, d2] }
  | _ => none }
def JournalCommitsWrongFalsely : Prop := journalCommitsRow.holds Tryz.pinned (OpenSpec.ofChange journalCommitsWrong)

/-- 'furrowlaw04.JournalReads': WHATEVER THE INPUT: true; the input reads as it did. -/
def journalReadsSpec : ChangeSpec := { name := "journalReads", fn := fun _ => fun
  | [d1, d2] => { results := [.lit (.bool true)], args := [d1, d2] }
  | _ => none }
def journalReadsRow : OpenClaim := { program := "ytfchinibjhcejaagreatdoor", sum := "7641cacfd626007b9138784fb764e5dcc89e94e62cae3af1974c18f0e8c0292d", func := "furrow/furrowlaw04.JournalReads", spec := "journalReads", unfollowed := true, recurses := true, named := ["furrow/codec.steps"], apart := false, laid := [("furrow/codec.steps", laid_furrow_codec_steps)] }
def JournalReadsSaid : Prop := journalReadsRow.holds Tryz.pinned (OpenSpec.ofChange journalReadsSpec)

/-- ITS FALSE NEIGHBOUR: 'it returns false'. Refute it at one input. -/
def journalReadsWrong : ChangeSpec := { name := "journalReads", fn := fun _ => fun
  | [d1, d2] => { results := [.lit (.bool false)], args := [d1, d2] }
  | _ => none }
def JournalReadsWrongFalsely : Prop := journalReadsRow.holds Tryz.pinned (OpenSpec.ofChange journalReadsWrong)

/-- 'furrowlaw04.JournalRecovers': WHATEVER THE INPUT: true; the input reads as it did. -/
def journalRecoversSpec : ChangeSpec := { name := "journalRecovers", fn := fun _ => fun
  | [d1, d2] => { results := [.lit (.bool true)], args := [d1, d2] }
  | _ => none }
def journalRecoversRow : OpenClaim := { program := "ytfchinibjhcejaagreatdoor", sum := "7641cacfd626007b9138784fb764e5dcc89e94e62cae3af1974c18f0e8c0292d", func := "furrow/furrowlaw04.JournalRecovers", spec := "journalRecovers", unfollowed := true, recurses := true, named := ["furrow/codec.steps"], apart := false, laid := [("furrow/codec.steps", laid_furrow_codec_steps)] }
def JournalRecoversSaid : Prop := journalRecoversRow.holds Tryz.pinned (OpenSpec.ofChange journalRecoversSpec)

/-- ITS FALSE NEIGHBOUR: 'it returns false'. Refute it at one input. -/
def journalRecoversWrong : ChangeSpec := { name := "journalRecovers", fn := fun _ => fun
  | [d1, d2] => { results := [.lit (.bool false)], args := [d1, d2] }
  | _ => none }
def JournalRecoversWrongFalsely : Prop := journalRecoversRow.holds Tryz.pinned (OpenSpec.ofChange journalRecoversWrong)

/-- 'furrowlaw04.JournalAll': WHATEVER THE INPUT: true; the input reads as it did. -/
def journalAllSpec : ChangeSpec := { name := "journalAll", fn := fun _ => fun
  | [d1, d2] => { results := [.lit (.bool true)], args := [d1, d2] }
  | _ => none }
def journalAllRow : OpenClaim := { program := "ytfchinibjhcejaagreatdoor", sum := "7641cacfd626007b9138784fb764e5dcc89e94e62cae3af1974c18f0e8c0292d", func := "furrow/furrowlaw04.JournalAll", spec := "journalAll", unfollowed := true, recurses := true, named := ["furrow/codec.steps"], apart := false, laid := [("furrow/codec.steps", laid_furrow_codec_steps)] }
def JournalAllSaid : Prop := journalAllRow.holds Tryz.pinned (OpenSpec.ofChange journalAllSpec)

/-- ITS FALSE NEIGHBOUR: 'it returns false'. Refute it at one input. -/
def journalAllWrong : ChangeSpec := { name := "journalAll", fn := fun _ => fun
  | [d1, d2] => { results := [.lit (.bool false)], args := [d1, d2] }
  | _ => none }
def JournalAllWrongFalsely : Prop := journalAllRow.holds Tryz.pinned (OpenSpec.ofChange journalAllWrong)

/-- 'furrowlaw04.JournalAgain': WHATEVER THE INPUT: true; the input reads as it did. -/
def journalAgainSpec : ChangeSpec := { name := "journalAgain", fn := fun _ => fun
  | [d1, d2, d3] => { results := [.lit (.bool true)], args := [d1, d2, d3] }
  | _ => none }
def journalAgainRow : OpenClaim := { program := "ytfchinibjhcejaagreatdoor", sum := "7641cacfd626007b9138784fb764e5dcc89e94e62cae3af1974c18f0e8c0292d", func := "furrow/furrowlaw04.JournalAgain", spec := "journalAgain", unfollowed := true, recurses := true, named := ["furrow/codec.steps"], apart := false, laid := [("furrow/codec.steps", laid_furrow_codec_steps)] }
def JournalAgainSaid : Prop := journalAgainRow.holds Tryz.pinned (OpenSpec.ofChange journalAgainSpec)

/-- ITS FALSE NEIGHBOUR: 'it returns false'. Refute it at one input. -/
def journalAgainWrong : ChangeSpec := { name := "journalAgain", fn := fun _ => fun
  | [d1, d2, d3] => { results := [.lit (.bool false)], args := [d1, d2, d3] }
  | _ => none }
def JournalAgainWrongFalsely : Prop := journalAgainRow.holds Tryz.pinned (OpenSpec.ofChange journalAgainWrong)

/- THE SECOND FORM. 'bulk': how many values and letters a reading holds, each counted each time it is reached (what is shared counts as often as it is met; a slice's spare places count too). A statement '..UptoSaid' is the law's where the arguments, and the package variables that the reading takes, are together of bulk at most 1048576: NARROWER than '..Said'. Prove '..Said' where nothing that the law and all that it calls make is longer than what came in: it says more and counts as full. Else prove '..UptoSaid'. A law counts once. -/
mutual
def uptoBulk {H : Type} : DataW H → Nat
  | .lit (.string bytes) => bytes.length + 1
  | .lit _ => 1
  | .nil => 1
  | .ptr d => uptoBulk d + 1
  | .slice elems spare => uptoBulkAll elems + uptoBulkAll spare + 1
  | .agg parts => uptoBulkAll parts + 1
  | .iface _ d => uptoBulk d + 1
  | .map entries => uptoBulkEntries entries + 1
  | .held _ => 1
def uptoBulkAll {H : Type} : List (DataW H) → Nat
  | [] => 0
  | d :: r => uptoBulk d + uptoBulkAll r
def uptoBulkEntries {H : Type} : List (Lit × DataW H) → Nat
  | [] => 0
  | x :: r => uptoBulkEntry x + uptoBulkEntries r
def uptoBulkEntry {H : Type} : Lit × DataW H → Nat
  | (.string bytes, d) => bytes.length + uptoBulk d + 1
  | (_, d) => uptoBulk d + 1
 end
def uptoSmall : (H : Type) → List (DataW H) → Bool := fun _ ds => decide (uptoBulkAll ds ≤ 1048576)
def OpenSpec.upto (s : _root_.Go.ChangeSpec) : _root_.Go.OpenSpec := { _root_.Go.OpenSpec.ofChange s with cond := some uptoSmall }

/-- 'furrowlaw04.JournalApart', WHERE WHAT IT READS IS OF BULK AT MOST 1048576: true; the input reads as it did. -/
def journalApartUptoRow : OpenClaim := { program := "ytfchinibjhcejaagreatdoor", sum := "7641cacfd626007b9138784fb764e5dcc89e94e62cae3af1974c18f0e8c0292d", func := "furrow/furrowlaw04.JournalApart", spec := "journalApart", unfollowed := true, recurses := true, named := ["furrow/codec.steps"], apart := false, laid := [("furrow/codec.steps", laid_furrow_codec_steps)], narrowed := true }
def JournalApartUptoSaid : Prop := journalApartUptoRow.holds Tryz.pinned (OpenSpec.upto journalApartSpec)

/-- 'furrowlaw04.JournalTaken', WHERE WHAT IT READS IS OF BULK AT MOST 1048576: true; the input reads as it did. -/
def journalTakenUptoRow : OpenClaim := { program := "ytfchinibjhcejaagreatdoor", sum := "7641cacfd626007b9138784fb764e5dcc89e94e62cae3af1974c18f0e8c0292d", func := "furrow/furrowlaw04.JournalTaken", spec := "journalTaken", unfollowed := true, recurses := true, named := ["furrow/codec.steps"], apart := false, laid := [("furrow/codec.steps", laid_furrow_codec_steps)], narrowed := true }
def JournalTakenUptoSaid : Prop := journalTakenUptoRow.holds Tryz.pinned (OpenSpec.upto journalTakenSpec)

/-- 'furrowlaw04.JournalWhole', WHERE WHAT IT READS IS OF BULK AT MOST 1048576: true; the input reads as it did. -/
def journalWholeUptoRow : OpenClaim := { program := "ytfchinibjhcejaagreatdoor", sum := "7641cacfd626007b9138784fb764e5dcc89e94e62cae3af1974c18f0e8c0292d", func := "furrow/furrowlaw04.JournalWhole", spec := "journalWhole", unfollowed := true, recurses := true, named := ["furrow/codec.steps"], apart := false, laid := [("furrow/codec.steps", laid_furrow_codec_steps)], narrowed := true }
def JournalWholeUptoSaid : Prop := journalWholeUptoRow.holds Tryz.pinned (OpenSpec.upto journalWholeSpec)

/-- 'furrowlaw04.JournalCommits', WHERE WHAT IT READS IS OF BULK AT MOST 1048576: true; the input reads as it did. -/
def journalCommitsUptoRow : OpenClaim := { program := "ytfchinibjhcejaagreatdoor", sum := "7641cacfd626007b9138784fb764e5dcc89e94e62cae3af1974c18f0e8c0292d", func := "furrow/furrowlaw04.JournalCommits", spec := "journalCommits", unfollowed := true, recurses := true, named := ["furrow/codec.steps"], apart := false, laid := [("furrow/codec.steps", laid_furrow_codec_steps)], narrowed := true }
def JournalCommitsUptoSaid : Prop := journalCommitsUptoRow.holds Tryz.pinned (OpenSpec.upto journalCommitsSpec)

/-- 'furrowlaw04.JournalReads', WHERE WHAT IT READS IS OF BULK AT MOST 1048576: true; the input reads as it did. -/
def journalReadsUptoRow : OpenClaim := { program := "ytfchinibjhcejaagreatdoor", sum := "7641cacfd626007b9138784fb764e5dcc89e94e62cae3af1974c18f0e8c0292d", func := "furrow/furrowlaw04.JournalReads", spec := "journalReads", unfollowed := true, recurses := true, named := ["furrow/codec.steps"], apart := false, laid := [("furrow/codec.steps", laid_furrow_codec_steps)], narrowed := true }
def JournalReadsUptoSaid : Prop := journalReadsUptoRow.holds Tryz.pinned (OpenSpec.upto journalReadsSpec)

/-- 'furrowlaw04.JournalRecovers', WHERE WHAT IT READS IS OF BULK AT MOST 1048576: true; the input reads as it did. -/
def journalRecoversUptoRow : OpenClaim := { program := "ytfchinibjhcejaagreatdoor", sum := "7641cacfd626007b9138784fb764e5dcc89e94e62cae3af1974c18f0e8c0292d", func := "furrow/furrowlaw04.JournalRecovers", spec := "journalRecovers", unfollowed := true, recurses := true, named := ["furrow/codec.steps"], apart := false, laid := [("furrow/codec.steps", laid_furrow_codec_steps)], narrowed := true }
def JournalRecoversUptoSaid : Prop := journalRecoversUptoRow.holds Tryz.pinned (OpenSpec.upto journalRecoversSpec)

/-- 'furrowlaw04.JournalAll', WHERE WHAT IT READS IS OF BULK AT MOST 1048576: true; the input reads as it did. -/
def journalAllUptoRow : OpenClaim := { program := "ytfchinibjhcejaagreatdoor", sum := "7641cacfd626007b9138784fb764e5dcc89e94e62cae3af1974c18f0e8c0292d", func := "furrow/furrowlaw04.JournalAll", spec := "journalAll", unfollowed := true, recurses := true, named := ["furrow/codec.steps"], apart := false, laid := [("furrow/codec.steps", laid_furrow_codec_steps)], narrowed := true }
def JournalAllUptoSaid : Prop := journalAllUptoRow.holds Tryz.pinned (OpenSpec.upto journalAllSpec)

/-- 'furrowlaw04.JournalAgain', WHERE WHAT IT READS IS OF BULK AT MOST 1048576: true; the input reads as it did. -/
def journalAgainUptoRow : OpenClaim := { program := "ytfchinibjhcejaagreatdoor", sum := "7641cacfd626007b9138784fb764e5dcc89e94e62cae3af1974c18f0e8c0292d", func := "furrow/furrowlaw04.JournalAgain", spec := "journalAgain", unfollowed := true, recurses := true, named := ["furrow/codec.steps"], apart := false, laid := [("furrow/codec.steps", laid_furrow_codec_steps)], narrowed := true }
def JournalAgainUptoSaid : Prop := journalAgainUptoRow.holds Tryz.pinned (OpenSpec.upto journalAgainSpec)

end Rows
end Go.Proofs.YtfchinibjhcejaaGreatDoor
