/-
  NARROWER THAN 'FOR EVERY INPUT', by the rows' own cells (each row's printed sentence says how): SavedTurned: laid · SavedBelieved: laid · SavedApart: laid · SavedMany: laid · SavedCut: laid · SavedFound: laid.
  DERIVED. THE GIVEN ROWS OF THIS SEAT. 6 by the template 'for every input the law returns true; each argument reads behind the call as it read before'; 0 by the template 'total and deterministic' (their statements: YtpihenmdkoojdaaDoorTotals.lean).
  GIVEN WITH THE SEED: the statements are not yours to turn. If you find one false, say at which input.
  Laid BY PROGRAM, IN A SANDBOX (cutbox-rows.mjs): the forced cells as the released guide's own fill.sh prints them over the translation e80ae5fc981ee832… (all of the seat's roots in one cut). By AI agents, Wed Nov 11 2026. No macro, syntax, notation, axiom, sorry.
-/
import Derived.Test.YtpihenmdkoojdaaDoorChecked
import GoSem.Claim
import GoSem.ClaimJoined
import GoSem.ClaimMapViews
import Derived.JoinedTies
import Derived.KernelRfl
namespace Go.Proofs.YtpihenmdkoojdaaDoor
/- THE CELL 'sum', in the pinned program and in every row, IS THE sha256 OF THE DUMP (.gsa) THAT YtpihenmdkoojdaaDoorProg.lean LOADS. Nothing in Lean hashes anything: it is a label: what it is worth is what the hold of that sum in a sandbox is worth. -/
noncomputable def Tryd.pinned : Pinned := { name := "ytpihenmdkoojdaadoor", sum := "e80ae5fc981ee832fa38df54852c2d81c7a59a6405ba2a31dc29d0eae5479a33", checked := Tryd.checked }
namespace Rows
def none {H : Type} : Left H := { results := [], args := [] }

/- WHAT THE LISTED PACKAGE-LEVEL VARIABLES READ AS WHEN THE CALL BEGINS. Each datum BY PROGRAM (the guide's laid-datum.mjs) off the statement by which the dump's own 'gosem.cut.vars' lays the variable. In a bare row this is a premise. The card (YtpihenmdkoojdaaDoorCards.lean) ties it to the program's text. -/
def laid_furrow_codec_steps {H : Type} : DataW H := .agg [.lit (.int .u32 0), .lit (.int .u32 498536548), .lit (.int .u32 997073096), .lit (.int .u32 651767980), .lit (.int .u32 1994146192), .lit (.int .u32 1802195444), .lit (.int .u32 1303535960), .lit (.int .u32 1342533948), .lit (.int .u32 3988292384), .lit (.int .u32 4027552580), .lit (.int .u32 3604390888), .lit (.int .u32 3412177804), .lit (.int .u32 2607071920), .lit (.int .u32 2262029012), .lit (.int .u32 2685067896), .lit (.int .u32 3183342108)]

/-- 'furrowlaw13.SavedTurned': WHATEVER THE INPUT: true; the input reads as it did. -/
def savedTurnedSpec : ChangeSpec := { name := "savedTurned", fn := fun _ => fun
  | [d1, d2, d3] => { results := [.lit (.bool true)], args := [d1, d2, d3] }
  | _ => none }
def savedTurnedRow : OpenClaim := { program := "ytpihenmdkoojdaadoor", sum := "e80ae5fc981ee832fa38df54852c2d81c7a59a6405ba2a31dc29d0eae5479a33", func := "furrow/furrowlaw13.SavedTurned", spec := "savedTurned", unfollowed := true, recurses := true, named := ["furrow/codec.steps"], apart := false, laid := [("furrow/codec.steps", laid_furrow_codec_steps)] }
def SavedTurnedSaid : Prop := savedTurnedRow.holds Tryd.pinned (OpenSpec.ofChange savedTurnedSpec)

/-- ITS FALSE NEIGHBOUR: 'it returns false'. Refute it at one input. -/
def savedTurnedWrong : ChangeSpec := { name := "savedTurned", fn := fun _ => fun
  | [d1, d2, d3] => { results := [.lit (.bool false)], args := [d1, d2, d3] }
  | _ => none }
def SavedTurnedWrongFalsely : Prop := savedTurnedRow.holds Tryd.pinned (OpenSpec.ofChange savedTurnedWrong)

/-- 'furrowlaw13.SavedBelieved': WHATEVER THE INPUT: true; the input reads as it did. -/
def savedBelievedSpec : ChangeSpec := { name := "savedBelieved", fn := fun _ => fun
  | [d1, d2, d3] => { results := [.lit (.bool true)], args := [d1, d2, d3] }
  | _ => none }
def savedBelievedRow : OpenClaim := { program := "ytpihenmdkoojdaadoor", sum := "e80ae5fc981ee832fa38df54852c2d81c7a59a6405ba2a31dc29d0eae5479a33", func := "furrow/furrowlaw13.SavedBelieved", spec := "savedBelieved", unfollowed := true, recurses := true, named := ["furrow/codec.steps"], apart := false, laid := [("furrow/codec.steps", laid_furrow_codec_steps)] }
def SavedBelievedSaid : Prop := savedBelievedRow.holds Tryd.pinned (OpenSpec.ofChange savedBelievedSpec)

/-- ITS FALSE NEIGHBOUR: 'it returns false'. Refute it at one input. -/
def savedBelievedWrong : ChangeSpec := { name := "savedBelieved", fn := fun _ => fun
  | [d1, d2, d3] => { results := [.lit (.bool false)], args := [d1, d2, d3] }
  | _ => none }
def SavedBelievedWrongFalsely : Prop := savedBelievedRow.holds Tryd.pinned (OpenSpec.ofChange savedBelievedWrong)

/-- 'furrowlaw13.SavedApart': WHATEVER THE INPUT: true; the input reads as it did. -/
def savedApartSpec : ChangeSpec := { name := "savedApart", fn := fun _ => fun
  | [d] => { results := [.lit (.bool true)], args := [d] }
  | _ => none }
def savedApartRow : OpenClaim := { program := "ytpihenmdkoojdaadoor", sum := "e80ae5fc981ee832fa38df54852c2d81c7a59a6405ba2a31dc29d0eae5479a33", func := "furrow/furrowlaw13.SavedApart", spec := "savedApart", unfollowed := true, recurses := true, named := ["furrow/codec.steps"], apart := false, laid := [("furrow/codec.steps", laid_furrow_codec_steps)] }
def SavedApartSaid : Prop := savedApartRow.holds Tryd.pinned (OpenSpec.ofChange savedApartSpec)

/-- ITS FALSE NEIGHBOUR: 'it returns false'. Refute it at one input. -/
def savedApartWrong : ChangeSpec := { name := "savedApart", fn := fun _ => fun
  | [d] => { results := [.lit (.bool false)], args := [d] }
  | _ => none }
def SavedApartWrongFalsely : Prop := savedApartRow.holds Tryd.pinned (OpenSpec.ofChange savedApartWrong)

/-- 'furrowlaw13.SavedMany': WHATEVER THE INPUT: true; the input reads as it did. -/
def savedManySpec : ChangeSpec := { name := "savedMany", fn := fun _ => fun
  | [d] => { results := [.lit (.bool true)], args := [d] }
  | _ => none }
def savedManyRow : OpenClaim := { program := "ytpihenmdkoojdaadoor", sum := "e80ae5fc981ee832fa38df54852c2d81c7a59a6405ba2a31dc29d0eae5479a33", func := "furrow/furrowlaw13.SavedMany", spec := "savedMany", unfollowed := true, recurses := true, named := ["furrow/codec.steps"], apart := false, laid := [("furrow/codec.steps", laid_furrow_codec_steps)] }
def SavedManySaid : Prop := savedManyRow.holds Tryd.pinned (OpenSpec.ofChange savedManySpec)

/-- ITS FALSE NEIGHBOUR: 'it returns false'. Refute it at one input. -/
def savedManyWrong : ChangeSpec := { name := "savedMany", fn := fun _ => fun
  | [d] => { results := [.lit (.bool false)], args := [d] }
  | _ => none }
def SavedManyWrongFalsely : Prop := savedManyRow.holds Tryd.pinned (OpenSpec.ofChange savedManyWrong)

/-- 'furrowlaw13.SavedCut': WHATEVER THE INPUT: true; the input reads as it did. -/
def savedCutSpec : ChangeSpec := { name := "savedCut", fn := fun _ => fun
  | [d] => { results := [.lit (.bool true)], args := [d] }
  | _ => none }
def savedCutRow : OpenClaim := { program := "ytpihenmdkoojdaadoor", sum := "e80ae5fc981ee832fa38df54852c2d81c7a59a6405ba2a31dc29d0eae5479a33", func := "furrow/furrowlaw13.SavedCut", spec := "savedCut", unfollowed := true, recurses := true, named := ["furrow/codec.steps"], apart := false, laid := [("furrow/codec.steps", laid_furrow_codec_steps)] }
def SavedCutSaid : Prop := savedCutRow.holds Tryd.pinned (OpenSpec.ofChange savedCutSpec)

/-- ITS FALSE NEIGHBOUR: 'it returns false'. Refute it at one input. -/
def savedCutWrong : ChangeSpec := { name := "savedCut", fn := fun _ => fun
  | [d] => { results := [.lit (.bool false)], args := [d] }
  | _ => none }
def SavedCutWrongFalsely : Prop := savedCutRow.holds Tryd.pinned (OpenSpec.ofChange savedCutWrong)

/-- 'furrowlaw13.SavedFound': WHATEVER THE INPUT: true; the input reads as it did. -/
def savedFoundSpec : ChangeSpec := { name := "savedFound", fn := fun _ => fun
  | [d] => { results := [.lit (.bool true)], args := [d] }
  | _ => none }
def savedFoundRow : OpenClaim := { program := "ytpihenmdkoojdaadoor", sum := "e80ae5fc981ee832fa38df54852c2d81c7a59a6405ba2a31dc29d0eae5479a33", func := "furrow/furrowlaw13.SavedFound", spec := "savedFound", unfollowed := true, recurses := true, named := ["furrow/codec.steps"], apart := false, laid := [("furrow/codec.steps", laid_furrow_codec_steps)] }
def SavedFoundSaid : Prop := savedFoundRow.holds Tryd.pinned (OpenSpec.ofChange savedFoundSpec)

/-- ITS FALSE NEIGHBOUR: 'it returns false'. Refute it at one input. -/
def savedFoundWrong : ChangeSpec := { name := "savedFound", fn := fun _ => fun
  | [d] => { results := [.lit (.bool false)], args := [d] }
  | _ => none }
def SavedFoundWrongFalsely : Prop := savedFoundRow.holds Tryd.pinned (OpenSpec.ofChange savedFoundWrong)

/- THE SECOND FORM. 'bulk': how many values and letters a reading holds, each counted each time it is reached (what is shared counts as often as it is met; a slice's spare places count too). A statement '..UptoSaid' is the law's where the arguments, and the package variables that the reading takes, are together of bulk at most 1048576: NARROWER than '..Said'. Prove '..Said' where nothing that the law and all that it calls make is longer than what came in: it says more and counts as full. Else prove '..UptoSaid'. A law counts once. -/
mutual
def uptoBulk {H : Type} : DataW H → Nat
  | .lit (.string bytes) => bytes.length + 1
  | .lit _ => 1
  | .nil => 1
  | .ptr d => uptoBulk d + 1
  | .slice elems spare => uptoBulkAll elems + uptoBulkAll spare + 1
  | .agg parts => uptoBulkAll parts + 1
  | .iface _ d => uptoBulk d + 1
  | .map entries => uptoBulkEntries entries + 1
  | .held _ => 1
def uptoBulkAll {H : Type} : List (DataW H) → Nat
  | [] => 0
  | d :: r => uptoBulk d + uptoBulkAll r
def uptoBulkEntries {H : Type} : List (Lit × DataW H) → Nat
  | [] => 0
  | x :: r => uptoBulkEntry x + uptoBulkEntries r
def uptoBulkEntry {H : Type} : Lit × DataW H → Nat
  | (.string bytes, d) => bytes.length + uptoBulk d + 1
  | (_, d) => uptoBulk d + 1
 end
def uptoSmall : (H : Type) → List (DataW H) → Bool := fun _ ds => decide (uptoBulkAll ds ≤ 1048576)
def OpenSpec.upto (s : _root_.Go.ChangeSpec) : _root_.Go.OpenSpec := { _root_.Go.OpenSpec.ofChange s with cond := some uptoSmall }

/-- 'furrowlaw13.SavedTurned', WHERE WHAT IT READS IS OF BULK AT MOST 1048576: true; the input reads as it did. -/
def savedTurnedUptoRow : OpenClaim := { program := "ytpihenmdkoojdaadoor", sum := "e80ae5fc981ee832fa38df54852c2d81c7a59a6405ba2a31dc29d0eae5479a33", func := "furrow/furrowlaw13.SavedTurned", spec := "savedTurned", unfollowed := true, recurses := true, named := ["furrow/codec.steps"], apart := false, laid := [("furrow/codec.steps", laid_furrow_codec_steps)], narrowed := true }
def SavedTurnedUptoSaid : Prop := savedTurnedUptoRow.holds Tryd.pinned (OpenSpec.upto savedTurnedSpec)

/-- 'furrowlaw13.SavedBelieved', WHERE WHAT IT READS IS OF BULK AT MOST 1048576: true; the input reads as it did. -/
def savedBelievedUptoRow : OpenClaim := { program := "ytpihenmdkoojdaadoor", sum := "e80ae5fc981ee832fa38df54852c2d81c7a59a6405ba2a31dc29d0eae5479a33", func := "furrow/furrowlaw13.SavedBelieved", spec := "savedBelieved", unfollowed := true, recurses := true, named := ["furrow/codec.steps"], apart := false, laid := [("furrow/codec.steps", laid_furrow_codec_steps)], narrowed := true }
def SavedBelievedUptoSaid : Prop := savedBelievedUptoRow.holds Tryd.pinned (OpenSpec.upto savedBelievedSpec)

/-- 'furrowlaw13.SavedApart', WHERE WHAT IT READS IS OF BULK AT MOST 1048576: true; the input reads as it did. -/
def savedApartUptoRow : OpenClaim := { program := "ytpihenmdkoojdaadoor", sum := "e80ae5fc981ee832fa38df54852c2d81c7a59a6405ba2a31dc29d0eae5479a33", func := "furrow/furrowlaw13.SavedApart", spec := "savedApart", unfollowed := true, recurses := true, named := ["furrow/codec.steps"], apart := false, laid := [("furrow/codec.steps", laid_furrow_codec_steps)], narrowed := true }
def SavedApartUptoSaid : Prop := savedApartUptoRow.holds Tryd.pinned (OpenSpec.upto savedApartSpec)

/-- 'furrowlaw13.SavedMany', WHERE WHAT IT READS IS OF BULK AT MOST 1048576: true; the input reads as it did. -/
def savedManyUptoRow : OpenClaim := { program := "ytpihenmdkoojdaadoor", sum := "e80ae5fc981ee832fa38df54852c2d81c7a59a6405ba2a31dc29d0eae5479a33", func := "furrow/furrowlaw13.SavedMany", spec := "savedMany", unfollowed := true, recurses := true, named := ["furrow/codec.steps"], apart := false, laid := [("furrow/codec.steps", laid_furrow_codec_steps)], narrowed := true }
def SavedManyUptoSaid : Prop := savedManyUptoRow.holds Tryd.pinned (OpenSpec.upto savedManySpec)

/-- 'furrowlaw13.SavedCut', WHERE WHAT IT READS IS OF BULK AT MOST 1048576: true; the input reads as it did. -/
def savedCutUptoRow : OpenClaim := { program := "ytpihenmdkoojdaadoor", sum := "e80ae5fc981ee832fa38df54852c2d81c7a59a6405ba2a31dc29d0eae5479a33", func := "furrow/furrowlaw13.SavedCut", spec := "savedCut", unfollowed := true, recurses := true, named := ["furrow/codec.steps"], apart := false, laid := [("furrow/codec.steps", laid_furrow_codec_steps)], narrowed := true }
def SavedCutUptoSaid : Prop := savedCutUptoRow.holds Tryd.pinned (OpenSpec.upto savedCutSpec)

/-- 'furrowlaw13.SavedFound', WHERE WHAT IT READS IS OF BULK AT MOST 1048576: true; the input reads as it did. -/
def savedFoundUptoRow : OpenClaim := { program := "ytpihenmdkoojdaadoor", sum := "e80ae5fc981ee832fa38df54852c2d81c7a59a6405ba2a31dc29d0eae5479a33", func := "furrow/furrowlaw13.SavedFound", spec := "savedFound", unfollowed := true, recurses := true, named := ["furrow/codec.steps"], apart := false, laid := [("furrow/codec.steps", laid_furrow_codec_steps)], narrowed := true }
def SavedFoundUptoSaid : Prop := savedFoundUptoRow.holds Tryd.pinned (OpenSpec.upto savedFoundSpec)

end Rows
end Go.Proofs.YtpihenmdkoojdaaDoor
