/-
  NARROWER THAN 'FOR EVERY INPUT', by the rows' own cells (each row's printed sentence says how): LayoutFits: laid · LayoutSupers: laid · LayoutHeaders: laid · LayoutHeaderHolds: laid · LayoutFinds: laid · LayoutSuperHolds: laid · LayoutSlots: laid · LayoutSaveds: laid · LayoutSlotHolds: laid · LayoutSavedHolds: laid · LayoutEntries: laid · LayoutEntryHolds: laid · LayoutUndos: laid · LayoutUndoHolds: laid · IlogNeeds: laid · IlogChanges: laid · IlogTurns: laid.
  DERIVED. THE GIVEN ROWS OF THIS SEAT. 17 by the template 'for every input the law returns true; each argument reads behind the call as it read before'; 0 by the template 'total and deterministic' (their statements: YtoiebgnmknbkjaaDoorTotals.lean).
  GIVEN WITH THE SEED: the statements are not yours to turn. If you find one false, say at which input.
  Laid BY PROGRAM, IN A SANDBOX (cutbox-rows.mjs): the forced cells as the released guide's own fill.sh prints them over the translation 1a35bf2f6ec8cc5c… (all of the seat's roots in one cut). By AI agents, Wed Nov 11 2026. No macro, syntax, notation, axiom, sorry.
-/
import Derived.Test.YtoiebgnmknbkjaaDoorChecked
import GoSem.Claim
import GoSem.ClaimJoined
import GoSem.ClaimMapViews
import Derived.JoinedTies
import Derived.KernelRfl
namespace Go.Proofs.YtoiebgnmknbkjaaDoor
/- THE CELL 'sum', in the pinned program and in every row, IS THE sha256 OF THE DUMP (.gsa) THAT YtoiebgnmknbkjaaDoorProg.lean LOADS. Nothing in Lean hashes anything: it is a label: what it is worth is what the hold of that sum in a sandbox is worth. -/
noncomputable def Tryd.pinned : Pinned := { name := "ytoiebgnmknbkjaadoor", sum := "1a35bf2f6ec8cc5c807f6dec88f298de49d573eccf26d40c9d73c2687b963a14", checked := Tryd.checked }
namespace Rows
def none {H : Type} : Left H := { results := [], args := [] }

/- WHAT THE LISTED PACKAGE-LEVEL VARIABLES READ AS WHEN THE CALL BEGINS. Each datum BY PROGRAM (the guide's laid-datum.mjs) off the statement by which the dump's own 'gosem.cut.vars' lays the variable. In a bare row this is a premise. The card (YtoiebgnmknbkjaaDoorCards.lean) ties it to the program's text. -/
def laid_furrow_codec_steps {H : Type} : DataW H := .agg [.lit (.int .u32 0), .lit (.int .u32 498536548), .lit (.int .u32 997073096), .lit (.int .u32 651767980), .lit (.int .u32 1994146192), .lit (.int .u32 1802195444), .lit (.int .u32 1303535960), .lit (.int .u32 1342533948), .lit (.int .u32 3988292384), .lit (.int .u32 4027552580), .lit (.int .u32 3604390888), .lit (.int .u32 3412177804), .lit (.int .u32 2607071920), .lit (.int .u32 2262029012), .lit (.int .u32 2685067896), .lit (.int .u32 3183342108)]

/-- 'furrowlaw03.LayoutFits': WHATEVER THE INPUT: true; the input reads as it did. -/
def layoutFitsSpec : ChangeSpec := { name := "layoutFits", fn := fun _ => fun
  | [d1, d2] => { results := [.lit (.bool true)], args := [d1, d2] }
  | _ => none }
def layoutFitsRow : OpenClaim := { program := "ytoiebgnmknbkjaadoor", sum := "1a35bf2f6ec8cc5c807f6dec88f298de49d573eccf26d40c9d73c2687b963a14", func := "furrow/furrowlaw03.LayoutFits", spec := "layoutFits", named := ["furrow/codec.steps"], apart := false, laid := [("furrow/codec.steps", laid_furrow_codec_steps)] }
def LayoutFitsSaid : Prop := layoutFitsRow.holds Tryd.pinned (OpenSpec.ofChange layoutFitsSpec)

/-- ITS FALSE NEIGHBOUR: 'it returns false'. Refute it at one input. -/
def layoutFitsWrong : ChangeSpec := { name := "layoutFits", fn := fun _ => fun
  | [d1, d2] => { results := [.lit (.bool false)], args := [d1, d2] }
  | _ => none }
def LayoutFitsWrongFalsely : Prop := layoutFitsRow.holds Tryd.pinned (OpenSpec.ofChange layoutFitsWrong)

/-- 'furrowlaw03.LayoutSupers': WHATEVER THE INPUT: true; the input reads as it did. -/
def layoutSupersSpec : ChangeSpec := { name := "layoutSupers", fn := fun _ => fun
  | [d] => { results := [.lit (.bool true)], args := [d] }
  | _ => none }
def layoutSupersRow : OpenClaim := { program := "ytoiebgnmknbkjaadoor", sum := "1a35bf2f6ec8cc5c807f6dec88f298de49d573eccf26d40c9d73c2687b963a14", func := "furrow/furrowlaw03.LayoutSupers", spec := "layoutSupers", named := ["furrow/codec.steps"], apart := false, laid := [("furrow/codec.steps", laid_furrow_codec_steps)] }
def LayoutSupersSaid : Prop := layoutSupersRow.holds Tryd.pinned (OpenSpec.ofChange layoutSupersSpec)

/-- ITS FALSE NEIGHBOUR: 'it returns false'. Refute it at one input. -/
def layoutSupersWrong : ChangeSpec := { name := "layoutSupers", fn := fun _ => fun
  | [d] => { results := [.lit (.bool false)], args := [d] }
  | _ => none }
def LayoutSupersWrongFalsely : Prop := layoutSupersRow.holds Tryd.pinned (OpenSpec.ofChange layoutSupersWrong)

/-- 'furrowlaw03.LayoutHeaders': WHATEVER THE INPUT: true; the input reads as it did. -/
def layoutHeadersSpec : ChangeSpec := { name := "layoutHeaders", fn := fun _ => fun
  | [d1, d2, d3] => { results := [.lit (.bool true)], args := [d1, d2, d3] }
  | _ => none }
def layoutHeadersRow : OpenClaim := { program := "ytoiebgnmknbkjaadoor", sum := "1a35bf2f6ec8cc5c807f6dec88f298de49d573eccf26d40c9d73c2687b963a14", func := "furrow/furrowlaw03.LayoutHeaders", spec := "layoutHeaders", named := ["furrow/codec.steps"], apart := false, laid := [("furrow/codec.steps", laid_furrow_codec_steps)] }
def LayoutHeadersSaid : Prop := layoutHeadersRow.holds Tryd.pinned (OpenSpec.ofChange layoutHeadersSpec)

/-- ITS FALSE NEIGHBOUR: 'it returns false'. Refute it at one input. -/
def layoutHeadersWrong : ChangeSpec := { name := "layoutHeaders", fn := fun _ => fun
  | [d1, d2, d3] => { results := [.lit (.bool false)], args := [d1, d2, d3] }
  | _ => none }
def LayoutHeadersWrongFalsely : Prop := layoutHeadersRow.holds Tryd.pinned (OpenSpec.ofChange layoutHeadersWrong)

/-- 'furrowlaw03.LayoutHeaderHolds': WHATEVER THE INPUT: true; the input reads as it did. -/
def layoutHeaderHoldsSpec : ChangeSpec := { name := "layoutHeaderHolds", fn := fun _ => fun
  | [d1, d2] => { results := [.lit (.bool true)], args := [d1, d2] }
  | _ => none }
def layoutHeaderHoldsRow : OpenClaim := { program := "ytoiebgnmknbkjaadoor", sum := "1a35bf2f6ec8cc5c807f6dec88f298de49d573eccf26d40c9d73c2687b963a14", func := "furrow/furrowlaw03.LayoutHeaderHolds", spec := "layoutHeaderHolds", named := ["furrow/codec.steps"], apart := false, laid := [("furrow/codec.steps", laid_furrow_codec_steps)] }
def LayoutHeaderHoldsSaid : Prop := layoutHeaderHoldsRow.holds Tryd.pinned (OpenSpec.ofChange layoutHeaderHoldsSpec)

/-- ITS FALSE NEIGHBOUR: 'it returns false'. Refute it at one input. -/
def layoutHeaderHoldsWrong : ChangeSpec := { name := "layoutHeaderHolds", fn := fun _ => fun
  | [d1, d2] => { results := [.lit (.bool false)], args := [d1, d2] }
  | _ => none }
def LayoutHeaderHoldsWrongFalsely : Prop := layoutHeaderHoldsRow.holds Tryd.pinned (OpenSpec.ofChange layoutHeaderHoldsWrong)

/-- 'furrowlaw03.LayoutFinds': WHATEVER THE INPUT: true; the input reads as it did. -/
def layoutFindsSpec : ChangeSpec := { name := "layoutFinds", fn := fun _ => fun
  | [d] => { results := [.lit (.bool true)], args := [d] }
  | _ => none }
def layoutFindsRow : OpenClaim := { program := "ytoiebgnmknbkjaadoor", sum := "1a35bf2f6ec8cc5c807f6dec88f298de49d573eccf26d40c9d73c2687b963a14", func := "furrow/furrowlaw03.LayoutFinds", spec := "layoutFinds", named := ["furrow/codec.steps"], apart := false, laid := [("furrow/codec.steps", laid_furrow_codec_steps)] }
def LayoutFindsSaid : Prop := layoutFindsRow.holds Tryd.pinned (OpenSpec.ofChange layoutFindsSpec)

/-- ITS FALSE NEIGHBOUR: 'it returns false'. Refute it at one input. -/
def layoutFindsWrong : ChangeSpec := { name := "layoutFinds", fn := fun _ => fun
  | [d] => { results := [.lit (.bool false)], args := [d] }
  | _ => none }
def LayoutFindsWrongFalsely : Prop := layoutFindsRow.holds Tryd.pinned (OpenSpec.ofChange layoutFindsWrong)

/-- 'furrowlaw03.LayoutSuperHolds': WHATEVER THE INPUT: true; the input reads as it did. -/
def layoutSuperHoldsSpec : ChangeSpec := { name := "layoutSuperHolds", fn := fun _ => fun
  | [d1, d2, d3] => { results := [.lit (.bool true)], args := [d1, d2, d3] }
  | _ => none }
def layoutSuperHoldsRow : OpenClaim := { program := "ytoiebgnmknbkjaadoor", sum := "1a35bf2f6ec8cc5c807f6dec88f298de49d573eccf26d40c9d73c2687b963a14", func := "furrow/furrowlaw03.LayoutSuperHolds", spec := "layoutSuperHolds", named := ["furrow/codec.steps"], apart := false, laid := [("furrow/codec.steps", laid_furrow_codec_steps)] }
def LayoutSuperHoldsSaid : Prop := layoutSuperHoldsRow.holds Tryd.pinned (OpenSpec.ofChange layoutSuperHoldsSpec)

/-- ITS FALSE NEIGHBOUR: 'it returns false'. Refute it at one input. -/
def layoutSuperHoldsWrong : ChangeSpec := { name := "layoutSuperHolds", fn := fun _ => fun
  | [d1, d2, d3] => { results := [.lit (.bool false)], args := [d1, d2, d3] }
  | _ => none }
def LayoutSuperHoldsWrongFalsely : Prop := layoutSuperHoldsRow.holds Tryd.pinned (OpenSpec.ofChange layoutSuperHoldsWrong)

/-- 'furrowlaw03.LayoutSlots': WHATEVER THE INPUT: true; the input reads as it did. -/
def layoutSlotsSpec : ChangeSpec := { name := "layoutSlots", fn := fun _ => fun
  | [d1, d2, d3] => { results := [.lit (.bool true)], args := [d1, d2, d3] }
  | _ => none }
def layoutSlotsRow : OpenClaim := { program := "ytoiebgnmknbkjaadoor", sum := "1a35bf2f6ec8cc5c807f6dec88f298de49d573eccf26d40c9d73c2687b963a14", func := "furrow/furrowlaw03.LayoutSlots", spec := "layoutSlots", named := ["furrow/codec.steps"], apart := false, laid := [("furrow/codec.steps", laid_furrow_codec_steps)] }
def LayoutSlotsSaid : Prop := layoutSlotsRow.holds Tryd.pinned (OpenSpec.ofChange layoutSlotsSpec)

/-- ITS FALSE NEIGHBOUR: 'it returns false'. Refute it at one input. -/
def layoutSlotsWrong : ChangeSpec := { name := "layoutSlots", fn := fun _ => fun
  | [d1, d2, d3] => { results := [.lit (.bool false)], args := [d1, d2, d3] }
  | _ => none }
def LayoutSlotsWrongFalsely : Prop := layoutSlotsRow.holds Tryd.pinned (OpenSpec.ofChange layoutSlotsWrong)

/-- 'furrowlaw03.LayoutSaveds': WHATEVER THE INPUT: true; the input reads as it did. -/
def layoutSavedsSpec : ChangeSpec := { name := "layoutSaveds", fn := fun _ => fun
  | [d1, d2] => { results := [.lit (.bool true)], args := [d1, d2] }
  | _ => none }
def layoutSavedsRow : OpenClaim := { program := "ytoiebgnmknbkjaadoor", sum := "1a35bf2f6ec8cc5c807f6dec88f298de49d573eccf26d40c9d73c2687b963a14", func := "furrow/furrowlaw03.LayoutSaveds", spec := "layoutSaveds", named := ["furrow/codec.steps"], apart := false, laid := [("furrow/codec.steps", laid_furrow_codec_steps)] }
def LayoutSavedsSaid : Prop := layoutSavedsRow.holds Tryd.pinned (OpenSpec.ofChange layoutSavedsSpec)

/-- ITS FALSE NEIGHBOUR: 'it returns false'. Refute it at one input. -/
def layoutSavedsWrong : ChangeSpec := { name := "layoutSaveds", fn := fun _ => fun
  | [d1, d2] => { results := [.lit (.bool false)], args := [d1, d2] }
  | _ => none }
def LayoutSavedsWrongFalsely : Prop := layoutSavedsRow.holds Tryd.pinned (OpenSpec.ofChange layoutSavedsWrong)

/-- 'furrowlaw03.LayoutSlotHolds': WHATEVER THE INPUT: true; the input reads as it did. -/
def layoutSlotHoldsSpec : ChangeSpec := { name := "layoutSlotHolds", fn := fun _ => fun
  | [d] => { results := [.lit (.bool true)], args := [d] }
  | _ => none }
def layoutSlotHoldsRow : OpenClaim := { program := "ytoiebgnmknbkjaadoor", sum := "1a35bf2f6ec8cc5c807f6dec88f298de49d573eccf26d40c9d73c2687b963a14", func := "furrow/furrowlaw03.LayoutSlotHolds", spec := "layoutSlotHolds", named := ["furrow/codec.steps"], apart := false, laid := [("furrow/codec.steps", laid_furrow_codec_steps)] }
def LayoutSlotHoldsSaid : Prop := layoutSlotHoldsRow.holds Tryd.pinned (OpenSpec.ofChange layoutSlotHoldsSpec)

/-- ITS FALSE NEIGHBOUR: 'it returns false'. Refute it at one input. -/
def layoutSlotHoldsWrong : ChangeSpec := { name := "layoutSlotHolds", fn := fun _ => fun
  | [d] => { results := [.lit (.bool false)], args := [d] }
  | _ => none }
def LayoutSlotHoldsWrongFalsely : Prop := layoutSlotHoldsRow.holds Tryd.pinned (OpenSpec.ofChange layoutSlotHoldsWrong)

/-- 'furrowlaw03.LayoutSavedHolds': WHATEVER THE INPUT: true; the input reads as it did. -/
def layoutSavedHoldsSpec : ChangeSpec := { name := "layoutSavedHolds", fn := fun _ => fun
  | [d1, d2, d3] => { results := [.lit (.bool true)], args := [d1, d2, d3] }
  | _ => none }
def layoutSavedHoldsRow : OpenClaim := { program := "ytoiebgnmknbkjaadoor", sum := "1a35bf2f6ec8cc5c807f6dec88f298de49d573eccf26d40c9d73c2687b963a14", func := "furrow/furrowlaw03.LayoutSavedHolds", spec := "layoutSavedHolds", named := ["furrow/codec.steps"], apart := false, laid := [("furrow/codec.steps", laid_furrow_codec_steps)] }
def LayoutSavedHoldsSaid : Prop := layoutSavedHoldsRow.holds Tryd.pinned (OpenSpec.ofChange layoutSavedHoldsSpec)

/-- ITS FALSE NEIGHBOUR: 'it returns false'. Refute it at one input. -/
def layoutSavedHoldsWrong : ChangeSpec := { name := "layoutSavedHolds", fn := fun _ => fun
  | [d1, d2, d3] => { results := [.lit (.bool false)], args := [d1, d2, d3] }
  | _ => none }
def LayoutSavedHoldsWrongFalsely : Prop := layoutSavedHoldsRow.holds Tryd.pinned (OpenSpec.ofChange layoutSavedHoldsWrong)

/-- 'furrowlaw03.LayoutEntries': WHATEVER THE INPUT: true; the input reads as it did. -/
def layoutEntriesSpec : ChangeSpec := { name := "layoutEntries", fn := fun _ => fun
  | [d1, d2] => { results := [.lit (.bool true)], args := [d1, d2] }
  | _ => none }
def layoutEntriesRow : OpenClaim := { program := "ytoiebgnmknbkjaadoor", sum := "1a35bf2f6ec8cc5c807f6dec88f298de49d573eccf26d40c9d73c2687b963a14", func := "furrow/furrowlaw03.LayoutEntries", spec := "layoutEntries", named := ["furrow/codec.steps"], apart := false, laid := [("furrow/codec.steps", laid_furrow_codec_steps)] }
def LayoutEntriesSaid : Prop := layoutEntriesRow.holds Tryd.pinned (OpenSpec.ofChange layoutEntriesSpec)

/-- ITS FALSE NEIGHBOUR: 'it returns false'. Refute it at one input. -/
def layoutEntriesWrong : ChangeSpec := { name := "layoutEntries", fn := fun _ => fun
  | [d1, d2] => { results := [.lit (.bool false)], args := [d1, d2] }
  | _ => none }
def LayoutEntriesWrongFalsely : Prop := layoutEntriesRow.holds Tryd.pinned (OpenSpec.ofChange layoutEntriesWrong)

/-- 'furrowlaw03.LayoutEntryHolds': WHATEVER THE INPUT: true; the input reads as it did. -/
def layoutEntryHoldsSpec : ChangeSpec := { name := "layoutEntryHolds", fn := fun _ => fun
  | [d1, d2] => { results := [.lit (.bool true)], args := [d1, d2] }
  | _ => none }
def layoutEntryHoldsRow : OpenClaim := { program := "ytoiebgnmknbkjaadoor", sum := "1a35bf2f6ec8cc5c807f6dec88f298de49d573eccf26d40c9d73c2687b963a14", func := "furrow/furrowlaw03.LayoutEntryHolds", spec := "layoutEntryHolds", named := ["furrow/codec.steps"], apart := false, laid := [("furrow/codec.steps", laid_furrow_codec_steps)] }
def LayoutEntryHoldsSaid : Prop := layoutEntryHoldsRow.holds Tryd.pinned (OpenSpec.ofChange layoutEntryHoldsSpec)

/-- ITS FALSE NEIGHBOUR: 'it returns false'. Refute it at one input. -/
def layoutEntryHoldsWrong : ChangeSpec := { name := "layoutEntryHolds", fn := fun _ => fun
  | [d1, d2] => { results := [.lit (.bool false)], args := [d1, d2] }
  | _ => none }
def LayoutEntryHoldsWrongFalsely : Prop := layoutEntryHoldsRow.holds Tryd.pinned (OpenSpec.ofChange layoutEntryHoldsWrong)

/-- 'furrowlaw03.LayoutUndos': WHATEVER THE INPUT: true; the input reads as it did. -/
def layoutUndosSpec : ChangeSpec := { name := "layoutUndos", fn := fun _ => fun
  | [d1, d2] => { results := [.lit (.bool true)], args := [d1, d2] }
  | _ => none }
def layoutUndosRow : OpenClaim := { program := "ytoiebgnmknbkjaadoor", sum := "1a35bf2f6ec8cc5c807f6dec88f298de49d573eccf26d40c9d73c2687b963a14", func := "furrow/furrowlaw03.LayoutUndos", spec := "layoutUndos", unfollowed := true, recurses := true, named := ["furrow/codec.steps"], apart := false, laid := [("furrow/codec.steps", laid_furrow_codec_steps)] }
def LayoutUndosSaid : Prop := layoutUndosRow.holds Tryd.pinned (OpenSpec.ofChange layoutUndosSpec)

/-- ITS FALSE NEIGHBOUR: 'it returns false'. Refute it at one input. -/
def layoutUndosWrong : ChangeSpec := { name := "layoutUndos", fn := fun _ => fun
  | [d1, d2] => { results := [.lit (.bool false)], args := [d1, d2] }
  | _ => none }
def LayoutUndosWrongFalsely : Prop := layoutUndosRow.holds Tryd.pinned (OpenSpec.ofChange layoutUndosWrong)

/-- 'furrowlaw03.LayoutUndoHolds': WHATEVER THE INPUT: true; the input reads as it did. -/
def layoutUndoHoldsSpec : ChangeSpec := { name := "layoutUndoHolds", fn := fun _ => fun
  | [d1, d2, d3] => { results := [.lit (.bool true)], args := [d1, d2, d3] }
  | _ => none }
def layoutUndoHoldsRow : OpenClaim := { program := "ytoiebgnmknbkjaadoor", sum := "1a35bf2f6ec8cc5c807f6dec88f298de49d573eccf26d40c9d73c2687b963a14", func := "furrow/furrowlaw03.LayoutUndoHolds", spec := "layoutUndoHolds", unfollowed := true, recurses := true, named := ["furrow/codec.steps"], apart := false, laid := [("furrow/codec.steps", laid_furrow_codec_steps)] }
def LayoutUndoHoldsSaid : Prop := layoutUndoHoldsRow.holds Tryd.pinned (OpenSpec.ofChange layoutUndoHoldsSpec)

/-- ITS FALSE NEIGHBOUR: 'it returns false'. Refute it at one input. -/
def layoutUndoHoldsWrong : ChangeSpec := { name := "layoutUndoHolds", fn := fun _ => fun
  | [d1, d2, d3] => { results := [.lit (.bool false)], args := [d1, d2, d3] }
  | _ => none }
def LayoutUndoHoldsWrongFalsely : Prop := layoutUndoHoldsRow.holds Tryd.pinned (OpenSpec.ofChange layoutUndoHoldsWrong)

/-- 'furrowlaw06.IlogNeeds': WHATEVER THE INPUT: true; the input reads as it did. -/
def ilogNeedsSpec : ChangeSpec := { name := "ilogNeeds", fn := fun _ => fun
  | [d1, d2] => { results := [.lit (.bool true)], args := [d1, d2] }
  | _ => none }
def ilogNeedsRow : OpenClaim := { program := "ytoiebgnmknbkjaadoor", sum := "1a35bf2f6ec8cc5c807f6dec88f298de49d573eccf26d40c9d73c2687b963a14", func := "furrow/furrowlaw06.IlogNeeds", spec := "ilogNeeds", named := ["furrow/codec.steps"], apart := false, laid := [("furrow/codec.steps", laid_furrow_codec_steps)] }
def IlogNeedsSaid : Prop := ilogNeedsRow.holds Tryd.pinned (OpenSpec.ofChange ilogNeedsSpec)

/-- ITS FALSE NEIGHBOUR: 'it returns false'. Refute it at one input. -/
def ilogNeedsWrong : ChangeSpec := { name := "ilogNeeds", fn := fun _ => fun
  | [d1, d2] => { results := [.lit (.bool false)], args := [d1, d2] }
  | _ => none }
def IlogNeedsWrongFalsely : Prop := ilogNeedsRow.holds Tryd.pinned (OpenSpec.ofChange ilogNeedsWrong)

/-- 'furrowlaw06.IlogChanges': WHATEVER THE INPUT: true; the input reads as it did. -/
def ilogChangesSpec : ChangeSpec := { name := "ilogChanges", fn := fun _ => fun
  | [d1, d2, d3] => { results := [.lit (.bool true)], args := [d1, d2, d3] }
  | _ => none }
def ilogChangesRow : OpenClaim := { program := "ytoiebgnmknbkjaadoor", sum := "1a35bf2f6ec8cc5c807f6dec88f298de49d573eccf26d40c9d73c2687b963a14", func := "furrow/furrowlaw06.IlogChanges", spec := "ilogChanges", named := ["furrow/codec.steps"], apart := false, laid := [("furrow/codec.steps", laid_furrow_codec_steps)] }
def IlogChangesSaid : Prop := ilogChangesRow.holds Tryd.pinned (OpenSpec.ofChange ilogChangesSpec)

/-- ITS FALSE NEIGHBOUR: 'it returns false'. Refute it at one input. -/
def ilogChangesWrong : ChangeSpec := { name := "ilogChanges", fn := fun _ => fun
  | [d1, d2, d3] => { results := [.lit (.bool false)], args := [d1, d2, d3] }
  | _ => none }
def IlogChangesWrongFalsely : Prop := ilogChangesRow.holds Tryd.pinned (OpenSpec.ofChange ilogChangesWrong)

/-- 'furrowlaw06.IlogTurns': WHATEVER THE INPUT: true; the input reads as it did. -/
def ilogTurnsSpec : ChangeSpec := { name := "ilogTurns", fn := fun _ => fun
  | [d1, d2, d3, d4] => { results := [.lit (.bool true)], args := [d1, d2, d3, d4] }
  | _ => none }
def ilogTurnsRow : OpenClaim := { program := "ytoiebgnmknbkjaadoor", sum := "1a35bf2f6ec8cc5c807f6dec88f298de49d573eccf26d40c9d73c2687b963a14", func := "furrow/furrowlaw06.IlogTurns", spec := "ilogTurns", named := ["furrow/codec.steps"], apart := false, laid := [("furrow/codec.steps", laid_furrow_codec_steps)] }
def IlogTurnsSaid : Prop := ilogTurnsRow.holds Tryd.pinned (OpenSpec.ofChange ilogTurnsSpec)

/-- ITS FALSE NEIGHBOUR: 'it returns false'. Refute it at one input. -/
def ilogTurnsWrong : ChangeSpec := { name := "ilogTurns", fn := fun _ => fun
  | [d1, d2, d3, d4] => { results := [.lit (.bool false)], args := [d1, d2, d3, d4] }
  | _ => none }
def IlogTurnsWrongFalsely : Prop := ilogTurnsRow.holds Tryd.pinned (OpenSpec.ofChange ilogTurnsWrong)

/- THE SECOND FORM. 'bulk': how many values and letters a reading holds, each counted each time it is reached (what is shared counts as often as it is met; a slice's spare places count too). A statement '..UptoSaid' is the law's where the arguments, and the package variables that the reading takes, are together of bulk at most 1048576: NARROWER than '..Said'. Prove '..Said' where nothing that the law and all that it calls make is longer than what came in: it says more and counts as full. Else prove '..UptoSaid'. A law counts once. -/
mutual
def uptoBulk {H : Type} : DataW H → Nat
  | .lit (.string bytes) => bytes.length + 1
  | .lit _ => 1
  | .nil => 1
  | .ptr d => uptoBulk d + 1
  | .slice elems spare => uptoBulkAll elems + uptoBulkAll spare + 1
  | .agg parts => uptoBulkAll parts + 1
  | .iface _ d => uptoBulk d + 1
  | .map entries => uptoBulkEntries entries + 1
  | .held _ => 1
def uptoBulkAll {H : Type} : List (DataW H) → Nat
  | [] => 0
  | d :: r => uptoBulk d + uptoBulkAll r
def uptoBulkEntries {H : Type} : List (Lit × DataW H) → Nat
  | [] => 0
  | x :: r => uptoBulkEntry x + uptoBulkEntries r
def uptoBulkEntry {H : Type} : Lit × DataW H → Nat
  | (.string bytes, d) => bytes.length + uptoBulk d + 1
  | (_, d) => uptoBulk d + 1
 end
def uptoSmall : (H : Type) → List (DataW H) → Bool := fun _ ds => decide (uptoBulkAll ds ≤ 1048576)
def OpenSpec.upto (s : _root_.Go.ChangeSpec) : _root_.Go.OpenSpec := { _root_.Go.OpenSpec.ofChange s with cond := some uptoSmall }

/-- 'furrowlaw03.LayoutFits', WHERE WHAT IT READS IS OF BULK AT MOST 1048576: true; the input reads as it did. -/
def layoutFitsUptoRow : OpenClaim := { program := "ytoiebgnmknbkjaadoor", sum := "1a35bf2f6ec8cc5c807f6dec88f298de49d573eccf26d40c9d73c2687b963a14", func := "furrow/furrowlaw03.LayoutFits", spec := "layoutFits", named := ["furrow/codec.steps"], apart := false, laid := [("furrow/codec.steps", laid_furrow_codec_steps)], narrowed := true }
def LayoutFitsUptoSaid : Prop := layoutFitsUptoRow.holds Tryd.pinned (OpenSpec.upto layoutFitsSpec)

/-- 'furrowlaw03.LayoutSupers', WHERE WHAT IT READS IS OF BULK AT MOST 1048576: true; the input reads as it did. -/
def layoutSupersUptoRow : OpenClaim := { program := "ytoiebgnmknbkjaadoor", sum := "1a35bf2f6ec8cc5c807f6dec88f298de49d573eccf26d40c9d73c2687b963a14", func := "furrow/furrowlaw03.LayoutSupers", spec := "layoutSupers", named := ["furrow/codec.steps"], apart := false, laid := [("furrow/codec.steps", laid_furrow_codec_steps)], narrowed := true }
def LayoutSupersUptoSaid : Prop := layoutSupersUptoRow.holds Tryd.pinned (OpenSpec.upto layoutSupersSpec)

/-- 'furrowlaw03.LayoutHeaders', WHERE WHAT IT READS IS OF BULK AT MOST 1048576: true; the input reads as it did. -/
def layoutHeadersUptoRow : OpenClaim := { program := "ytoiebgnmknbkjaadoor", sum := "1a35bf2f6ec8cc5c807f6dec88f298de49d573eccf26d40c9d73c2687b963a14", func := "furrow/furrowlaw03.LayoutHeaders", spec := "layoutHeaders", named := ["furrow/codec.steps"], apart := false, laid := [("furrow/codec.steps", laid_furrow_codec_steps)], narrowed := true }
def LayoutHeadersUptoSaid : Prop := layoutHeadersUptoRow.holds Tryd.pinned (OpenSpec.upto layoutHeadersSpec)

/-- 'furrowlaw03.LayoutHeaderHolds', WHERE WHAT IT READS IS OF BULK AT MOST 1048576: true; the input reads as it did. -/
def layoutHeaderHoldsUptoRow : OpenClaim := { program := "ytoiebgnmknbkjaadoor", sum := "1a35bf2f6ec8cc5c807f6dec88f298de49d573eccf26d40c9d73c2687b963a14", func := "furrow/furrowlaw03.LayoutHeaderHolds", spec := "layoutHeaderHolds", named := ["furrow/codec.steps"], apart := false, laid := [("furrow/codec.steps", laid_furrow_codec_steps)], narrowed := true }
def LayoutHeaderHoldsUptoSaid : Prop := layoutHeaderHoldsUptoRow.holds Tryd.pinned (OpenSpec.upto layoutHeaderHoldsSpec)

/-- 'furrowlaw03.LayoutFinds', WHERE WHAT IT READS IS OF BULK AT MOST 1048576: true; the input reads as it did. -/
def layoutFindsUptoRow : OpenClaim := { program := "ytoiebgnmknbkjaadoor", sum := "1a35bf2f6ec8cc5c807f6dec88f298de49d573eccf26d40c9d73c2687b963a14", func := "furrow/furrowlaw03.LayoutFinds", spec := "layoutFinds", named := ["furrow/codec.steps"], apart := false, laid := [("furrow/codec.steps", laid_furrow_codec_steps)], narrowed := true }
def LayoutFindsUptoSaid : Prop := layoutFindsUptoRow.holds Tryd.pinned (OpenSpec.upto layoutFindsSpec)

/-- 'furrowlaw03.LayoutSuperHolds', WHERE WHAT IT READS IS OF BULK AT MOST 1048576: true; the input reads as it did. -/
def layoutSuperHoldsUptoRow : OpenClaim := { program := "ytoiebgnmknbkjaadoor", sum := "1a35bf2f6ec8cc5c807f6dec88f298de49d573eccf26d40c9d73c2687b963a14", func := "furrow/furrowlaw03.LayoutSuperHolds", spec := "layoutSuperHolds", named := ["furrow/codec.steps"], apart := false, laid := [("furrow/codec.steps", laid_furrow_codec_steps)], narrowed := true }
def LayoutSuperHoldsUptoSaid : Prop := layoutSuperHoldsUptoRow.holds Tryd.pinned (OpenSpec.upto layoutSuperHoldsSpec)

/-- 'furrowlaw03.LayoutSlots', WHERE WHAT IT READS IS OF BULK AT MOST 1048576: true; the input reads as it did. -/
def layoutSlotsUptoRow : OpenClaim := { program := "ytoiebgnmknbkjaadoor", sum := "1a35bf2f6ec8cc5c807f6dec88f298de49d573eccf26d40c9d73c2687b963a14", func := "furrow/furrowlaw03.LayoutSlots", spec := "layoutSlots", named := ["furrow/codec.steps"], apart := false, laid := [("furrow/codec.steps", laid_furrow_codec_steps)], narrowed := true }
def LayoutSlotsUptoSaid : Prop := layoutSlotsUptoRow.holds Tryd.pinned (OpenSpec.upto layoutSlotsSpec)

/-- 'furrowlaw03.LayoutSaveds', WHERE WHAT IT READS IS OF BULK AT MOST 1048576: true; the input reads as it did. -/
def layoutSavedsUptoRow : OpenClaim := { program := "ytoiebgnmknbkjaadoor", sum := "1a35bf2f6ec8cc5c807f6dec88f298de49d573eccf26d40c9d73c2687b963a14", func := "furrow/furrowlaw03.LayoutSaveds", spec := "layoutSaveds", named := ["furrow/codec.steps"], apart := false, laid := [("furrow/codec.steps", laid_furrow_codec_steps)], narrowed := true }
def LayoutSavedsUptoSaid : Prop := layoutSavedsUptoRow.holds Tryd.pinned (OpenSpec.upto layoutSavedsSpec)

/-- 'furrowlaw03.LayoutSlotHolds', WHERE WHAT IT READS IS OF BULK AT MOST 1048576: true; the input reads as it did. -/
def layoutSlotHoldsUptoRow : OpenClaim := { program := "ytoiebgnmknbkjaadoor", sum := "1a35bf2f6ec8cc5c807f6dec88f298de49d573eccf26d40c9d73c2687b963a14", func := "furrow/furrowlaw03.LayoutSlotHolds", spec := "layoutSlotHolds", named := ["furrow/codec.steps"], apart := false, laid := [("furrow/codec.steps", laid_furrow_codec_steps)], narrowed := true }
def LayoutSlotHoldsUptoSaid : Prop := layoutSlotHoldsUptoRow.holds Tryd.pinned (OpenSpec.upto layoutSlotHoldsSpec)

/-- 'furrowlaw03.LayoutSavedHolds', WHERE WHAT IT READS IS OF BULK AT MOST 1048576: true; the input reads as it did. -/
def layoutSavedHoldsUptoRow : OpenClaim := { program := "ytoiebgnmknbkjaadoor", sum := "1a35bf2f6ec8cc5c807f6dec88f298de49d573eccf26d40c9d73c2687b963a14", func := "furrow/furrowlaw03.LayoutSavedHolds", spec := "layoutSavedHolds", named := ["furrow/codec.steps"], apart := false, laid := [("furrow/codec.steps", laid_furrow_codec_steps)], narrowed := true }
def LayoutSavedHoldsUptoSaid : Prop := layoutSavedHoldsUptoRow.holds Tryd.pinned (OpenSpec.upto layoutSavedHoldsSpec)

/-- 'furrowlaw03.LayoutEntries', WHERE WHAT IT READS IS OF BULK AT MOST 1048576: true; the input reads as it did. -/
def layoutEntriesUptoRow : OpenClaim := { program := "ytoiebgnmknbkjaadoor", sum := "1a35bf2f6ec8cc5c807f6dec88f298de49d573eccf26d40c9d73c2687b963a14", func := "furrow/furrowlaw03.LayoutEntries", spec := "layoutEntries", named := ["furrow/codec.steps"], apart := false, laid := [("furrow/codec.steps", laid_furrow_codec_steps)], narrowed := true }
def LayoutEntriesUptoSaid : Prop := layoutEntriesUptoRow.holds Tryd.pinned (OpenSpec.upto layoutEntriesSpec)

/-- 'furrowlaw03.LayoutEntryHolds', WHERE WHAT IT READS IS OF BULK AT MOST 1048576: true; the input reads as it did. -/
def layoutEntryHoldsUptoRow : OpenClaim := { program := "ytoiebgnmknbkjaadoor", sum := "1a35bf2f6ec8cc5c807f6dec88f298de49d573eccf26d40c9d73c2687b963a14", func := "furrow/furrowlaw03.LayoutEntryHolds", spec := "layoutEntryHolds", named := ["furrow/codec.steps"], apart := false, laid := [("furrow/codec.steps", laid_furrow_codec_steps)], narrowed := true }
def LayoutEntryHoldsUptoSaid : Prop := layoutEntryHoldsUptoRow.holds Tryd.pinned (OpenSpec.upto layoutEntryHoldsSpec)

/-- 'furrowlaw03.LayoutUndos', WHERE WHAT IT READS IS OF BULK AT MOST 1048576: true; the input reads as it did. -/
def layoutUndosUptoRow : OpenClaim := { program := "ytoiebgnmknbkjaadoor", sum := "1a35bf2f6ec8cc5c807f6dec88f298de49d573eccf26d40c9d73c2687b963a14", func := "furrow/furrowlaw03.LayoutUndos", spec := "layoutUndos", unfollowed := true, recurses := true, named := ["furrow/codec.steps"], apart := false, laid := [("furrow/codec.steps", laid_furrow_codec_steps)], narrowed := true }
def LayoutUndosUptoSaid : Prop := layoutUndosUptoRow.holds Tryd.pinned (OpenSpec.upto layoutUndosSpec)

/-- 'furrowlaw03.LayoutUndoHolds', WHERE WHAT IT READS IS OF BULK AT MOST 1048576: true; the input reads as it did. -/
def layoutUndoHoldsUptoRow : OpenClaim := { program := "ytoiebgnmknbkjaadoor", sum := "1a35bf2f6ec8cc5c807f6dec88f298de49d573eccf26d40c9d73c2687b963a14", func := "furrow/furrowlaw03.LayoutUndoHolds", spec := "layoutUndoHolds", unfollowed := true, recurses := true, named := ["furrow/codec.steps"], apart := false, laid := [("furrow/codec.steps", laid_furrow_codec_steps)], narrowed := true }
def LayoutUndoHoldsUptoSaid : Prop := layoutUndoHoldsUptoRow.holds Tryd.pinned (OpenSpec.upto layoutUndoHoldsSpec)

/-- 'furrowlaw06.IlogNeeds', WHERE WHAT IT READS IS OF BULK AT MOST 1048576: true; the input reads as it did. -/
def ilogNeedsUptoRow : OpenClaim := { program := "ytoiebgnmknbkjaadoor", sum := "1a35bf2f6ec8cc5c807f6dec88f298de49d573eccf26d40c9d73c2687b963a14", func := "furrow/furrowlaw06.IlogNeeds", spec := "ilogNeeds", named := ["furrow/codec.steps"], apart := false, laid := [("furrow/codec.steps", laid_furrow_codec_steps)], narrowed := true }
def IlogNeedsUptoSaid : Prop := ilogNeedsUptoRow.holds Tryd.pinned (OpenSpec.upto ilogNeedsSpec)

/-- 'furrowlaw06.IlogChanges', WHERE WHAT IT READS IS OF BULK AT MOST 1048576: true; the input reads as it did. -/
def ilogChangesUptoRow : OpenClaim := { program := "ytoiebgnmknbkjaadoor", sum := "1a35bf2f6ec8cc5c807f6dec88f298de49d573eccf26d40c9d73c2687b963a14", func := "furrow/furrowlaw06.IlogChanges", spec := "ilogChanges", named := ["furrow/codec.steps"], apart := false, laid := [("furrow/codec.steps", laid_furrow_codec_steps)], narrowed := true }
def IlogChangesUptoSaid : Prop := ilogChangesUptoRow.holds Tryd.pinned (OpenSpec.upto ilogChangesSpec)

/-- 'furrowlaw06.IlogTurns', WHERE WHAT IT READS IS OF BULK AT MOST 1048576: true; the input reads as it did. -/
def ilogTurnsUptoRow : OpenClaim := { program := "ytoiebgnmknbkjaadoor", sum := "1a35bf2f6ec8cc5c807f6dec88f298de49d573eccf26d40c9d73c2687b963a14", func := "furrow/furrowlaw06.IlogTurns", spec := "ilogTurns", named := ["furrow/codec.steps"], apart := false, laid := [("furrow/codec.steps", laid_furrow_codec_steps)], narrowed := true }
def IlogTurnsUptoSaid : Prop := ilogTurnsUptoRow.holds Tryd.pinned (OpenSpec.upto ilogTurnsSpec)

end Rows
end Go.Proofs.YtoiebgnmknbkjaaDoor
