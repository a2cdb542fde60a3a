/- What all laws of this seat share: the table that the row lists, a world for the witness. -/
import Derived.Test.YtoiebgnmknbkjaaDoorRows
import Derived.Test.YtoiebgnmknbkjaaDoorLc
import Derived.WalkKit
import Derived.ProofKit
import Derived.OpenShut
import Derived.Deep.DeepHandedRow
import Derived.Lib.LaidTab
namespace Go.Proofs.YtoiebgnmknbkjaaDoor
open Go Go.Wk Go.ChangeShapes Go.WideShapes Go.ChangeAt Go.RowKit
theorem law_own : ownKnob Tryd.prog.godebug = none := by kernel_rfl
theorem law_laidOut : laidOutB Tryd.prog = true := by kernel_rfl
theorem gTab : Tryd.prog.globalNamed "furrow/codec.steps" = some 0 := by kernel_rfl
theorem gTabType : (Tryd.prog.globals[0]?).map (·.type) = some 190 := by kernel_rfl
theorem cellsTab : Tryd.prog.cellsOf 190 = 16 := by kernel_rfl
theorem cells32 : Tryd.prog.cellsOf 48 = 1 := by kernel_rfl
def steps : List Int := [0, 498536548, 997073096, 651767980, 1994146192, 1802195444, 1303535960, 1342533948, 3988292384, 4027552580, 3604390888, 3412177804, 2607071920, 2262029012, 2685067896, 3183342108]
theorem tab_of {W : World} (h : laidMetH Tryd.prog [("furrow/codec.steps", Rows.laid_furrow_codec_steps)] W) : Tab W := fun i hi => by
  have ht : Lib.TabIs Tryd.prog W "furrow/codec.steps" .u32 steps := Lib.tabIs_of_head (rest := []) gTab gTabType Tryd.underlying190 Tryd.underlying48 cells32 cellsTab h
  have hc := ht.cell gTab i (by simpa [steps] using hi)
  rw [hc]
  have h2 : ∀ i, i < 16 → steps.getD i 0 = ((tabv i).toNat : Int) := by decide
  rw [h2 i hi]
noncomputable def laidWorld (os : Os) : World :=
  { World.holding Tryd.prog os ⟨#[], #[], []⟩ with heap := (World.holding Tryd.prog os ⟨#[], #[], []⟩).heap.modify 0 fun
      | .cells _ t frozen => .cells #[.int .u32 0, .int .u32 498536548, .int .u32 997073096, .int .u32 651767980, .int .u32 1994146192, .int .u32 1802195444, .int .u32 1303535960, .int .u32 1342533948, .int .u32 3988292384, .int .u32 4027552580, .int .u32 3604390888, .int .u32 3412177804, .int .u32 2607071920, .int .u32 2262029012, .int .u32 2685067896, .int .u32 3183342108] t frozen
      | o => o }
end Go.Proofs.YtoiebgnmknbkjaaDoor
