/-
  No cell of these rows narrows 'for every input' (looked for: loops, veiled, ifaces, maps, wideKeys, modest, calm, conditions, laid).
  DERIVED. THE GIVEN ROWS OF THIS SEAT. 15 by the template 'for every input the law returns true; each argument reads behind the call as it read before'; 0 by the template 'total and deterministic' (their statements: YtkpbpeajkfgfiaaTotals.lean).
  GIVEN WITH THE SEED: the statements are not yours to turn. If you find one false, say at which input.
  Laid BY PROGRAM, IN A SANDBOX (cutbox-rows.mjs): the forced cells as the released guide's own fill.sh prints them over the translation 4c682b3f6474ccb9… (all of the seat's roots in one cut). By AI agents, Wed Nov 11 2026. No macro, syntax, notation, axiom, sorry.
-/
import Derived.Test.YtkpbpeajkfgfiaaChecked
import GoSem.Claim
import GoSem.ClaimJoined
import GoSem.ClaimMapViews
import Derived.JoinedTies
import Derived.KernelRfl
namespace Go.Proofs.Ytkpbpeajkfgfiaa
/- THE CELL 'sum', in the pinned program and in every row, IS THE sha256 OF THE DUMP (.gsa) THAT YtkpbpeajkfgfiaaProg.lean LOADS. Nothing in Lean hashes anything: it is a label: what it is worth is what the hold of that sum in a sandbox is worth. -/
noncomputable def Try.pinned : Pinned := { name := "ytkpbpeajkfgfiaa", sum := "4c682b3f6474ccb9d9e7ad299f4d5eaae9c0b757e98170328ce25d5fcdd7395c", checked := Try.checked }
namespace Rows
def none {H : Type} : Left H := { results := [], args := [] }

/-- 'furrowlaw01.PmemWhole': WHATEVER THE INPUT: true; the input reads as it did. -/
def pmemWholeSpec : ChangeSpec := { name := "pmemWhole", fn := fun _ => fun
  | [d1, d2, d3] => { results := [.lit (.bool true)], args := [d1, d2, d3] }
  | _ => none }
def pmemWholeRow : OpenClaim := { program := "ytkpbpeajkfgfiaa", sum := "4c682b3f6474ccb9d9e7ad299f4d5eaae9c0b757e98170328ce25d5fcdd7395c", func := "furrow/furrowlaw01.PmemWhole", spec := "pmemWhole", unfollowed := true, recurses := true, apart := false }
def PmemWholeSaid : Prop := pmemWholeRow.holds Try.pinned (OpenSpec.ofChange pmemWholeSpec)

/-- ITS FALSE NEIGHBOUR: 'it returns false'. Refute it at one input. -/
def pmemWholeWrong : ChangeSpec := { name := "pmemWhole", fn := fun _ => fun
  | [d1, d2, d3] => { results := [.lit (.bool false)], args := [d1, d2, d3] }
  | _ => none }
def PmemWholeWrongFalsely : Prop := pmemWholeRow.holds Try.pinned (OpenSpec.ofChange pmemWholeWrong)

/-- 'furrowlaw01.PmemTold': WHATEVER THE INPUT: true; the input reads as it did. -/
def pmemToldSpec : ChangeSpec := { name := "pmemTold", fn := fun _ => fun
  | [d1, d2, d3] => { results := [.lit (.bool true)], args := [d1, d2, d3] }
  | _ => none }
def pmemToldRow : OpenClaim := { program := "ytkpbpeajkfgfiaa", sum := "4c682b3f6474ccb9d9e7ad299f4d5eaae9c0b757e98170328ce25d5fcdd7395c", func := "furrow/furrowlaw01.PmemTold", spec := "pmemTold", unfollowed := true, recurses := true, apart := false }
def PmemToldSaid : Prop := pmemToldRow.holds Try.pinned (OpenSpec.ofChange pmemToldSpec)

/-- ITS FALSE NEIGHBOUR: 'it returns false'. Refute it at one input. -/
def pmemToldWrong : ChangeSpec := { name := "pmemTold", fn := fun _ => fun
  | [d1, d2, d3] => { results := [.lit (.bool false)], args := [d1, d2, d3] }
  | _ => none }
def PmemToldWrongFalsely : Prop := pmemToldRow.holds Try.pinned (OpenSpec.ofChange pmemToldWrong)

/-- 'furrowlaw01.PmemFenced': WHATEVER THE INPUT: true; the input reads as it did. -/
def pmemFencedSpec : ChangeSpec := { name := "pmemFenced", fn := fun _ => fun
  | [d] => { results := [.lit (.bool true)], args := [d] }
  | _ => none }
def pmemFencedRow : OpenClaim := { program := "ytkpbpeajkfgfiaa", sum := "4c682b3f6474ccb9d9e7ad299f4d5eaae9c0b757e98170328ce25d5fcdd7395c", func := "furrow/furrowlaw01.PmemFenced", spec := "pmemFenced", unfollowed := true, recurses := true, apart := false }
def PmemFencedSaid : Prop := pmemFencedRow.holds Try.pinned (OpenSpec.ofChange pmemFencedSpec)

/-- ITS FALSE NEIGHBOUR: 'it returns false'. Refute it at one input. -/
def pmemFencedWrong : ChangeSpec := { name := "pmemFenced", fn := fun _ => fun
  | [d] => { results := [.lit (.bool false)], args := [d] }
  | _ => none }
def PmemFencedWrongFalsely : Prop := pmemFencedRow.holds Try.pinned (OpenSpec.ofChange pmemFencedWrong)

/-- 'furrowlaw01.PmemFuse': WHATEVER THE INPUT: true; the input reads as it did. -/
def pmemFuseSpec : ChangeSpec := { name := "pmemFuse", fn := fun _ => fun
  | [d1, d2, d3] => { results := [.lit (.bool true)], args := [d1, d2, d3] }
  | _ => none }
def pmemFuseRow : OpenClaim := { program := "ytkpbpeajkfgfiaa", sum := "4c682b3f6474ccb9d9e7ad299f4d5eaae9c0b757e98170328ce25d5fcdd7395c", func := "furrow/furrowlaw01.PmemFuse", spec := "pmemFuse", unfollowed := true, recurses := true, apart := false }
def PmemFuseSaid : Prop := pmemFuseRow.holds Try.pinned (OpenSpec.ofChange pmemFuseSpec)

/-- ITS FALSE NEIGHBOUR: 'it returns false'. Refute it at one input. -/
def pmemFuseWrong : ChangeSpec := { name := "pmemFuse", fn := fun _ => fun
  | [d1, d2, d3] => { results := [.lit (.bool false)], args := [d1, d2, d3] }
  | _ => none }
def PmemFuseWrongFalsely : Prop := pmemFuseRow.holds Try.pinned (OpenSpec.ofChange pmemFuseWrong)

/-- 'furrowlaw01.PmemCalm': WHATEVER THE INPUT: true; the input reads as it did. -/
def pmemCalmSpec : ChangeSpec := { name := "pmemCalm", fn := fun _ => fun
  | [d1, d2, d3] => { results := [.lit (.bool true)], args := [d1, d2, d3] }
  | _ => none }
def pmemCalmRow : OpenClaim := { program := "ytkpbpeajkfgfiaa", sum := "4c682b3f6474ccb9d9e7ad299f4d5eaae9c0b757e98170328ce25d5fcdd7395c", func := "furrow/furrowlaw01.PmemCalm", spec := "pmemCalm", unfollowed := true, recurses := true, apart := false }
def PmemCalmSaid : Prop := pmemCalmRow.holds Try.pinned (OpenSpec.ofChange pmemCalmSpec)

/-- ITS FALSE NEIGHBOUR: 'it returns false'. Refute it at one input. -/
def pmemCalmWrong : ChangeSpec := { name := "pmemCalm", fn := fun _ => fun
  | [d1, d2, d3] => { results := [.lit (.bool false)], args := [d1, d2, d3] }
  | _ => none }
def PmemCalmWrongFalsely : Prop := pmemCalmRow.holds Try.pinned (OpenSpec.ofChange pmemCalmWrong)

/-- 'furrowlaw01.PmemReload': WHATEVER THE INPUT: true; the input reads as it did. -/
def pmemReloadSpec : ChangeSpec := { name := "pmemReload", fn := fun _ => fun
  | [d] => { results := [.lit (.bool true)], args := [d] }
  | _ => none }
def pmemReloadRow : OpenClaim := { program := "ytkpbpeajkfgfiaa", sum := "4c682b3f6474ccb9d9e7ad299f4d5eaae9c0b757e98170328ce25d5fcdd7395c", func := "furrow/furrowlaw01.PmemReload", spec := "pmemReload", unfollowed := true, recurses := true, apart := false }
def PmemReloadSaid : Prop := pmemReloadRow.holds Try.pinned (OpenSpec.ofChange pmemReloadSpec)

/-- ITS FALSE NEIGHBOUR: 'it returns false'. Refute it at one input. -/
def pmemReloadWrong : ChangeSpec := { name := "pmemReload", fn := fun _ => fun
  | [d] => { results := [.lit (.bool false)], args := [d] }
  | _ => none }
def PmemReloadWrongFalsely : Prop := pmemReloadRow.holds Try.pinned (OpenSpec.ofChange pmemReloadWrong)

/-- 'furrowlaw01.PmemMany': WHATEVER THE INPUT: true; the input reads as it did. -/
def pmemManySpec : ChangeSpec := { name := "pmemMany", fn := fun _ => fun
  | [d] => { results := [.lit (.bool true)], args := [d] }
  | _ => none }
def pmemManyRow : OpenClaim := { program := "ytkpbpeajkfgfiaa", sum := "4c682b3f6474ccb9d9e7ad299f4d5eaae9c0b757e98170328ce25d5fcdd7395c", func := "furrow/furrowlaw01.PmemMany", spec := "pmemMany", unfollowed := true, recurses := true, apart := false }
def PmemManySaid : Prop := pmemManyRow.holds Try.pinned (OpenSpec.ofChange pmemManySpec)

/-- ITS FALSE NEIGHBOUR: 'it returns false'. Refute it at one input. -/
def pmemManyWrong : ChangeSpec := { name := "pmemMany", fn := fun _ => fun
  | [d] => { results := [.lit (.bool false)], args := [d] }
  | _ => none }
def PmemManyWrongFalsely : Prop := pmemManyRow.holds Try.pinned (OpenSpec.ofChange pmemManyWrong)

/-- 'furrowlaw01.PmemApart': WHATEVER THE INPUT: true; the input reads as it did. -/
def pmemApartSpec : ChangeSpec := { name := "pmemApart", fn := fun _ => fun
  | [d1, d2, d3] => { results := [.lit (.bool true)], args := [d1, d2, d3] }
  | _ => none }
def pmemApartRow : OpenClaim := { program := "ytkpbpeajkfgfiaa", sum := "4c682b3f6474ccb9d9e7ad299f4d5eaae9c0b757e98170328ce25d5fcdd7395c", func := "furrow/furrowlaw01.PmemApart", spec := "pmemApart", unfollowed := true, recurses := true, apart := false }
def PmemApartSaid : Prop := pmemApartRow.holds Try.pinned (OpenSpec.ofChange pmemApartSpec)

/-- ITS FALSE NEIGHBOUR: 'it returns false'. Refute it at one input. -/
def pmemApartWrong : ChangeSpec := { name := "pmemApart", fn := fun _ => fun
  | [d1, d2, d3] => { results := [.lit (.bool false)], args := [d1, d2, d3] }
  | _ => none }
def PmemApartWrongFalsely : Prop := pmemApartRow.holds Try.pinned (OpenSpec.ofChange pmemApartWrong)

/-- 'furrowlaw01.PmemMakes': WHATEVER THE INPUT: true; the input reads as it did. -/
def pmemMakesSpec : ChangeSpec := { name := "pmemMakes", fn := fun _ => fun
  | [d] => { results := [.lit (.bool true)], args := [d] }
  | _ => none }
def pmemMakesRow : OpenClaim := { program := "ytkpbpeajkfgfiaa", sum := "4c682b3f6474ccb9d9e7ad299f4d5eaae9c0b757e98170328ce25d5fcdd7395c", func := "furrow/furrowlaw01.PmemMakes", spec := "pmemMakes", unfollowed := true, recurses := true, apart := false }
def PmemMakesSaid : Prop := pmemMakesRow.holds Try.pinned (OpenSpec.ofChange pmemMakesSpec)

/-- ITS FALSE NEIGHBOUR: 'it returns false'. Refute it at one input. -/
def pmemMakesWrong : ChangeSpec := { name := "pmemMakes", fn := fun _ => fun
  | [d] => { results := [.lit (.bool false)], args := [d] }
  | _ => none }
def PmemMakesWrongFalsely : Prop := pmemMakesRow.holds Try.pinned (OpenSpec.ofChange pmemMakesWrong)

/-- 'furrowlaw01.PmemLooks': WHATEVER THE INPUT: true; the input reads as it did. -/
def pmemLooksSpec : ChangeSpec := { name := "pmemLooks", fn := fun _ => fun
  | [d] => { results := [.lit (.bool true)], args := [d] }
  | _ => none }
def pmemLooksRow : OpenClaim := { program := "ytkpbpeajkfgfiaa", sum := "4c682b3f6474ccb9d9e7ad299f4d5eaae9c0b757e98170328ce25d5fcdd7395c", func := "furrow/furrowlaw01.PmemLooks", spec := "pmemLooks", unfollowed := true, recurses := true, apart := false }
def PmemLooksSaid : Prop := pmemLooksRow.holds Try.pinned (OpenSpec.ofChange pmemLooksSpec)

/-- ITS FALSE NEIGHBOUR: 'it returns false'. Refute it at one input. -/
def pmemLooksWrong : ChangeSpec := { name := "pmemLooks", fn := fun _ => fun
  | [d] => { results := [.lit (.bool false)], args := [d] }
  | _ => none }
def PmemLooksWrongFalsely : Prop := pmemLooksRow.holds Try.pinned (OpenSpec.ofChange pmemLooksWrong)

/-- 'furrowlaw01.PmemSteps': WHATEVER THE INPUT: true; the input reads as it did. -/
def pmemStepsSpec : ChangeSpec := { name := "pmemSteps", fn := fun _ => fun
  | [d] => { results := [.lit (.bool true)], args := [d] }
  | _ => none }
def pmemStepsRow : OpenClaim := { program := "ytkpbpeajkfgfiaa", sum := "4c682b3f6474ccb9d9e7ad299f4d5eaae9c0b757e98170328ce25d5fcdd7395c", func := "furrow/furrowlaw01.PmemSteps", spec := "pmemSteps", unfollowed := true, recurses := true, apart := false }
def PmemStepsSaid : Prop := pmemStepsRow.holds Try.pinned (OpenSpec.ofChange pmemStepsSpec)

/-- ITS FALSE NEIGHBOUR: 'it returns false'. Refute it at one input. -/
def pmemStepsWrong : ChangeSpec := { name := "pmemSteps", fn := fun _ => fun
  | [d] => { results := [.lit (.bool false)], args := [d] }
  | _ => none }
def PmemStepsWrongFalsely : Prop := pmemStepsRow.holds Try.pinned (OpenSpec.ofChange pmemStepsWrong)

/-- 'furrowlaw01.PmemDoubts': WHATEVER THE INPUT: true; the input reads as it did. -/
def pmemDoubtsSpec : ChangeSpec := { name := "pmemDoubts", fn := fun _ => fun
  | [d] => { results := [.lit (.bool true)], args := [d] }
  | _ => none }
def pmemDoubtsRow : OpenClaim := { program := "ytkpbpeajkfgfiaa", sum := "4c682b3f6474ccb9d9e7ad299f4d5eaae9c0b757e98170328ce25d5fcdd7395c", func := "furrow/furrowlaw01.PmemDoubts", spec := "pmemDoubts", unfollowed := true, recurses := true, apart := false }
def PmemDoubtsSaid : Prop := pmemDoubtsRow.holds Try.pinned (OpenSpec.ofChange pmemDoubtsSpec)

/-- ITS FALSE NEIGHBOUR: 'it returns false'. Refute it at one input. -/
def pmemDoubtsWrong : ChangeSpec := { name := "pmemDoubts", fn := fun _ => fun
  | [d] => { results := [.lit (.bool false)], args := [d] }
  | _ => none }
def PmemDoubtsWrongFalsely : Prop := pmemDoubtsRow.holds Try.pinned (OpenSpec.ofChange pmemDoubtsWrong)

/-- 'furrowlaw01.PmemCrashes': WHATEVER THE INPUT: true; the input reads as it did. -/
def pmemCrashesSpec : ChangeSpec := { name := "pmemCrashes", fn := fun _ => fun
  | [d] => { results := [.lit (.bool true)], args := [d] }
  | _ => none }
def pmemCrashesRow : OpenClaim := { program := "ytkpbpeajkfgfiaa", sum := "4c682b3f6474ccb9d9e7ad299f4d5eaae9c0b757e98170328ce25d5fcdd7395c", func := "furrow/furrowlaw01.PmemCrashes", spec := "pmemCrashes", unfollowed := true, recurses := true, apart := false }
def PmemCrashesSaid : Prop := pmemCrashesRow.holds Try.pinned (OpenSpec.ofChange pmemCrashesSpec)

/-- ITS FALSE NEIGHBOUR: 'it returns false'. Refute it at one input. -/
def pmemCrashesWrong : ChangeSpec := { name := "pmemCrashes", fn := fun _ => fun
  | [d] => { results := [.lit (.bool false)], args := [d] }
  | _ => none }
def PmemCrashesWrongFalsely : Prop := pmemCrashesRow.holds Try.pinned (OpenSpec.ofChange pmemCrashesWrong)

/-- 'furrowlaw01.PmemViews': WHATEVER THE INPUT: true; the input reads as it did. -/
def pmemViewsSpec : ChangeSpec := { name := "pmemViews", fn := fun _ => fun
  | [d] => { results := [.lit (.bool true)], args := [d] }
  | _ => none }
def pmemViewsRow : OpenClaim := { program := "ytkpbpeajkfgfiaa", sum := "4c682b3f6474ccb9d9e7ad299f4d5eaae9c0b757e98170328ce25d5fcdd7395c", func := "furrow/furrowlaw01.PmemViews", spec := "pmemViews", unfollowed := true, recurses := true, apart := false }
def PmemViewsSaid : Prop := pmemViewsRow.holds Try.pinned (OpenSpec.ofChange pmemViewsSpec)

/-- ITS FALSE NEIGHBOUR: 'it returns false'. Refute it at one input. -/
def pmemViewsWrong : ChangeSpec := { name := "pmemViews", fn := fun _ => fun
  | [d] => { results := [.lit (.bool false)], args := [d] }
  | _ => none }
def PmemViewsWrongFalsely : Prop := pmemViewsRow.holds Try.pinned (OpenSpec.ofChange pmemViewsWrong)

/-- 'furrowlaw01.PmemAll': WHATEVER THE INPUT: true; the input reads as it did. -/
def pmemAllSpec : ChangeSpec := { name := "pmemAll", fn := fun _ => fun
  | [d] => { results := [.lit (.bool true)], args := [d] }
  | _ => none }
def pmemAllRow : OpenClaim := { program := "ytkpbpeajkfgfiaa", sum := "4c682b3f6474ccb9d9e7ad299f4d5eaae9c0b757e98170328ce25d5fcdd7395c", func := "furrow/furrowlaw01.PmemAll", spec := "pmemAll", unfollowed := true, recurses := true, apart := false }
def PmemAllSaid : Prop := pmemAllRow.holds Try.pinned (OpenSpec.ofChange pmemAllSpec)

/-- ITS FALSE NEIGHBOUR: 'it returns false'. Refute it at one input. -/
def pmemAllWrong : ChangeSpec := { name := "pmemAll", fn := fun _ => fun
  | [d] => { results := [.lit (.bool false)], args := [d] }
  | _ => none }
def PmemAllWrongFalsely : Prop := pmemAllRow.holds Try.pinned (OpenSpec.ofChange pmemAllWrong)

/- THE SECOND FORM. 'bulk': how many values and letters a reading holds, each counted each time it is reached (what is shared counts as often as it is met; a slice's spare places count too). A statement '..UptoSaid' is the law's where the arguments, and the package variables that the reading takes, are together of bulk at most 1048576: NARROWER than '..Said'. Prove '..Said' where nothing that the law and all that it calls make is longer than what came in: it says more and counts as full. Else prove '..UptoSaid'. A law counts once. -/
mutual
def uptoBulk {H : Type} : DataW H → Nat
  | .lit (.string bytes) => bytes.length + 1
  | .lit _ => 1
  | .nil => 1
  | .ptr d => uptoBulk d + 1
  | .slice elems spare => uptoBulkAll elems + uptoBulkAll spare + 1
  | .agg parts => uptoBulkAll parts + 1
  | .iface _ d => uptoBulk d + 1
  | .map entries => uptoBulkEntries entries + 1
  | .held _ => 1
def uptoBulkAll {H : Type} : List (DataW H) → Nat
  | [] => 0
  | d :: r => uptoBulk d + uptoBulkAll r
def uptoBulkEntries {H : Type} : List (Lit × DataW H) → Nat
  | [] => 0
  | x :: r => uptoBulkEntry x + uptoBulkEntries r
def uptoBulkEntry {H : Type} : Lit × DataW H → Nat
  | (.string bytes, d) => bytes.length + uptoBulk d + 1
  | (_, d) => uptoBulk d + 1
 end
def uptoSmall : (H : Type) → List (DataW H) → Bool := fun _ ds => decide (uptoBulkAll ds ≤ 1048576)
def OpenSpec.upto (s : _root_.Go.ChangeSpec) : _root_.Go.OpenSpec := { _root_.Go.OpenSpec.ofChange s with cond := some uptoSmall }

/-- 'furrowlaw01.PmemWhole', WHERE WHAT IT READS IS OF BULK AT MOST 1048576: true; the input reads as it did. -/
def pmemWholeUptoRow : OpenClaim := { program := "ytkpbpeajkfgfiaa", sum := "4c682b3f6474ccb9d9e7ad299f4d5eaae9c0b757e98170328ce25d5fcdd7395c", func := "furrow/furrowlaw01.PmemWhole", spec := "pmemWhole", unfollowed := true, recurses := true, apart := false, narrowed := true }
def PmemWholeUptoSaid : Prop := pmemWholeUptoRow.holds Try.pinned (OpenSpec.upto pmemWholeSpec)

/-- 'furrowlaw01.PmemTold', WHERE WHAT IT READS IS OF BULK AT MOST 1048576: true; the input reads as it did. -/
def pmemToldUptoRow : OpenClaim := { program := "ytkpbpeajkfgfiaa", sum := "4c682b3f6474ccb9d9e7ad299f4d5eaae9c0b757e98170328ce25d5fcdd7395c", func := "furrow/furrowlaw01.PmemTold", spec := "pmemTold", unfollowed := true, recurses := true, apart := false, narrowed := true }
def PmemToldUptoSaid : Prop := pmemToldUptoRow.holds Try.pinned (OpenSpec.upto pmemToldSpec)

/-- 'furrowlaw01.PmemFenced', WHERE WHAT IT READS IS OF BULK AT MOST 1048576: true; the input reads as it did. -/
def pmemFencedUptoRow : OpenClaim := { program := "ytkpbpeajkfgfiaa", sum := "4c682b3f6474ccb9d9e7ad299f4d5eaae9c0b757e98170328ce25d5fcdd7395c", func := "furrow/furrowlaw01.PmemFenced", spec := "pmemFenced", unfollowed := true, recurses := true, apart := false, narrowed := true }
def PmemFencedUptoSaid : Prop := pmemFencedUptoRow.holds Try.pinned (OpenSpec.upto pmemFencedSpec)

/-- 'furrowlaw01.PmemFuse', WHERE WHAT IT READS IS OF BULK AT MOST 1048576: true; the input reads as it did. -/
def pmemFuseUptoRow : OpenClaim := { program := "ytkpbpeajkfgfiaa", sum := "4c682b3f6474ccb9d9e7ad299f4d5eaae9c0b757e98170328ce25d5fcdd7395c", func := "furrow/furrowlaw01.PmemFuse", spec := "pmemFuse", unfollowed := true, recurses := true, apart := false, narrowed := true }
def PmemFuseUptoSaid : Prop := pmemFuseUptoRow.holds Try.pinned (OpenSpec.upto pmemFuseSpec)

/-- 'furrowlaw01.PmemCalm', WHERE WHAT IT READS IS OF BULK AT MOST 1048576: true; the input reads as it did. -/
def pmemCalmUptoRow : OpenClaim := { program := "ytkpbpeajkfgfiaa", sum := "4c682b3f6474ccb9d9e7ad299f4d5eaae9c0b757e98170328ce25d5fcdd7395c", func := "furrow/furrowlaw01.PmemCalm", spec := "pmemCalm", unfollowed := true, recurses := true, apart := false, narrowed := true }
def PmemCalmUptoSaid : Prop := pmemCalmUptoRow.holds Try.pinned (OpenSpec.upto pmemCalmSpec)

/-- 'furrowlaw01.PmemReload', WHERE WHAT IT READS IS OF BULK AT MOST 1048576: true; the input reads as it did. -/
def pmemReloadUptoRow : OpenClaim := { program := "ytkpbpeajkfgfiaa", sum := "4c682b3f6474ccb9d9e7ad299f4d5eaae9c0b757e98170328ce25d5fcdd7395c", func := "furrow/furrowlaw01.PmemReload", spec := "pmemReload", unfollowed := true, recurses := true, apart := false, narrowed := true }
def PmemReloadUptoSaid : Prop := pmemReloadUptoRow.holds Try.pinned (OpenSpec.upto pmemReloadSpec)

/-- 'furrowlaw01.PmemMany', WHERE WHAT IT READS IS OF BULK AT MOST 1048576: true; the input reads as it did. -/
def pmemManyUptoRow : OpenClaim := { program := "ytkpbpeajkfgfiaa", sum := "4c682b3f6474ccb9d9e7ad299f4d5eaae9c0b757e98170328ce25d5fcdd7395c", func := "furrow/furrowlaw01.PmemMany", spec := "pmemMany", unfollowed := true, recurses := true, apart := false, narrowed := true }
def PmemManyUptoSaid : Prop := pmemManyUptoRow.holds Try.pinned (OpenSpec.upto pmemManySpec)

/-- 'furrowlaw01.PmemApart', WHERE WHAT IT READS IS OF BULK AT MOST 1048576: true; the input reads as it did. -/
def pmemApartUptoRow : OpenClaim := { program := "ytkpbpeajkfgfiaa", sum := "4c682b3f6474ccb9d9e7ad299f4d5eaae9c0b757e98170328ce25d5fcdd7395c", func := "furrow/furrowlaw01.PmemApart", spec := "pmemApart", unfollowed := true, recurses := true, apart := false, narrowed := true }
def PmemApartUptoSaid : Prop := pmemApartUptoRow.holds Try.pinned (OpenSpec.upto pmemApartSpec)

/-- 'furrowlaw01.PmemMakes', WHERE WHAT IT READS IS OF BULK AT MOST 1048576: true; the input reads as it did. -/
def pmemMakesUptoRow : OpenClaim := { program := "ytkpbpeajkfgfiaa", sum := "4c682b3f6474ccb9d9e7ad299f4d5eaae9c0b757e98170328ce25d5fcdd7395c", func := "furrow/furrowlaw01.PmemMakes", spec := "pmemMakes", unfollowed := true, recurses := true, apart := false, narrowed := true }
def PmemMakesUptoSaid : Prop := pmemMakesUptoRow.holds Try.pinned (OpenSpec.upto pmemMakesSpec)

/-- 'furrowlaw01.PmemLooks', WHERE WHAT IT READS IS OF BULK AT MOST 1048576: true; the input reads as it did. -/
def pmemLooksUptoRow : OpenClaim := { program := "ytkpbpeajkfgfiaa", sum := "4c682b3f6474ccb9d9e7ad299f4d5eaae9c0b757e98170328ce25d5fcdd7395c", func := "furrow/furrowlaw01.PmemLooks", spec := "pmemLooks", unfollowed := true, recurses := true, apart := false, narrowed := true }
def PmemLooksUptoSaid : Prop := pmemLooksUptoRow.holds Try.pinned (OpenSpec.upto pmemLooksSpec)

/-- 'furrowlaw01.PmemSteps', WHERE WHAT IT READS IS OF BULK AT MOST 1048576: true; the input reads as it did. -/
def pmemStepsUptoRow : OpenClaim := { program := "ytkpbpeajkfgfiaa", sum := "4c682b3f6474ccb9d9e7ad299f4d5eaae9c0b757e98170328ce25d5fcdd7395c", func := "furrow/furrowlaw01.PmemSteps", spec := "pmemSteps", unfollowed := true, recurses := true, apart := false, narrowed := true }
def PmemStepsUptoSaid : Prop := pmemStepsUptoRow.holds Try.pinned (OpenSpec.upto pmemStepsSpec)

/-- 'furrowlaw01.PmemDoubts', WHERE WHAT IT READS IS OF BULK AT MOST 1048576: true; the input reads as it did. -/
def pmemDoubtsUptoRow : OpenClaim := { program := "ytkpbpeajkfgfiaa", sum := "4c682b3f6474ccb9d9e7ad299f4d5eaae9c0b757e98170328ce25d5fcdd7395c", func := "furrow/furrowlaw01.PmemDoubts", spec := "pmemDoubts", unfollowed := true, recurses := true, apart := false, narrowed := true }
def PmemDoubtsUptoSaid : Prop := pmemDoubtsUptoRow.holds Try.pinned (OpenSpec.upto pmemDoubtsSpec)

/-- 'furrowlaw01.PmemCrashes', WHERE WHAT IT READS IS OF BULK AT MOST 1048576: true; the input reads as it did. -/
def pmemCrashesUptoRow : OpenClaim := { program := "ytkpbpeajkfgfiaa", sum := "4c682b3f6474ccb9d9e7ad299f4d5eaae9c0b757e98170328ce25d5fcdd7395c", func := "furrow/furrowlaw01.PmemCrashes", spec := "pmemCrashes", unfollowed := true, recurses := true, apart := false, narrowed := true }
def PmemCrashesUptoSaid : Prop := pmemCrashesUptoRow.holds Try.pinned (OpenSpec.upto pmemCrashesSpec)

/-- 'furrowlaw01.PmemViews', WHERE WHAT IT READS IS OF BULK AT MOST 1048576: true; the input reads as it did. -/
def pmemViewsUptoRow : OpenClaim := { program := "ytkpbpeajkfgfiaa", sum := "4c682b3f6474ccb9d9e7ad299f4d5eaae9c0b757e98170328ce25d5fcdd7395c", func := "furrow/furrowlaw01.PmemViews", spec := "pmemViews", unfollowed := true, recurses := true, apart := false, narrowed := true }
def PmemViewsUptoSaid : Prop := pmemViewsUptoRow.holds Try.pinned (OpenSpec.upto pmemViewsSpec)

/-- 'furrowlaw01.PmemAll', WHERE WHAT IT READS IS OF BULK AT MOST 1048576: true; the input reads as it did. -/
def pmemAllUptoRow : OpenClaim := { program := "ytkpbpeajkfgfiaa", sum := "4c682b3f6474ccb9d9e7ad299f4d5eaae9c0b757e98170328ce25d5fcdd7395c", func := "furrow/furrowlaw01.PmemAll", spec := "pmemAll", unfollowed := true, recurses := true, apart := false, narrowed := true }
def PmemAllUptoSaid : Prop := pmemAllUptoRow.holds Try.pinned (OpenSpec.upto pmemAllSpec)

end Rows
end Go.Proofs.Ytkpbpeajkfgfiaa
