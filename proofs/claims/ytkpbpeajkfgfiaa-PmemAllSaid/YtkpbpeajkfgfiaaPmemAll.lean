/- PmemAll: whatever the input, true; what was handed in reads as it did. No condition. -/
import Derived.Test.YtkpbpeajkfgfiaaRows
import Derived.Test.YtkpbpeajkfgfiaaChecked
import Derived.SizedLaws
import Derived.Test.YtkpbpeajkfgfiaaLc
import Derived.Test.YtkpbpeajkfgfiaaS4
import Derived.Test.YtkpbpeajkfgfiaaS5
namespace Go.Proofs.Ytkpbpeajkfgfiaa.pmemAll
open Go Go.Wk Go.ChangeShapes Go.WideShapes Go.ChangeAt Go.RowKit
theorem own : ownKnob Try.prog.godebug = none := by kernel_rfl
theorem laidOut : laidOutB Try.prog = true := by kernel_rfl
theorem reads : ∀ t ∈ Try.f17.params.toList, Try.prog.readableRec t = true ∧ t < Try.prog.types.size := by
  rw [Try.params17]
  intro t ht
  simp only [List.mem_cons, List.not_mem_nil, or_false] at ht
  subst ht
  exact ⟨by kernel_rfl, by rw [Try.types_size]; decide⟩
set_option maxRecDepth 100000 in
theorem contract (H : Type) (enc : TypeId × Value → H) (W : World) (base : Nat) (args : Array Value) (ds gs : List (DataW H)) (before : List MemPlace)
    (hval : ∀ (j : Nat) t v, Try.f17.params[j]? = some t → args[j]? = some v → Value.okWide Try.prog W .any base t v)
    (hW : DataW.Whole enc Try.prog Try.f17.params.toList Rows.pmemAllSpec.vars false W args.toList ds gs before) (hwt : (DataW.weightsEach Try.prog (Try.f17.params.toList ++ Rows.pmemAllSpec.plain.varTypes Try.prog) (ds ++ gs)).all (· ≤ reachBytes) = true) :
    Calls Try.prog 17 args W fun e W' => ∃ v, e = .returned v ∧ Rows.pmemAllSpec.post enc Try.prog Try.f17 false true false false W args v W' := by
  have hW' := hW
  obtain ⟨p, q, hA0, hV, rfl, hfz, hnd⟩ := hW
  have hA : DataW.TrodAll enc Try.prog W 0 (fun _ => true) true Try.f17.params.toList args.toList ds p := hA0
  rw [Try.params17] at hA hval
  obtain ⟨v0, vs0, d0, ds0, p0, q0, hargs, rfl, rfl, h0, rr0⟩ := trodAll_cons hA
  obtain ⟨rfl, rfl, rfl⟩ := trodAll_nil rr0
  obtain rfl : args = #[v0] := by cases args; simp_all
  obtain ⟨rfl, rfl⟩ := trodVars_none hV
  rw [Try.params17] at hwt
  simp only [List.cons_append, List.nil_append, DataW.weightsEach, List.all_append, Bool.and_eq_true] at hwt
  obtain ⟨wt0, _⟩ := hwt
  have k0 := hval 0 89 v0 rfl rfl
  obtain ⟨l0, hv0, hm0⟩ := arg_ops k0 h0 wt0
  refine (lawPmemAll_p _ _ W hv0 hm0).mono fun e W' ⟨he, hm⟩ => ⟨_, he, ?_⟩
  exact law_post laidOut reads rfl hW' rfl rfl Try.underlying4 hm
set_option maxRecDepth 100000 in
theorem lifted (os : Os) (started : os.Started) (H : Type) (enc : TypeId × Value → H) :
    ReturnsInHanded {} Try.checked os 17 .any (Rows.pmemAllSpec.pre6 enc Try.prog Try.f17 [] false) (Rows.pmemAllSpec.post enc Try.prog Try.f17 false true false false) := by
  refine returnsInHanded_of_change_sized (C := Try.checked) own started (by kernel_rfl) Try.func17
    (ChangeSpec.witness6 (enc := enc) (C := Try.checked) false ⟨#[], #[.slice none 0 0], []⟩ 8 (by kernel_rfl) (by kernel_rfl) (by kernel_rfl) (by kernel_rfl)) ?_
  intro W base args ds gs before hval hW _ hwt _
  exact contract H enc W base args ds gs before hval hW hwt
theorem holds : Rows.PmemAllSaid :=
  OpenClaim.holds_of_wide 17 Try.f17 rfl rfl rfl rfl rfl rfl rfl ⟨rfl, rfl, rfl, rfl, rfl⟩ rfl rfl rfl rfl rfl (by kernel_rfl) Try.func17 (by kernel_rfl)
    (of_decide_eq_true (by kernel_rfl)) (by unfold Func.isWrapper; first | (rw [if_pos (by decide +kernel)]; kernel_rfl) | (rw [if_neg (by decide +kernel)]; exact ⟨rfl, rfl⟩))
    (fun os started H enc _ => lifted os started H enc)
end Go.Proofs.Ytkpbpeajkfgfiaa.pmemAll
