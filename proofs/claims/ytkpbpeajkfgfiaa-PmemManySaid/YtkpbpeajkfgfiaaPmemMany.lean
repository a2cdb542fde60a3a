/- PmemMany: whatever the input, true; what was handed in reads as it did. No condition. -/
import Derived.Test.YtkpbpeajkfgfiaaRows
import Derived.Test.YtkpbpeajkfgfiaaChecked
import Derived.SizedLaws
import Derived.Test.YtkpbpeajkfgfiaaLc
import Derived.Test.YtkpbpeajkfgfiaaQ9
import Derived.Test.YtkpbpeajkfgfiaaDm
namespace Go.Proofs.Ytkpbpeajkfgfiaa.pmemMany
open Go Go.Wk Go.ChangeShapes Go.WideShapes Go.ChangeAt Go.RowKit
theorem own : ownKnob Try.prog.godebug = none := by kernel_rfl
theorem laidOut : laidOutB Try.prog = true := by kernel_rfl
theorem reads : ∀ t ∈ Try.f9.params.toList, Try.prog.readableRec t = true ∧ t < Try.prog.types.size := by
  rw [Try.params9]
  intro t ht
  simp only [List.mem_cons, List.not_mem_nil, or_false] at ht
  subst ht
  exact ⟨by kernel_rfl, by rw [Try.types_size]; decide⟩
set_option maxRecDepth 100000 in
theorem contract (H : Type) (enc : TypeId × Value → H) (W : World) (base : Nat) (args : Array Value) (ds gs : List (DataW H)) (before : List MemPlace)
    (hval : ∀ (j : Nat) t v, Try.f9.params[j]? = some t → args[j]? = some v → Value.okWide Try.prog W .any base t v)
    (hW : DataW.Whole enc Try.prog Try.f9.params.toList Rows.pmemManySpec.vars false W args.toList ds gs before) (hwt : (DataW.weightsEach Try.prog (Try.f9.params.toList ++ Rows.pmemManySpec.plain.varTypes Try.prog) (ds ++ gs)).all (· ≤ reachBytes) = true) :
    Calls Try.prog 9 args W fun e W' => ∃ v, e = .returned v ∧ Rows.pmemManySpec.post enc Try.prog Try.f9 false true false false W args v W' := by
  have hW' := hW
  obtain ⟨p, q, hA0, hV, rfl, hfz, hnd⟩ := hW
  have hA : DataW.TrodAll enc Try.prog W 0 (fun _ => true) true Try.f9.params.toList args.toList ds p := hA0
  rw [Try.params9] at hA hval
  obtain ⟨v0, vs0, d0, ds0, p0, q0, hargs, rfl, rfl, h0, rr0⟩ := trodAll_cons hA
  obtain ⟨rfl, rfl, rfl⟩ := trodAll_nil rr0
  obtain rfl : args = #[v0] := by cases args; simp_all
  obtain ⟨rfl, rfl⟩ := trodVars_none hV
  rw [Try.params9] at hwt
  simp only [List.cons_append, List.nil_append, DataW.weightsEach, List.all_append, Bool.and_eq_true] at hwt
  obtain ⟨wt0, _⟩ := hwt
  have k0 := hval 0 69 v0 rfl rfl
  have hct0 : Try.prog.cellTypes Try.prog.depth 69 = some [3, 3, 36, 3, 3, 3] := by kernel_rfl
  obtain ⟨cs0, rfl, hl0, hr0⟩ := arg_flds (ts := [3, 3, 36, 3, 3, 3]) Try.underlying69 (by kernel_rfl) hct0 rfl (fun j f hj => by
    have hjl : j < 6 := (Array.getElem?_eq_some_iff.1 hj).1
    match j, hjl, hj with
    | 0, _, hj => (cases hj; exact ⟨rfl, by kernel_rfl⟩)
    | 1, _, hj => (cases hj; exact ⟨rfl, by kernel_rfl⟩)
    | 2, _, hj => (cases hj; exact ⟨rfl, by kernel_rfl⟩)
    | 3, _, hj => (cases hj; exact ⟨rfl, by kernel_rfl⟩)
    | 4, _, hj => (cases hj; exact ⟨rfl, by kernel_rfl⟩)
    | 5, _, hj => (cases hj; exact ⟨rfl, by kernel_rfl⟩)
    | j + 6, hjl, _ => omega) k0 h0 wt0
  obtain ⟨c0_0, c0_1, c0_2, c0_3, c0_4, c0_5, rfl⟩ : ∃ c0_0 c0_1 c0_2 c0_3 c0_4 c0_5, cs0 = [c0_0, c0_1, c0_2, c0_3, c0_4, c0_5] := by match cs0, hl0 with | [y0, y1, y2, y3, y4, y5], _ => exact ⟨y0, y1, y2, y3, y4, y5, rfl⟩
  obtain ⟨x0_0, rfl, hx0_0⟩ := Fld.int Try.underlying3 (hr0 0 _ _ rfl rfl)
  obtain ⟨x0_1, rfl, hx0_1⟩ := Fld.int Try.underlying3 (hr0 1 _ _ rfl rfl)
  obtain ⟨l0_2, hv0_2, hm0_2⟩ := Fld.words Try.underlying36 Try.underlying30 (by kernel_rfl) (by kernel_rfl) (hr0 2 _ _ rfl rfl)
  obtain ⟨x0_3, rfl, hx0_3⟩ := Fld.int Try.underlying3 (hr0 3 _ _ rfl rfl)
  obtain ⟨x0_4, rfl, hx0_4⟩ := Fld.int Try.underlying3 (hr0 4 _ _ rfl rfl)
  obtain ⟨x0_5, rfl, hx0_5⟩ := Fld.int Try.underlying3 (hr0 5 _ _ rfl rfl)
  refine (lawMany_p _ _ _ _ _ _ _ W hv0_2 hm0_2 hx0_4).mono fun e W' ⟨he, hm⟩ => ⟨_, he, ?_⟩
  exact law_post laidOut reads rfl hW' rfl rfl Try.underlying4 hm
set_option maxRecDepth 100000 in
theorem lifted (os : Os) (started : os.Started) (H : Type) (enc : TypeId × Value → H) :
    ReturnsInHanded {} Try.checked os 9 .any (Rows.pmemManySpec.pre6 enc Try.prog Try.f9 [] false) (Rows.pmemManySpec.post enc Try.prog Try.f9 false true false false) := by
  refine returnsInHanded_of_change_sized (C := Try.checked) own started (by kernel_rfl) Try.func9
    (ChangeSpec.witness6 (enc := enc) (C := Try.checked) false ⟨#[], #[.agg #[.int .i64 0, .int .i64 0, .slice none 0 0, .int .i64 0, .int .i64 0, .int .i64 0]], []⟩ 8 (by kernel_rfl) (by kernel_rfl) (by kernel_rfl) (by kernel_rfl)) ?_
  intro W base args ds gs before hval hW _ hwt _
  exact contract H enc W base args ds gs before hval hW hwt
theorem holds : Rows.PmemManySaid :=
  OpenClaim.holds_of_wide 9 Try.f9 rfl rfl rfl rfl rfl rfl rfl ⟨rfl, rfl, rfl, rfl, rfl⟩ rfl rfl rfl rfl rfl (by kernel_rfl) Try.func9 (by kernel_rfl)
    (of_decide_eq_true (by kernel_rfl)) (by unfold Func.isWrapper; first | (rw [if_pos (by decide +kernel)]; kernel_rfl) | (rw [if_neg (by decide +kernel)]; exact ⟨rfl, rfl⟩))
    (fun os started H enc _ => lifted os started H enc)
end Go.Proofs.Ytkpbpeajkfgfiaa.pmemMany
