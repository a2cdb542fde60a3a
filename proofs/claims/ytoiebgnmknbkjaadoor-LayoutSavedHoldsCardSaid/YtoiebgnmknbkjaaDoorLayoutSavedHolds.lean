/- LayoutSavedHolds: whatever the input, true; what was handed in reads as it did: the card. -/
import Derived.Test.YtoiebgnmknbkjaaDoorCards
import Derived.Test.YtoiebgnmknbkjaaDoorTie
import Derived.SevenTiedAt
import Derived.Test.YtoiebgnmknbkjaaDoorLt
import Derived.Test.YtoiebgnmknbkjaaDoorC15
import Derived.Test.YtoiebgnmknbkjaaDoorWv
import Derived.Test.YtoiebgnmknbkjaaDoorLp
import Derived.Test.YtoiebgnmknbkjaaDoorLq
namespace Go.Proofs.YtoiebgnmknbkjaaDoor.layoutSavedHolds
open Go Go.Wk Go.ChangeShapes Go.WideShapes Go.ChangeAt Go.RowKit
theorem reads : ∀ t ∈ Tryd.f12.params.toList, Tryd.prog.readableRec t = true ∧ t < Tryd.prog.types.size := by
  rw [Tryd.params12]
  intro t ht
  simp only [List.mem_cons, List.not_mem_nil, or_false] at ht
  rcases ht with rfl | rfl | rfl
  all_goals exact ⟨by kernel_rfl, by rw [Tryd.types_size]; decide⟩
set_option maxRecDepth 100000 in
theorem contract (H : Type) (enc : TypeId × Value → H) (W : World) (base : Nat) (args : Array Value) (ds gs : List (DataW H)) (before : List MemPlace)
    (hval : ∀ (j : Nat) t v, Tryd.f12.params[j]? = some t → args[j]? = some v → Value.okWide Tryd.prog W .any base t v)
    (hW : DataW.Whole enc Tryd.prog Tryd.f12.params.toList Rows.layoutSavedHoldsSpec.vars false W args.toList ds gs before) (hL : laidMetH Tryd.prog Rows.layoutSavedHoldsRow.laid W) (hwt : (DataW.weightsEach Tryd.prog (Tryd.f12.params.toList ++ (OpenSpec.ofChange Rows.layoutSavedHoldsSpec).bare.plain.varTypes Tryd.prog) (ds ++ gs)).all (· ≤ reachBytes) = true) :
    Calls Tryd.prog 12 args W fun e W' => ∃ v, e = .returned v ∧ Rows.layoutSavedHoldsSpec.post enc Tryd.prog Tryd.f12 false true false false W args v W' := by
  have hW' := hW
  obtain ⟨p, q, hA0, hV, rfl, hfz, hnd⟩ := hW
  have hA : DataW.TrodAll enc Tryd.prog W 0 (fun _ => true) true Tryd.f12.params.toList args.toList ds p := hA0
  rw [Tryd.params12] at hA hval
  obtain ⟨v0, vs0, d0, ds0, p0, q0, hargs, rfl, rfl, h0, rr0⟩ := trodAll_cons hA
  obtain ⟨v1, vs1, d1, ds1, p1, q1, rfl, rfl, rfl, h1, rr1⟩ := trodAll_cons rr0
  obtain ⟨v2, vs2, d2, ds2, p2, q2, rfl, rfl, rfl, h2, rr2⟩ := trodAll_cons rr1
  obtain ⟨rfl, rfl, rfl⟩ := trodAll_nil rr2
  obtain rfl : args = #[v0, v1, v2] := by cases args; simp_all
  obtain ⟨rfl, rfl⟩ := trodVars_none hV
  have ht : Tab W := tab_of hL
  rw [Tryd.params12] at hwt
  simp only [List.cons_append, List.nil_append, DataW.weightsEach, List.all_append, Bool.and_eq_true] at hwt
  obtain ⟨wt0, wt1, wt2, _⟩ := hwt
  have k0 := hval 0 48 v0 rfl rfl
  have k1 := hval 1 72 v1 rfl rfl
  have k2 := hval 2 50 v2 rfl rfl
  obtain ⟨x0, rfl, r0⟩ := arg_int Tryd.underlying48 k0
  obtain ⟨X0, rfl⟩ := hasU32 r0
  obtain ⟨l1, hv1, hm1⟩ := arg_spans Tryd.underlying72 Tryd.underlying88 (by kernel_rfl) (by kernel_rfl) rfl rfl rfl rfl Tryd.underlying3 Tryd.underlying3 (by kernel_rfl) (by kernel_rfl) k1 h1 wt1
  obtain ⟨cs2, rfl, hl2, hr2⟩ := arg_struct Tryd.underlying50 k2
  rw [show Tryd.prog.cellsOf 50 = 2 by kernel_rfl] at hl2
  have hct2 : Tryd.prog.cellTypes Tryd.prog.depth 50 = some [3, 48] := by kernel_rfl
  obtain ⟨e0, e1, rfl⟩ : ∃ e0 e1, cs2 = [e0, e1] := by match cs2, hl2 with | [y0, y1], _ => exact ⟨y0, y1, rfl⟩
  obtain ⟨x2_0, rfl, r2_0⟩ := cell_int Tryd.underlying3 (row_at hct2 hr2 0 rfl rfl)
  obtain ⟨x2_1, rfl, r2_1⟩ := cell_int Tryd.underlying48 (row_at hct2 hr2 1 rfl rfl)
  obtain ⟨X2_1, rfl⟩ := hasU32 r2_1
  refine (lawSavedHolds_p X0 _ l1 x2_0 X2_1 W ht hv1 hm1).mono fun e W' ⟨he, hm⟩ => ⟨_, he, ?_⟩
  exact law_post law_laidOut reads rfl hW' rfl rfl Tryd.underlying4 hm
theorem laid_met (os : Os) : laidMet Tryd.prog Rows.layoutSavedHoldsRow.laid ((laidWorld os).forCall (fun _ _ => 0) ⟨#[], #[.int .u32 0, .slice none 0 0, .agg #[.int .i64 0, .int .u32 0]], []⟩).memory :=
  laidMet_of_run' 8 (by kernel_rfl) (by kernel_rfl)
theorem read (os : Os) {H : Type} (enc : TypeId × Value → H) : ∃ places, DataW.whole enc Tryd.prog ((laidWorld os).forCall (fun _ _ => 0) ⟨#[], #[.int .u32 0, .slice none 0 0, .agg #[.int .i64 0, .int .u32 0]], []⟩).memory Tryd.f12.params.toList Rows.layoutSavedHoldsSpec.vars false (#[.int .u32 0, .slice none 0 0, .agg #[.int .i64 0, .int .u32 0]] : Array Value).toList 8 = some ([.lit (.int .u32 0), .nil, .agg [.lit (.int .i64 0), .lit (.int .u32 0)]], [], places) :=
  ⟨[], by kernel_rfl⟩
set_option maxRecDepth 100000 in
theorem lifted (os : Os) (started : os.Started) (H : Type) (enc : TypeId × Value → H) (F : Stop.Interp) :
    ReturnsInHanded {} Tryd.checked os 12 .any ((OpenSpec.ofChange Rows.layoutSavedHoldsSpec).preRow enc Tryd.prog Tryd.f12 Rows.layoutSavedHoldsRow.domain false Rows.layoutSavedHoldsRow.laid) (((OpenSpec.ofChange Rows.layoutSavedHoldsSpec).at F).post enc Tryd.prog Tryd.f12 false true false false) := by
  obtain ⟨places, hx⟩ := read os enc
  refine returnsInHanded_of_row (C := Tryd.checked) (s := OpenSpec.ofChange Rows.layoutSavedHoldsSpec) law_own started (by kernel_rfl) Tryd.func12
    (witness_row_at (enc := enc) (C := Tryd.checked) false (laidWorld os) #[.int .u32 0, .slice none 0 0, .agg #[.int .i64 0, .int .u32 0]] rfl (by kernel_rfl) (by kernel_rfl) (by kernel_rfl)
      (OpenSpec.preRow_of_cond 8 hx (by kernel_rfl) (fun k hk => by cases hk) (by kernel_rfl) (laid_met os))) ?_
  intro W base args ds gs before hval hW _ _ hwt hL _ _
  exact contract H enc W base args ds gs before hval hW hL hwt
theorem said : Rows.LayoutSavedHoldsSaid :=
  OpenClaim.holds_of_cond 12 Tryd.f12 rfl rfl rfl rfl rfl rfl rfl ⟨rfl, rfl, rfl, rfl, rfl⟩ rfl rfl rfl rfl rfl (by kernel_rfl) Tryd.func12 (by kernel_rfl)
    (of_decide_eq_true (by kernel_rfl)) (by unfold Func.isWrapper; first | (rw [if_pos (by decide +kernel)]; kernel_rfl) | (rw [if_neg (by decide +kernel)]; exact ⟨rfl, rfl⟩))
    (fun os started H enc _ F => by rw [OpenClaim.pre_eq_preRow]; exact lifted os started H enc F)
theorem plain (f : FuncId) (fn : Func) (hf : Tryd.pinned.checked.prog.funcNamed "furrow/furrowlaw03.LayoutSavedHolds" = some f) (hfn : Tryd.pinned.checked.prog.funcs[f]? = some fn) :
    true = Tryd.pinned.checked.prog.looks [] ∧ ∀ (j : Nat) t, fn.params[j]? = some t → Tryd.pinned.checked.prog.wantsStandIn t = false := by
  obtain rfl : f = 12 := Option.some.inj ((show Tryd.prog.funcNamed "furrow/furrowlaw03.LayoutSavedHolds" = some 12 by kernel_rfl).symm.trans hf) |>.symm
  obtain rfl : fn = Tryd.f12 := (Option.some.inj (Tryd.func12.symm.trans hfn)).symm
  refine ⟨by kernel_rfl, fun j t ht => ?_⟩
  rw [Tryd.params12] at ht
  have ht' := Array.mem_of_getElem? ht
  simp only [List.mem_toArray, List.mem_cons, List.not_mem_nil, or_false] at ht'
  rcases ht' with rfl | rfl | rfl
  · exact (show Tryd.prog.wantsStandIn 48 = false by kernel_rfl)
  · exact (show Tryd.prog.wantsStandIn 72 = false by kernel_rfl)
  · exact (show Tryd.prog.wantsStandIn 50 = false by kernel_rfl)
theorem card : Rows.LayoutSavedHoldsCardSaid :=
  Claim7.holds_tied_plain_at .later [] _ _ _ _ said (fun _ h => by cases h) (by kernel_rfl) (fun _ h => by cases h) layoutSavedHolds_row_tie rfl ⟨rfl, rfl⟩ (by kernel_rfl) rfl plain (by kernel_rfl)
end Go.Proofs.YtoiebgnmknbkjaaDoor.layoutSavedHolds
