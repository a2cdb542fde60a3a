/- LayoutSlotHolds: whatever the input, true; what was handed in reads as it did: the card. -/
import Derived.Test.YtoiebgnmknbkjaaDoorCards
import Derived.Test.YtoiebgnmknbkjaaDoorTie
import Derived.SevenTiedAt
import Derived.Test.YtoiebgnmknbkjaaDoorLt
import Derived.Test.YtoiebgnmknbkjaaDoorC10
namespace Go.Proofs.YtoiebgnmknbkjaaDoor.layoutSlotHolds
open Go Go.Wk Go.ChangeShapes Go.WideShapes Go.ChangeAt Go.RowKit
theorem reads : ∀ t ∈ Tryd.f11.params.toList, Tryd.prog.readableRec t = true ∧ t < Tryd.prog.types.size := by
  rw [Tryd.params11]
  intro t ht
  simp only [List.mem_cons, List.not_mem_nil, or_false] at ht
  subst ht
  exact ⟨by kernel_rfl, by rw [Tryd.types_size]; decide⟩
set_option maxRecDepth 100000 in
theorem contract (H : Type) (enc : TypeId × Value → H) (W : World) (base : Nat) (args : Array Value) (ds gs : List (DataW H)) (before : List MemPlace)
    (hval : ∀ (j : Nat) t v, Tryd.f11.params[j]? = some t → args[j]? = some v → Value.okWide Tryd.prog W .any base t v)
    (hW : DataW.Whole enc Tryd.prog Tryd.f11.params.toList Rows.layoutSlotHoldsSpec.vars false W args.toList ds gs before) (hL : laidMetH Tryd.prog Rows.layoutSlotHoldsRow.laid W) :
    Calls Tryd.prog 11 args W fun e W' => ∃ v, e = .returned v ∧ Rows.layoutSlotHoldsSpec.post enc Tryd.prog Tryd.f11 false true false false W args v W' := by
  have hW' := hW
  obtain ⟨p, q, hA0, hV, rfl, hfz, hnd⟩ := hW
  have hA : DataW.TrodAll enc Tryd.prog W 0 (fun _ => true) true Tryd.f11.params.toList args.toList ds p := hA0
  rw [Tryd.params11] at hA hval
  obtain ⟨v0, vs0, d0, ds0, p0, q0, hargs, rfl, rfl, h0, rr0⟩ := trodAll_cons hA
  obtain ⟨rfl, rfl, rfl⟩ := trodAll_nil rr0
  obtain rfl : args = #[v0] := by cases args; simp_all
  obtain ⟨rfl, rfl⟩ := trodVars_none hV
  have ht : Tab W := tab_of hL
  have k0 := hval 0 83 v0 rfl rfl
  obtain ⟨cs0, rfl, hl0, hr0⟩ := arg_struct Tryd.underlying83 k0
  rw [show Tryd.prog.cellsOf 83 = 11 by kernel_rfl] at hl0
  have hct0 : Tryd.prog.cellTypes Tryd.prog.depth 83 = some [3, 3, 3, 3, 3, 3, 3, 4, 3, 3, 48] := by kernel_rfl
  obtain ⟨e0, e1, e2, e3, e4, e5, e6, e7, e8, e9, e10, rfl⟩ : ∃ e0 e1 e2 e3 e4 e5 e6 e7 e8 e9 e10, cs0 = [e0, e1, e2, e3, e4, e5, e6, e7, e8, e9, e10] := by match cs0, hl0 with | [y0, y1, y2, y3, y4, y5, y6, y7, y8, y9, y10], _ => exact ⟨y0, y1, y2, y3, y4, y5, y6, y7, y8, y9, y10, rfl⟩
  obtain ⟨x0_0, rfl, r0_0⟩ := cell_int Tryd.underlying3 (row_at hct0 hr0 0 rfl rfl)
  obtain ⟨x0_1, rfl, r0_1⟩ := cell_int Tryd.underlying3 (row_at hct0 hr0 1 rfl rfl)
  obtain ⟨x0_2, rfl, r0_2⟩ := cell_int Tryd.underlying3 (row_at hct0 hr0 2 rfl rfl)
  obtain ⟨x0_3, rfl, r0_3⟩ := cell_int Tryd.underlying3 (row_at hct0 hr0 3 rfl rfl)
  obtain ⟨x0_4, rfl, r0_4⟩ := cell_int Tryd.underlying3 (row_at hct0 hr0 4 rfl rfl)
  obtain ⟨x0_5, rfl, r0_5⟩ := cell_int Tryd.underlying3 (row_at hct0 hr0 5 rfl rfl)
  obtain ⟨x0_6, rfl, r0_6⟩ := cell_int Tryd.underlying3 (row_at hct0 hr0 6 rfl rfl)
  obtain ⟨x0_7, rfl⟩ := cell_bool Tryd.underlying4 (row_at hct0 hr0 7 rfl rfl)
  obtain ⟨x0_8, rfl, r0_8⟩ := cell_int Tryd.underlying3 (row_at hct0 hr0 8 rfl rfl)
  obtain ⟨x0_9, rfl, r0_9⟩ := cell_int Tryd.underlying3 (row_at hct0 hr0 9 rfl rfl)
  obtain ⟨x0_10, rfl, r0_10⟩ := cell_int Tryd.underlying48 (row_at hct0 hr0 10 rfl rfl)
  obtain ⟨X0_10, rfl⟩ := hasU32 r0_10
  refine (lawSlotHolds_p x0_0 x0_1 x0_2 x0_3 x0_4 x0_5 x0_6 x0_7 x0_8 x0_9 X0_10 W ht).mono fun e W' ⟨he, hm⟩ => ⟨_, he, ?_⟩
  exact law_post law_laidOut reads rfl hW' rfl rfl Tryd.underlying4 hm
theorem laid_met (os : Os) : laidMet Tryd.prog Rows.layoutSlotHoldsRow.laid ((laidWorld os).forCall (fun _ _ => 0) ⟨#[], #[.agg #[.int .i64 0, .int .i64 0, .int .i64 0, .int .i64 0, .int .i64 0, .int .i64 0, .int .i64 0, .bool false, .int .i64 0, .int .i64 0, .int .u32 0]], []⟩).memory :=
  laidMet_of_run' 8 (by kernel_rfl) (by kernel_rfl)
theorem read (os : Os) {H : Type} (enc : TypeId × Value → H) : ∃ places, DataW.whole enc Tryd.prog ((laidWorld os).forCall (fun _ _ => 0) ⟨#[], #[.agg #[.int .i64 0, .int .i64 0, .int .i64 0, .int .i64 0, .int .i64 0, .int .i64 0, .int .i64 0, .bool false, .int .i64 0, .int .i64 0, .int .u32 0]], []⟩).memory Tryd.f11.params.toList Rows.layoutSlotHoldsSpec.vars false (#[.agg #[.int .i64 0, .int .i64 0, .int .i64 0, .int .i64 0, .int .i64 0, .int .i64 0, .int .i64 0, .bool false, .int .i64 0, .int .i64 0, .int .u32 0]] : Array Value).toList 8 = some ([.agg [.lit (.int .i64 0), .lit (.int .i64 0), .lit (.int .i64 0), .lit (.int .i64 0), .lit (.int .i64 0), .lit (.int .i64 0), .lit (.int .i64 0), .lit (.bool false), .lit (.int .i64 0), .agg [.lit (.int .i64 0), .lit (.int .u32 0)]]], [], places) :=
  ⟨[], by kernel_rfl⟩
set_option maxRecDepth 100000 in
theorem lifted (os : Os) (started : os.Started) (H : Type) (enc : TypeId × Value → H) (F : Stop.Interp) :
    ReturnsInHanded {} Tryd.checked os 11 .any ((OpenSpec.ofChange Rows.layoutSlotHoldsSpec).preRow enc Tryd.prog Tryd.f11 Rows.layoutSlotHoldsRow.domain false Rows.layoutSlotHoldsRow.laid) (((OpenSpec.ofChange Rows.layoutSlotHoldsSpec).at F).post enc Tryd.prog Tryd.f11 false true false false) := by
  obtain ⟨places, hx⟩ := read os enc
  refine returnsInHanded_of_row (C := Tryd.checked) (s := OpenSpec.ofChange Rows.layoutSlotHoldsSpec) law_own started (by kernel_rfl) Tryd.func11
    (witness_row_at (enc := enc) (C := Tryd.checked) false (laidWorld os) #[.agg #[.int .i64 0, .int .i64 0, .int .i64 0, .int .i64 0, .int .i64 0, .int .i64 0, .int .i64 0, .bool false, .int .i64 0, .int .i64 0, .int .u32 0]] rfl (by kernel_rfl) (by kernel_rfl) (by kernel_rfl)
      (OpenSpec.preRow_of_cond 8 hx (by kernel_rfl) (fun k hk => by cases hk) (by kernel_rfl) (laid_met os))) ?_
  intro W base args ds gs before hval hW _ _ _ hL _ _
  exact contract H enc W base args ds gs before hval hW hL
theorem said : Rows.LayoutSlotHoldsSaid :=
  OpenClaim.holds_of_cond 11 Tryd.f11 rfl rfl rfl rfl rfl rfl rfl ⟨rfl, rfl, rfl, rfl, rfl⟩ rfl rfl rfl rfl rfl (by kernel_rfl) Tryd.func11 (by kernel_rfl)
    (of_decide_eq_true (by kernel_rfl)) (by unfold Func.isWrapper; first | (rw [if_pos (by decide +kernel)]; kernel_rfl) | (rw [if_neg (by decide +kernel)]; exact ⟨rfl, rfl⟩))
    (fun os started H enc _ F => by rw [OpenClaim.pre_eq_preRow]; exact lifted os started H enc F)
theorem plain (f : FuncId) (fn : Func) (hf : Tryd.pinned.checked.prog.funcNamed "furrow/furrowlaw03.LayoutSlotHolds" = some f) (hfn : Tryd.pinned.checked.prog.funcs[f]? = some fn) :
    true = Tryd.pinned.checked.prog.looks [] ∧ ∀ (j : Nat) t, fn.params[j]? = some t → Tryd.pinned.checked.prog.wantsStandIn t = false := by
  obtain rfl : f = 11 := Option.some.inj ((show Tryd.prog.funcNamed "furrow/furrowlaw03.LayoutSlotHolds" = some 11 by kernel_rfl).symm.trans hf) |>.symm
  obtain rfl : fn = Tryd.f11 := (Option.some.inj (Tryd.func11.symm.trans hfn)).symm
  refine ⟨by kernel_rfl, fun j t ht => ?_⟩
  rw [Tryd.params11] at ht
  have ht' := Array.mem_of_getElem? ht
  simp only [List.mem_toArray, List.mem_cons, List.not_mem_nil, or_false] at ht'
  subst ht'
  exact (show Tryd.prog.wantsStandIn 83 = false by kernel_rfl)
theorem card : Rows.LayoutSlotHoldsCardSaid :=
  Claim7.holds_tied_plain_at .later [] _ _ _ _ said (fun _ h => by cases h) (by kernel_rfl) (fun _ h => by cases h) layoutSlotHolds_row_tie rfl ⟨rfl, rfl⟩ (by kernel_rfl) rfl plain (by kernel_rfl)
end Go.Proofs.YtoiebgnmknbkjaaDoor.layoutSlotHolds
