/- IlogTurns: whatever the input, true; what was handed in reads as it did: the card. -/
import Derived.Test.YtoiebgnmknbkjaaDoorCards
import Derived.Test.YtoiebgnmknbkjaaDoorTie
import Derived.SevenTiedAt
import Derived.Test.YtoiebgnmknbkjaaDoorLt
import Derived.Test.YtoiebgnmknbkjaaDoorC16
namespace Go.Proofs.YtoiebgnmknbkjaaDoor.ilogTurns
open Go Go.Wk Go.ChangeShapes Go.WideShapes Go.ChangeAt Go.RowKit
theorem reads : ∀ t ∈ Tryd.f19.params.toList, Tryd.prog.readableRec t = true ∧ t < Tryd.prog.types.size := by
  rw [Tryd.params19]
  intro t ht
  simp only [List.mem_cons, List.not_mem_nil, or_false] at ht
  rcases ht with rfl | rfl | rfl | rfl
  all_goals exact ⟨by kernel_rfl, by rw [Tryd.types_size]; decide⟩
set_option maxRecDepth 100000 in
theorem contract (H : Type) (enc : TypeId × Value → H) (W : World) (base : Nat) (args : Array Value) (ds gs : List (DataW H)) (before : List MemPlace)
    (hval : ∀ (j : Nat) t v, Tryd.f19.params[j]? = some t → args[j]? = some v → Value.okWide Tryd.prog W .any base t v)
    (hW : DataW.Whole enc Tryd.prog Tryd.f19.params.toList Rows.ilogTurnsSpec.vars false W args.toList ds gs before) (hL : laidMetH Tryd.prog Rows.ilogTurnsRow.laid W) :
    Calls Tryd.prog 19 args W fun e W' => ∃ v, e = .returned v ∧ Rows.ilogTurnsSpec.post enc Tryd.prog Tryd.f19 false true false false W args v W' := by
  have hW' := hW
  obtain ⟨p, q, hA0, hV, rfl, hfz, hnd⟩ := hW
  have hA : DataW.TrodAll enc Tryd.prog W 0 (fun _ => true) true Tryd.f19.params.toList args.toList ds p := hA0
  rw [Tryd.params19] at hA hval
  obtain ⟨v0, vs0, d0, ds0, p0, q0, hargs, rfl, rfl, h0, rr0⟩ := trodAll_cons hA
  obtain ⟨v1, vs1, d1, ds1, p1, q1, rfl, rfl, rfl, h1, rr1⟩ := trodAll_cons rr0
  obtain ⟨v2, vs2, d2, ds2, p2, q2, rfl, rfl, rfl, h2, rr2⟩ := trodAll_cons rr1
  obtain ⟨v3, vs3, d3, ds3, p3, q3, rfl, rfl, rfl, h3, rr3⟩ := trodAll_cons rr2
  obtain ⟨rfl, rfl, rfl⟩ := trodAll_nil rr3
  obtain rfl : args = #[v0, v1, v2, v3] := by cases args; simp_all
  obtain ⟨rfl, rfl⟩ := trodVars_none hV
  have ht : Tab W := tab_of hL
  have k0 := hval 0 3 v0 rfl rfl
  have k1 := hval 1 119 v1 rfl rfl
  have k2 := hval 2 119 v2 rfl rfl
  have k3 := hval 3 66 v3 rfl rfl
  obtain ⟨x0, rfl, r0⟩ := arg_int Tryd.underlying3 k0
  obtain ⟨cs1, rfl, hl1, hr1⟩ := arg_array Tryd.underlying119 k1
  rw [show Tryd.prog.cellsOf 119 = 5 by kernel_rfl] at hl1
  have hct1 : Tryd.prog.cellTypes Tryd.prog.depth 119 = some [3, 3, 3, 3, 3] := by kernel_rfl
  obtain ⟨e0, e1, e2, e3, e4, rfl⟩ : ∃ e0 e1 e2 e3 e4, cs1 = [e0, e1, e2, e3, e4] := by match cs1, hl1 with | [y0, y1, y2, y3, y4], _ => exact ⟨y0, y1, y2, y3, y4, rfl⟩
  obtain ⟨x1_0, rfl, r1_0⟩ := cell_int Tryd.underlying3 (row_at hct1 hr1 0 rfl rfl)
  obtain ⟨x1_1, rfl, r1_1⟩ := cell_int Tryd.underlying3 (row_at hct1 hr1 1 rfl rfl)
  obtain ⟨x1_2, rfl, r1_2⟩ := cell_int Tryd.underlying3 (row_at hct1 hr1 2 rfl rfl)
  obtain ⟨x1_3, rfl, r1_3⟩ := cell_int Tryd.underlying3 (row_at hct1 hr1 3 rfl rfl)
  obtain ⟨x1_4, rfl, r1_4⟩ := cell_int Tryd.underlying3 (row_at hct1 hr1 4 rfl rfl)
  obtain ⟨cs2, rfl, hl2, hr2⟩ := arg_array Tryd.underlying119 k2
  rw [show Tryd.prog.cellsOf 119 = 5 by kernel_rfl] at hl2
  have hct2 : Tryd.prog.cellTypes Tryd.prog.depth 119 = some [3, 3, 3, 3, 3] := by kernel_rfl
  obtain ⟨e0, e1, e2, e3, e4, rfl⟩ : ∃ e0 e1 e2 e3 e4, cs2 = [e0, e1, e2, e3, e4] := by match cs2, hl2 with | [y0, y1, y2, y3, y4], _ => exact ⟨y0, y1, y2, y3, y4, rfl⟩
  obtain ⟨x2_0, rfl, r2_0⟩ := cell_int Tryd.underlying3 (row_at hct2 hr2 0 rfl rfl)
  obtain ⟨x2_1, rfl, r2_1⟩ := cell_int Tryd.underlying3 (row_at hct2 hr2 1 rfl rfl)
  obtain ⟨x2_2, rfl, r2_2⟩ := cell_int Tryd.underlying3 (row_at hct2 hr2 2 rfl rfl)
  obtain ⟨x2_3, rfl, r2_3⟩ := cell_int Tryd.underlying3 (row_at hct2 hr2 3 rfl rfl)
  obtain ⟨x2_4, rfl, r2_4⟩ := cell_int Tryd.underlying3 (row_at hct2 hr2 4 rfl rfl)
  obtain ⟨cs3, rfl, hl3, hr3⟩ := arg_array Tryd.underlying66 k3
  rw [show Tryd.prog.cellsOf 66 = 3 by kernel_rfl] at hl3
  have hct3 : Tryd.prog.cellTypes Tryd.prog.depth 66 = some [40, 40, 40] := by kernel_rfl
  obtain ⟨e0, e1, e2, rfl⟩ : ∃ e0 e1 e2, cs3 = [e0, e1, e2] := by match cs3, hl3 with | [y0, y1, y2], _ => exact ⟨y0, y1, y2, rfl⟩
  obtain ⟨x3_0, rfl, r3_0⟩ := cell_int Tryd.underlying40 (row_at hct3 hr3 0 rfl rfl)
  obtain ⟨X3_0, rfl⟩ := hasU64 r3_0
  obtain ⟨x3_1, rfl, r3_1⟩ := cell_int Tryd.underlying40 (row_at hct3 hr3 1 rfl rfl)
  obtain ⟨X3_1, rfl⟩ := hasU64 r3_1
  obtain ⟨x3_2, rfl, r3_2⟩ := cell_int Tryd.underlying40 (row_at hct3 hr3 2 rfl rfl)
  obtain ⟨X3_2, rfl⟩ := hasU64 r3_2
  refine (lawTurns_p x0 x1_0 x1_1 x1_2 x1_3 x1_4 x2_0 x2_1 x2_2 x2_3 x2_4 X3_0 X3_1 X3_2 W ht).mono fun e W' ⟨he, hm⟩ => ⟨_, he, ?_⟩
  exact law_post law_laidOut reads rfl hW' rfl rfl Tryd.underlying4 hm
theorem laid_met (os : Os) : laidMet Tryd.prog Rows.ilogTurnsRow.laid ((laidWorld os).forCall (fun _ _ => 0) ⟨#[], #[.int .i64 0, .agg #[.int .i64 0, .int .i64 0, .int .i64 0, .int .i64 0, .int .i64 0], .agg #[.int .i64 0, .int .i64 0, .int .i64 0, .int .i64 0, .int .i64 0], .agg #[.int .u64 0, .int .u64 0, .int .u64 0]], []⟩).memory :=
  laidMet_of_run' 8 (by kernel_rfl) (by kernel_rfl)
theorem read (os : Os) {H : Type} (enc : TypeId × Value → H) : ∃ places, DataW.whole enc Tryd.prog ((laidWorld os).forCall (fun _ _ => 0) ⟨#[], #[.int .i64 0, .agg #[.int .i64 0, .int .i64 0, .int .i64 0, .int .i64 0, .int .i64 0], .agg #[.int .i64 0, .int .i64 0, .int .i64 0, .int .i64 0, .int .i64 0], .agg #[.int .u64 0, .int .u64 0, .int .u64 0]], []⟩).memory Tryd.f19.params.toList Rows.ilogTurnsSpec.vars false (#[.int .i64 0, .agg #[.int .i64 0, .int .i64 0, .int .i64 0, .int .i64 0, .int .i64 0], .agg #[.int .i64 0, .int .i64 0, .int .i64 0, .int .i64 0, .int .i64 0], .agg #[.int .u64 0, .int .u64 0, .int .u64 0]] : Array Value).toList 8 = some ([.lit (.int .i64 0), .agg [.lit (.int .i64 0), .lit (.int .i64 0), .lit (.int .i64 0), .lit (.int .i64 0), .lit (.int .i64 0)], .agg [.lit (.int .i64 0), .lit (.int .i64 0), .lit (.int .i64 0), .lit (.int .i64 0), .lit (.int .i64 0)], .agg [.lit (.int .u64 0), .lit (.int .u64 0), .lit (.int .u64 0)]], [], places) :=
  ⟨[], by kernel_rfl⟩
set_option maxRecDepth 100000 in
theorem lifted (os : Os) (started : os.Started) (H : Type) (enc : TypeId × Value → H) (F : Stop.Interp) :
    ReturnsInHanded {} Tryd.checked os 19 .any ((OpenSpec.ofChange Rows.ilogTurnsSpec).preRow enc Tryd.prog Tryd.f19 Rows.ilogTurnsRow.domain false Rows.ilogTurnsRow.laid) (((OpenSpec.ofChange Rows.ilogTurnsSpec).at F).post enc Tryd.prog Tryd.f19 false true false false) := by
  obtain ⟨places, hx⟩ := read os enc
  refine returnsInHanded_of_row (C := Tryd.checked) (s := OpenSpec.ofChange Rows.ilogTurnsSpec) law_own started (by kernel_rfl) Tryd.func19
    (witness_row_at (enc := enc) (C := Tryd.checked) false (laidWorld os) #[.int .i64 0, .agg #[.int .i64 0, .int .i64 0, .int .i64 0, .int .i64 0, .int .i64 0], .agg #[.int .i64 0, .int .i64 0, .int .i64 0, .int .i64 0, .int .i64 0], .agg #[.int .u64 0, .int .u64 0, .int .u64 0]] rfl (by kernel_rfl) (by kernel_rfl) (by kernel_rfl)
      (OpenSpec.preRow_of_cond 8 hx (by kernel_rfl) (fun k hk => by cases hk) (by kernel_rfl) (laid_met os))) ?_
  intro W base args ds gs before hval hW _ _ _ hL _ _
  exact contract H enc W base args ds gs before hval hW hL
theorem said : Rows.IlogTurnsSaid :=
  OpenClaim.holds_of_cond 19 Tryd.f19 rfl rfl rfl rfl rfl rfl rfl ⟨rfl, rfl, rfl, rfl, rfl⟩ rfl rfl rfl rfl rfl (by kernel_rfl) Tryd.func19 (by kernel_rfl)
    (of_decide_eq_true (by kernel_rfl)) (by unfold Func.isWrapper; first | (rw [if_pos (by decide +kernel)]; kernel_rfl) | (rw [if_neg (by decide +kernel)]; exact ⟨rfl, rfl⟩))
    (fun os started H enc _ F => by rw [OpenClaim.pre_eq_preRow]; exact lifted os started H enc F)
theorem plain (f : FuncId) (fn : Func) (hf : Tryd.pinned.checked.prog.funcNamed "furrow/furrowlaw06.IlogTurns" = some f) (hfn : Tryd.pinned.checked.prog.funcs[f]? = some fn) :
    true = Tryd.pinned.checked.prog.looks [] ∧ ∀ (j : Nat) t, fn.params[j]? = some t → Tryd.pinned.checked.prog.wantsStandIn t = false := by
  obtain rfl : f = 19 := Option.some.inj ((show Tryd.prog.funcNamed "furrow/furrowlaw06.IlogTurns" = some 19 by kernel_rfl).symm.trans hf) |>.symm
  obtain rfl : fn = Tryd.f19 := (Option.some.inj (Tryd.func19.symm.trans hfn)).symm
  refine ⟨by kernel_rfl, fun j t ht => ?_⟩
  rw [Tryd.params19] at ht
  have ht' := Array.mem_of_getElem? ht
  simp only [List.mem_toArray, List.mem_cons, List.not_mem_nil, or_false] at ht'
  rcases ht' with rfl | rfl | rfl | rfl
  · exact (show Tryd.prog.wantsStandIn 3 = false by kernel_rfl)
  · exact (show Tryd.prog.wantsStandIn 119 = false by kernel_rfl)
  · exact (show Tryd.prog.wantsStandIn 119 = false by kernel_rfl)
  · exact (show Tryd.prog.wantsStandIn 66 = false by kernel_rfl)
theorem card : Rows.IlogTurnsCardSaid :=
  Claim7.holds_tied_plain_at .later [] _ _ _ _ said (fun _ h => by cases h) (by kernel_rfl) (fun _ h => by cases h) ilogTurns_row_tie rfl ⟨rfl, rfl⟩ (by kernel_rfl) rfl plain (by kernel_rfl)
end Go.Proofs.YtoiebgnmknbkjaaDoor.ilogTurns
