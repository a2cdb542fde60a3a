/- LayoutEntryHolds: whatever the input, true; what was handed in reads as it did: the card. -/
import Derived.Test.YtoiebgnmknbkjaaDoorCards
import Derived.Test.YtoiebgnmknbkjaaDoorTie
import Derived.SevenTiedAt
import Derived.Test.YtoiebgnmknbkjaaDoorLt
import Derived.Test.YtoiebgnmknbkjaaDoorC11
namespace Go.Proofs.YtoiebgnmknbkjaaDoor.layoutEntryHolds
open Go Go.Wk Go.ChangeShapes Go.WideShapes Go.ChangeAt Go.RowKit
theorem reads : ∀ t ∈ Tryd.f14.params.toList, Tryd.prog.readableRec t = true ∧ t < Tryd.prog.types.size := by
  rw [Tryd.params14]
  intro t ht
  simp only [List.mem_cons, List.not_mem_nil, or_false] at ht
  rcases ht with rfl | rfl
  all_goals exact ⟨by kernel_rfl, by rw [Tryd.types_size]; decide⟩
set_option maxRecDepth 100000 in
theorem contract (H : Type) (enc : TypeId × Value → H) (W : World) (base : Nat) (args : Array Value) (ds gs : List (DataW H)) (before : List MemPlace)
    (hval : ∀ (j : Nat) t v, Tryd.f14.params[j]? = some t → args[j]? = some v → Value.okWide Tryd.prog W .any base t v)
    (hW : DataW.Whole enc Tryd.prog Tryd.f14.params.toList Rows.layoutEntryHoldsSpec.vars false W args.toList ds gs before) (hL : laidMetH Tryd.prog Rows.layoutEntryHoldsRow.laid W) :
    Calls Tryd.prog 14 args W fun e W' => ∃ v, e = .returned v ∧ Rows.layoutEntryHoldsSpec.post enc Tryd.prog Tryd.f14 false true false false W args v W' := by
  have hW' := hW
  obtain ⟨p, q, hA0, hV, rfl, hfz, hnd⟩ := hW
  have hA : DataW.TrodAll enc Tryd.prog W 0 (fun _ => true) true Tryd.f14.params.toList args.toList ds p := hA0
  rw [Tryd.params14] at hA hval
  obtain ⟨v0, vs0, d0, ds0, p0, q0, hargs, rfl, rfl, h0, rr0⟩ := trodAll_cons hA
  obtain ⟨v1, vs1, d1, ds1, p1, q1, rfl, rfl, rfl, h1, rr1⟩ := trodAll_cons rr0
  obtain ⟨rfl, rfl, rfl⟩ := trodAll_nil rr1
  obtain rfl : args = #[v0, v1] := by cases args; simp_all
  obtain ⟨rfl, rfl⟩ := trodVars_none hV
  have ht : Tab W := tab_of hL
  have k0 := hval 0 98 v0 rfl rfl
  have k1 := hval 1 30 v1 rfl rfl
  obtain ⟨cs0, rfl, hl0, hr0⟩ := arg_struct Tryd.underlying98 k0
  rw [show Tryd.prog.cellsOf 98 = 9 by kernel_rfl] at hl0
  have hct0 : Tryd.prog.cellTypes Tryd.prog.depth 98 = some [3, 3, 3, 3, 3, 40, 9, 3, 48] := by kernel_rfl
  obtain ⟨e0, e1, e2, e3, e4, e5, e6, e7, e8, rfl⟩ : ∃ e0 e1 e2 e3 e4 e5 e6 e7 e8, cs0 = [e0, e1, e2, e3, e4, e5, e6, e7, e8] := by match cs0, hl0 with | [y0, y1, y2, y3, y4, y5, y6, y7, y8], _ => exact ⟨y0, y1, y2, y3, y4, y5, y6, y7, y8, rfl⟩
  obtain ⟨x0_0, rfl, r0_0⟩ := cell_int Tryd.underlying3 (row_at hct0 hr0 0 rfl rfl)
  obtain ⟨x0_1, rfl, r0_1⟩ := cell_int Tryd.underlying3 (row_at hct0 hr0 1 rfl rfl)
  obtain ⟨x0_2, rfl, r0_2⟩ := cell_int Tryd.underlying3 (row_at hct0 hr0 2 rfl rfl)
  obtain ⟨x0_3, rfl, r0_3⟩ := cell_int Tryd.underlying3 (row_at hct0 hr0 3 rfl rfl)
  obtain ⟨x0_4, rfl, r0_4⟩ := cell_int Tryd.underlying3 (row_at hct0 hr0 4 rfl rfl)
  obtain ⟨x0_5, rfl, r0_5⟩ := cell_int Tryd.underlying40 (row_at hct0 hr0 5 rfl rfl)
  obtain ⟨X0_5, rfl⟩ := hasU64 r0_5
  obtain ⟨s0_6, rfl, hs0_6⟩ := cell_string Tryd.underlying9 (row_at hct0 hr0 6 rfl rfl)
  obtain ⟨x0_7, rfl, r0_7⟩ := cell_int Tryd.underlying3 (row_at hct0 hr0 7 rfl rfl)
  obtain ⟨x0_8, rfl, r0_8⟩ := cell_int Tryd.underlying48 (row_at hct0 hr0 8 rfl rfl)
  obtain ⟨X0_8, rfl⟩ := hasU32 r0_8
  obtain ⟨l1, rfl, hl1⟩ := arg_bytes (n := 64) (ts := List.replicate 64 5) Tryd.underlying30 Tryd.underlying5 (by kernel_rfl) (fun u hu => List.eq_of_mem_replicate hu) (by kernel_rfl) k1
  refine (lawEntryHolds_p x0_0 x0_1 x0_2 x0_3 x0_4 x0_7 X0_5 s0_6 X0_8 l1 W ht hl1 hs0_6).mono fun e W' ⟨he, hm⟩ => ⟨_, he, ?_⟩
  exact law_post law_laidOut reads rfl hW' rfl rfl Tryd.underlying4 hm
theorem laid_met (os : Os) : laidMet Tryd.prog Rows.layoutEntryHoldsRow.laid ((laidWorld os).forCall (fun _ _ => 0) ⟨#[], #[.agg #[.int .i64 0, .int .i64 0, .int .i64 0, .int .i64 0, .int .i64 0, .int .u64 0, .string ⟨#[]⟩, .int .i64 0, .int .u32 0], .agg (List.replicate 64 (Value.int .u8 0)).toArray], []⟩).memory :=
  laidMet_of_run' 8 (by kernel_rfl) (by kernel_rfl)
theorem read (os : Os) {H : Type} (enc : TypeId × Value → H) : ∃ places, DataW.whole enc Tryd.prog ((laidWorld os).forCall (fun _ _ => 0) ⟨#[], #[.agg #[.int .i64 0, .int .i64 0, .int .i64 0, .int .i64 0, .int .i64 0, .int .u64 0, .string ⟨#[]⟩, .int .i64 0, .int .u32 0], .agg (List.replicate 64 (Value.int .u8 0)).toArray], []⟩).memory Tryd.f14.params.toList Rows.layoutEntryHoldsSpec.vars false (#[.agg #[.int .i64 0, .int .i64 0, .int .i64 0, .int .i64 0, .int .i64 0, .int .u64 0, .string ⟨#[]⟩, .int .i64 0, .int .u32 0], .agg (List.replicate 64 (Value.int .u8 0)).toArray] : Array Value).toList 8 = some ([.agg [.lit (.int .i64 0), .lit (.int .i64 0), .lit (.int .i64 0), .lit (.int .i64 0), .lit (.int .i64 0), .lit (.int .u64 0), .lit (.string []), .agg [.lit (.int .i64 0), .lit (.int .u32 0)]], .agg (List.replicate 64 (DataW.lit (.int .u8 0)))], [], places) :=
  ⟨[], by kernel_rfl⟩
set_option maxRecDepth 100000 in
theorem lifted (os : Os) (started : os.Started) (H : Type) (enc : TypeId × Value → H) (F : Stop.Interp) :
    ReturnsInHanded {} Tryd.checked os 14 .any ((OpenSpec.ofChange Rows.layoutEntryHoldsSpec).preRow enc Tryd.prog Tryd.f14 Rows.layoutEntryHoldsRow.domain false Rows.layoutEntryHoldsRow.laid) (((OpenSpec.ofChange Rows.layoutEntryHoldsSpec).at F).post enc Tryd.prog Tryd.f14 false true false false) := by
  obtain ⟨places, hx⟩ := read os enc
  refine returnsInHanded_of_row (C := Tryd.checked) (s := OpenSpec.ofChange Rows.layoutEntryHoldsSpec) law_own started (by kernel_rfl) Tryd.func14
    (witness_row_at (enc := enc) (C := Tryd.checked) false (laidWorld os) #[.agg #[.int .i64 0, .int .i64 0, .int .i64 0, .int .i64 0, .int .i64 0, .int .u64 0, .string ⟨#[]⟩, .int .i64 0, .int .u32 0], .agg (List.replicate 64 (Value.int .u8 0)).toArray] rfl (by kernel_rfl) (by kernel_rfl) (by kernel_rfl)
      (OpenSpec.preRow_of_cond 8 hx (by kernel_rfl) (fun k hk => by cases hk) (by kernel_rfl) (laid_met os))) ?_
  intro W base args ds gs before hval hW _ _ _ hL _ _
  exact contract H enc W base args ds gs before hval hW hL
theorem said : Rows.LayoutEntryHoldsSaid :=
  OpenClaim.holds_of_cond 14 Tryd.f14 rfl rfl rfl rfl rfl rfl rfl ⟨rfl, rfl, rfl, rfl, rfl⟩ rfl rfl rfl rfl rfl (by kernel_rfl) Tryd.func14 (by kernel_rfl)
    (of_decide_eq_true (by kernel_rfl)) (by unfold Func.isWrapper; first | (rw [if_pos (by decide +kernel)]; kernel_rfl) | (rw [if_neg (by decide +kernel)]; exact ⟨rfl, rfl⟩))
    (fun os started H enc _ F => by rw [OpenClaim.pre_eq_preRow]; exact lifted os started H enc F)
theorem plain (f : FuncId) (fn : Func) (hf : Tryd.pinned.checked.prog.funcNamed "furrow/furrowlaw03.LayoutEntryHolds" = some f) (hfn : Tryd.pinned.checked.prog.funcs[f]? = some fn) :
    true = Tryd.pinned.checked.prog.looks [] ∧ ∀ (j : Nat) t, fn.params[j]? = some t → Tryd.pinned.checked.prog.wantsStandIn t = false := by
  obtain rfl : f = 14 := Option.some.inj ((show Tryd.prog.funcNamed "furrow/furrowlaw03.LayoutEntryHolds" = some 14 by kernel_rfl).symm.trans hf) |>.symm
  obtain rfl : fn = Tryd.f14 := (Option.some.inj (Tryd.func14.symm.trans hfn)).symm
  refine ⟨by kernel_rfl, fun j t ht => ?_⟩
  rw [Tryd.params14] at ht
  have ht' := Array.mem_of_getElem? ht
  simp only [List.mem_toArray, List.mem_cons, List.not_mem_nil, or_false] at ht'
  rcases ht' with rfl | rfl
  · exact (show Tryd.prog.wantsStandIn 98 = false by kernel_rfl)
  · exact (show Tryd.prog.wantsStandIn 30 = false by kernel_rfl)
theorem card : Rows.LayoutEntryHoldsCardSaid :=
  Claim7.holds_tied_plain_at .later [] _ _ _ _ said (fun _ h => by cases h) (by kernel_rfl) (fun _ h => by cases h) layoutEntryHolds_row_tie rfl ⟨rfl, rfl⟩ (by kernel_rfl) rfl plain (by kernel_rfl)
end Go.Proofs.YtoiebgnmknbkjaaDoor.layoutEntryHolds
