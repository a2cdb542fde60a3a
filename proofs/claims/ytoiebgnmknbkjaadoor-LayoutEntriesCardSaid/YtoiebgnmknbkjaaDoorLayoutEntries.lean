/- LayoutEntries: whatever the input, true; what was handed in reads as it did: the card. -/
import Derived.Test.YtoiebgnmknbkjaaDoorCards
import Derived.Test.YtoiebgnmknbkjaaDoorTie
import Derived.SevenTiedAt
import Derived.Test.YtoiebgnmknbkjaaDoorLt
import Derived.Test.YtoiebgnmknbkjaaDoorC8
namespace Go.Proofs.YtoiebgnmknbkjaaDoor.layoutEntries
open Go Go.Wk Go.ChangeShapes Go.WideShapes Go.ChangeAt Go.RowKit
theorem reads : ∀ t ∈ Tryd.f13.params.toList, Tryd.prog.readableRec t = true ∧ t < Tryd.prog.types.size := by
  rw [Tryd.params13]
  intro t ht
  simp only [List.mem_cons, List.not_mem_nil, or_false] at ht
  rcases ht with rfl | rfl
  all_goals exact ⟨by kernel_rfl, by rw [Tryd.types_size]; decide⟩
set_option maxRecDepth 100000 in
theorem contract (H : Type) (enc : TypeId × Value → H) (W : World) (base : Nat) (args : Array Value) (ds gs : List (DataW H)) (before : List MemPlace)
    (hval : ∀ (j : Nat) t v, Tryd.f13.params[j]? = some t → args[j]? = some v → Value.okWide Tryd.prog W .any base t v)
    (hW : DataW.Whole enc Tryd.prog Tryd.f13.params.toList Rows.layoutEntriesSpec.vars false W args.toList ds gs before) (hL : laidMetH Tryd.prog Rows.layoutEntriesRow.laid W) :
    Calls Tryd.prog 13 args W fun e W' => ∃ v, e = .returned v ∧ Rows.layoutEntriesSpec.post enc Tryd.prog Tryd.f13 false true false false W args v W' := by
  have hW' := hW
  obtain ⟨p, q, hA0, hV, rfl, hfz, hnd⟩ := hW
  have hA : DataW.TrodAll enc Tryd.prog W 0 (fun _ => true) true Tryd.f13.params.toList args.toList ds p := hA0
  rw [Tryd.params13] at hA hval
  obtain ⟨v0, vs0, d0, ds0, p0, q0, hargs, rfl, rfl, h0, rr0⟩ := trodAll_cons hA
  obtain ⟨v1, vs1, d1, ds1, p1, q1, rfl, rfl, rfl, h1, rr1⟩ := trodAll_cons rr0
  obtain ⟨rfl, rfl, rfl⟩ := trodAll_nil rr1
  obtain rfl : args = #[v0, v1] := by cases args; simp_all
  obtain ⟨rfl, rfl⟩ := trodVars_none hV
  have ht : Tab W := tab_of hL
  have k0 := hval 0 92 v0 rfl rfl
  have k1 := hval 1 30 v1 rfl rfl
  obtain ⟨cs, rfl, hl0, hr0⟩ := arg_struct Tryd.underlying92 k0
  rw [show Tryd.prog.cellsOf 92 = 8 by kernel_rfl] at hl0
  have hct : Tryd.prog.cellTypes Tryd.prog.depth 92 = some [3, 40, 3, 3, 3, 3, 3, 9] := by kernel_rfl
  obtain ⟨c0, c1, c2, c3, c4, c5, c6, c7, rfl⟩ : ∃ c0 c1 c2 c3 c4 c5 c6 c7, cs = [c0, c1, c2, c3, c4, c5, c6, c7] := by match cs, hl0 with | [x0, x1, x2, x3, x4, x5, x6, x7], _ => exact ⟨x0, x1, x2, x3, x4, x5, x6, x7, rfl⟩
  obtain ⟨x0, rfl, r0⟩ := cell_int Tryd.underlying3 (row_at hct hr0 0 rfl rfl)
  obtain ⟨x1, rfl, r1⟩ := cell_int Tryd.underlying40 (row_at hct hr0 1 rfl rfl)
  obtain ⟨x2, rfl, r2⟩ := cell_int Tryd.underlying3 (row_at hct hr0 2 rfl rfl)
  obtain ⟨x3, rfl, r3⟩ := cell_int Tryd.underlying3 (row_at hct hr0 3 rfl rfl)
  obtain ⟨x4, rfl, r4⟩ := cell_int Tryd.underlying3 (row_at hct hr0 4 rfl rfl)
  obtain ⟨x5, rfl, r5⟩ := cell_int Tryd.underlying3 (row_at hct hr0 5 rfl rfl)
  obtain ⟨x6, rfl, r6⟩ := cell_int Tryd.underlying3 (row_at hct hr0 6 rfl rfl)
  obtain ⟨s, rfl, hs⟩ := cell_string Tryd.underlying9 (row_at hct hr0 7 rfl rfl)
  obtain ⟨u1, hu1⟩ := hasU64 r1
  obtain ⟨l, rfl, hl⟩ := arg_bytes (n := 64) (ts := List.replicate 64 5) Tryd.underlying30 Tryd.underlying5 (by kernel_rfl) (fun u hu => List.eq_of_mem_replicate hu) (by kernel_rfl) k1
  refine (lawEntries_p x0 x1 x2 x3 x4 x5 x6 s l W ht hl hs (by omega) (has64 r4)).mono fun e W' ⟨he, hm⟩ => ⟨_, he, ?_⟩
  exact law_post law_laidOut reads rfl hW' rfl rfl Tryd.underlying4 hm
theorem laid_met (os : Os) : laidMet Tryd.prog Rows.layoutEntriesRow.laid ((laidWorld os).forCall (fun _ _ => 0) ⟨#[], #[.agg #[.int .i64 0, .int .u64 0, .int .i64 0, .int .i64 0, .int .i64 0, .int .i64 0, .int .i64 0, .string ⟨#[]⟩], .agg (List.replicate 64 (Value.int IntKind.u8 0)).toArray], []⟩).memory :=
  laidMet_of_run' 8 (by kernel_rfl) (by kernel_rfl)
theorem read (os : Os) {H : Type} (enc : TypeId × Value → H) : ∃ places, DataW.whole enc Tryd.prog ((laidWorld os).forCall (fun _ _ => 0) ⟨#[], #[.agg #[.int .i64 0, .int .u64 0, .int .i64 0, .int .i64 0, .int .i64 0, .int .i64 0, .int .i64 0, .string ⟨#[]⟩], .agg (List.replicate 64 (Value.int IntKind.u8 0)).toArray], []⟩).memory Tryd.f13.params.toList Rows.layoutEntriesSpec.vars false (#[.agg #[.int .i64 0, .int .u64 0, .int .i64 0, .int .i64 0, .int .i64 0, .int .i64 0, .int .i64 0, .string ⟨#[]⟩], .agg (List.replicate 64 (Value.int IntKind.u8 0)).toArray] : Array Value).toList 8 = some ([.agg [.lit (.int .i64 0), .lit (.int .u64 0), .lit (.int .i64 0), .lit (.int .i64 0), .lit (.int .i64 0), .lit (.int .i64 0), .lit (.int .i64 0), .lit (.string [])], .agg (List.replicate 64 (DataW.lit (.int .u8 0)))], [], places) :=
  ⟨[], by kernel_rfl⟩
set_option maxRecDepth 100000 in
theorem lifted (os : Os) (started : os.Started) (H : Type) (enc : TypeId × Value → H) (F : Stop.Interp) :
    ReturnsInHanded {} Tryd.checked os 13 .any ((OpenSpec.ofChange Rows.layoutEntriesSpec).preRow enc Tryd.prog Tryd.f13 Rows.layoutEntriesRow.domain false Rows.layoutEntriesRow.laid) (((OpenSpec.ofChange Rows.layoutEntriesSpec).at F).post enc Tryd.prog Tryd.f13 false true false false) := by
  obtain ⟨places, hx⟩ := read os enc
  refine returnsInHanded_of_row (C := Tryd.checked) (s := OpenSpec.ofChange Rows.layoutEntriesSpec) law_own started (by kernel_rfl) Tryd.func13
    (witness_row_at (enc := enc) (C := Tryd.checked) false (laidWorld os) #[.agg #[.int .i64 0, .int .u64 0, .int .i64 0, .int .i64 0, .int .i64 0, .int .i64 0, .int .i64 0, .string ⟨#[]⟩], .agg (List.replicate 64 (Value.int IntKind.u8 0)).toArray] rfl (by kernel_rfl) (by kernel_rfl) (by kernel_rfl)
      (OpenSpec.preRow_of_cond 8 hx (by kernel_rfl) (fun k hk => by cases hk) (by kernel_rfl) (laid_met os))) ?_
  intro W base args ds gs before hval hW _ _ _ hL _ _
  exact contract H enc W base args ds gs before hval hW hL
theorem said : Rows.LayoutEntriesSaid :=
  OpenClaim.holds_of_cond 13 Tryd.f13 rfl rfl rfl rfl rfl rfl rfl ⟨rfl, rfl, rfl, rfl, rfl⟩ rfl rfl rfl rfl rfl (by kernel_rfl) Tryd.func13 (by kernel_rfl)
    (of_decide_eq_true (by kernel_rfl)) (by unfold Func.isWrapper; first | (rw [if_pos (by decide +kernel)]; kernel_rfl) | (rw [if_neg (by decide +kernel)]; exact ⟨rfl, rfl⟩))
    (fun os started H enc _ F => by rw [OpenClaim.pre_eq_preRow]; exact lifted os started H enc F)
theorem plain (f : FuncId) (fn : Func) (hf : Tryd.pinned.checked.prog.funcNamed "furrow/furrowlaw03.LayoutEntries" = some f) (hfn : Tryd.pinned.checked.prog.funcs[f]? = some fn) :
    true = Tryd.pinned.checked.prog.looks [] ∧ ∀ (j : Nat) t, fn.params[j]? = some t → Tryd.pinned.checked.prog.wantsStandIn t = false := by
  obtain rfl : f = 13 := Option.some.inj ((show Tryd.prog.funcNamed "furrow/furrowlaw03.LayoutEntries" = some 13 by kernel_rfl).symm.trans hf) |>.symm
  obtain rfl : fn = Tryd.f13 := (Option.some.inj (Tryd.func13.symm.trans hfn)).symm
  refine ⟨by kernel_rfl, fun j t ht => ?_⟩
  rw [Tryd.params13] at ht
  have ht' := Array.mem_of_getElem? ht
  simp only [List.mem_toArray, List.mem_cons, List.not_mem_nil, or_false] at ht'
  rcases ht' with rfl | rfl
  · exact (show Tryd.prog.wantsStandIn 92 = false by kernel_rfl)
  · exact (show Tryd.prog.wantsStandIn 30 = false by kernel_rfl)
theorem card : Rows.LayoutEntriesCardSaid :=
  Claim7.holds_tied_plain_at .later [] _ _ _ _ said (fun _ h => by cases h) (by kernel_rfl) (fun _ h => by cases h) layoutEntries_row_tie rfl ⟨rfl, rfl⟩ (by kernel_rfl) rfl plain (by kernel_rfl)
end Go.Proofs.YtoiebgnmknbkjaaDoor.layoutEntries
