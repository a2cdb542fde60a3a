/- LayoutSaveds: whatever the input, true; what was handed in reads as it did: the card. -/
import Derived.Test.YtoiebgnmknbkjaaDoorCards
import Derived.Test.YtoiebgnmknbkjaaDoorTie
import Derived.SevenTiedAt
import Derived.Test.YtoiebgnmknbkjaaDoorLt
import Derived.Test.YtoiebgnmknbkjaaDoorC14
import Derived.Test.YtoiebgnmknbkjaaDoorWv
import Derived.Test.YtoiebgnmknbkjaaDoorLp
import Derived.Test.YtoiebgnmknbkjaaDoorLq
namespace Go.Proofs.YtoiebgnmknbkjaaDoor.layoutSaveds
open Go Go.Wk Go.ChangeShapes Go.WideShapes Go.ChangeAt Go.RowKit
theorem reads : ∀ t ∈ Tryd.f10.params.toList, Tryd.prog.readableRec t = true ∧ t < Tryd.prog.types.size := by
  rw [Tryd.params10]
  intro t ht
  simp only [List.mem_cons, List.not_mem_nil, or_false] at ht
  rcases ht with rfl | rfl
  all_goals exact ⟨by kernel_rfl, by rw [Tryd.types_size]; decide⟩
set_option maxRecDepth 100000 in
theorem contract (H : Type) (enc : TypeId × Value → H) (W : World) (base : Nat) (args : Array Value) (ds gs : List (DataW H)) (before : List MemPlace)
    (hval : ∀ (j : Nat) t v, Tryd.f10.params[j]? = some t → args[j]? = some v → Value.okWide Tryd.prog W .any base t v)
    (hW : DataW.Whole enc Tryd.prog Tryd.f10.params.toList Rows.layoutSavedsSpec.vars false W args.toList ds gs before) (hL : laidMetH Tryd.prog Rows.layoutSavedsRow.laid W) (hwt : (DataW.weightsEach Tryd.prog (Tryd.f10.params.toList ++ (OpenSpec.ofChange Rows.layoutSavedsSpec).bare.plain.varTypes Tryd.prog) (ds ++ gs)).all (· ≤ reachBytes) = true) :
    Calls Tryd.prog 10 args W fun e W' => ∃ v, e = .returned v ∧ Rows.layoutSavedsSpec.post enc Tryd.prog Tryd.f10 false true false false W args v W' := by
  have hW' := hW
  obtain ⟨p, q, hA0, hV, rfl, hfz, hnd⟩ := hW
  have hA : DataW.TrodAll enc Tryd.prog W 0 (fun _ => true) true Tryd.f10.params.toList args.toList ds p := hA0
  rw [Tryd.params10] at hA hval
  obtain ⟨v0, vs0, d0, ds0, p0, q0, hargs, rfl, rfl, h0, rr0⟩ := trodAll_cons hA
  obtain ⟨v1, vs1, d1, ds1, p1, q1, rfl, rfl, rfl, h1, rr1⟩ := trodAll_cons rr0
  obtain ⟨rfl, rfl, rfl⟩ := trodAll_nil rr1
  obtain rfl : args = #[v0, v1] := by cases args; simp_all
  obtain ⟨rfl, rfl⟩ := trodVars_none hV
  have ht : Tab W := tab_of hL
  rw [Tryd.params10] at hwt
  simp only [List.cons_append, List.nil_append, DataW.weightsEach, List.all_append, Bool.and_eq_true] at hwt
  obtain ⟨wt0, wt1, _⟩ := hwt
  have k0 := hval 0 74 v0 rfl rfl
  have k1 := hval 1 54 v1 rfl rfl
  obtain ⟨X0, w0, l0, rfl, hv0, hm0⟩ := arg_saved Tryd.underlying74 (by kernel_rfl) (by kernel_rfl) rfl (by kernel_rfl) Tryd.underlying48 Tryd.underlying72 Tryd.underlying88 (by kernel_rfl) (by kernel_rfl) rfl rfl rfl rfl Tryd.underlying3 Tryd.underlying3 (by kernel_rfl) (by kernel_rfl) k0 h0 wt0
  obtain ⟨A1, c1, l1, rfl, hb1, hc1, hm1, hz1, hp1⟩ := arg_byteslice Tryd.underlying54 Tryd.underlying5 (by kernel_rfl) (by kernel_rfl) k1 h1 wt1
  have hv1 := Bytes.rd hb1 hc1 hz1 hp1
  refine (lawSaveds_p X0 _ _ l0 l1 W ht hv0 hv1 hm0 hm1).mono fun e W' ⟨he, hm⟩ => ⟨_, he, ?_⟩
  exact law_post law_laidOut reads rfl hW' rfl rfl Tryd.underlying4 hm
theorem laid_met (os : Os) : laidMet Tryd.prog Rows.layoutSavedsRow.laid ((laidWorld os).forCall (fun _ _ => 0) ⟨#[], #[.agg #[.int .u32 0, .slice none 0 0], .slice none 0 0], []⟩).memory :=
  laidMet_of_run' 8 (by kernel_rfl) (by kernel_rfl)
theorem read (os : Os) {H : Type} (enc : TypeId × Value → H) : ∃ places, DataW.whole enc Tryd.prog ((laidWorld os).forCall (fun _ _ => 0) ⟨#[], #[.agg #[.int .u32 0, .slice none 0 0], .slice none 0 0], []⟩).memory Tryd.f10.params.toList Rows.layoutSavedsSpec.vars false (#[.agg #[.int .u32 0, .slice none 0 0], .slice none 0 0] : Array Value).toList 8 = some ([.agg [.lit (.int .u32 0), .nil], .nil], [], places) :=
  ⟨[], by kernel_rfl⟩
set_option maxRecDepth 100000 in
theorem lifted (os : Os) (started : os.Started) (H : Type) (enc : TypeId × Value → H) (F : Stop.Interp) :
    ReturnsInHanded {} Tryd.checked os 10 .any ((OpenSpec.ofChange Rows.layoutSavedsSpec).preRow enc Tryd.prog Tryd.f10 Rows.layoutSavedsRow.domain false Rows.layoutSavedsRow.laid) (((OpenSpec.ofChange Rows.layoutSavedsSpec).at F).post enc Tryd.prog Tryd.f10 false true false false) := by
  obtain ⟨places, hx⟩ := read os enc
  refine returnsInHanded_of_row (C := Tryd.checked) (s := OpenSpec.ofChange Rows.layoutSavedsSpec) law_own started (by kernel_rfl) Tryd.func10
    (witness_row_at (enc := enc) (C := Tryd.checked) false (laidWorld os) #[.agg #[.int .u32 0, .slice none 0 0], .slice none 0 0] rfl (by kernel_rfl) (by kernel_rfl) (by kernel_rfl)
      (OpenSpec.preRow_of_cond 8 hx (by kernel_rfl) (fun k hk => by cases hk) (by kernel_rfl) (laid_met os))) ?_
  intro W base args ds gs before hval hW _ _ hwt hL _ _
  exact contract H enc W base args ds gs before hval hW hL hwt
theorem said : Rows.LayoutSavedsSaid :=
  OpenClaim.holds_of_cond 10 Tryd.f10 rfl rfl rfl rfl rfl rfl rfl ⟨rfl, rfl, rfl, rfl, rfl⟩ rfl rfl rfl rfl rfl (by kernel_rfl) Tryd.func10 (by kernel_rfl)
    (of_decide_eq_true (by kernel_rfl)) (by unfold Func.isWrapper; first | (rw [if_pos (by decide +kernel)]; kernel_rfl) | (rw [if_neg (by decide +kernel)]; exact ⟨rfl, rfl⟩))
    (fun os started H enc _ F => by rw [OpenClaim.pre_eq_preRow]; exact lifted os started H enc F)
theorem plain (f : FuncId) (fn : Func) (hf : Tryd.pinned.checked.prog.funcNamed "furrow/furrowlaw03.LayoutSaveds" = some f) (hfn : Tryd.pinned.checked.prog.funcs[f]? = some fn) :
    true = Tryd.pinned.checked.prog.looks [] ∧ ∀ (j : Nat) t, fn.params[j]? = some t → Tryd.pinned.checked.prog.wantsStandIn t = false := by
  obtain rfl : f = 10 := Option.some.inj ((show Tryd.prog.funcNamed "furrow/furrowlaw03.LayoutSaveds" = some 10 by kernel_rfl).symm.trans hf) |>.symm
  obtain rfl : fn = Tryd.f10 := (Option.some.inj (Tryd.func10.symm.trans hfn)).symm
  refine ⟨by kernel_rfl, fun j t ht => ?_⟩
  rw [Tryd.params10] at ht
  have ht' := Array.mem_of_getElem? ht
  simp only [List.mem_toArray, List.mem_cons, List.not_mem_nil, or_false] at ht'
  rcases ht' with rfl | rfl
  · exact (show Tryd.prog.wantsStandIn 74 = false by kernel_rfl)
  · exact (show Tryd.prog.wantsStandIn 54 = false by kernel_rfl)
theorem card : Rows.LayoutSavedsCardSaid :=
  Claim7.holds_tied_plain_at .later [] _ _ _ _ said (fun _ h => by cases h) (by kernel_rfl) (fun _ h => by cases h) layoutSaveds_row_tie rfl ⟨rfl, rfl⟩ (by kernel_rfl) rfl plain (by kernel_rfl)
end Go.Proofs.YtoiebgnmknbkjaaDoor.layoutSaveds
