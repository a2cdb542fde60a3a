/- IlogChanges: whatever the input, true; what was handed in reads as it did: the card. -/
import Derived.Test.YtlplkbbnpddihaaDoorCards
import Derived.Test.YtlplkbbnpddihaaDoorTie
import Derived.SevenTiedAt
import Derived.Test.YtlplkbbnpddihaaDoorLt
import Derived.Test.YtlplkbbnpddihaaDoorC6
namespace Go.Proofs.YtlplkbbnpddihaaDoor.ilogChanges
open Go Go.Wk Go.ChangeShapes Go.WideShapes Go.ChangeAt Go.RowKit
theorem reads : ∀ t ∈ Tryd.f9.params.toList, Tryd.prog.readableRec t = true ∧ t < Tryd.prog.types.size := by
  rw [Tryd.params9]
  intro t ht
  simp only [List.mem_cons, List.not_mem_nil, or_false] at ht
  rcases ht with rfl | rfl | rfl
  all_goals exact ⟨by kernel_rfl, by rw [Tryd.types_size]; decide⟩
set_option maxRecDepth 100000 in
theorem contract (H : Type) (enc : TypeId × Value → H) (W : World) (base : Nat) (args : Array Value) (ds gs : List (DataW H)) (before : List MemPlace)
    (hval : ∀ (j : Nat) t v, Tryd.f9.params[j]? = some t → args[j]? = some v → Value.okWide Tryd.prog W .any base t v)
    (hW : DataW.Whole enc Tryd.prog Tryd.f9.params.toList Rows.ilogChangesSpec.vars false W args.toList ds gs before) (hL : laidMetH Tryd.prog Rows.ilogChangesRow.laid W) :
    Calls Tryd.prog 9 args W fun e W' => ∃ v, e = .returned v ∧ Rows.ilogChangesSpec.post enc Tryd.prog Tryd.f9 false true false false W args v W' := by
  have hW' := hW
  obtain ⟨p, q, hA0, hV, rfl, hfz, hnd⟩ := hW
  have hA : DataW.TrodAll enc Tryd.prog W 0 (fun _ => true) true Tryd.f9.params.toList args.toList ds p := hA0
  rw [Tryd.params9] at hA hval
  obtain ⟨v0, vs0, d0, ds0, p0, q0, hargs, rfl, rfl, h0, rr0⟩ := trodAll_cons hA
  obtain ⟨v1, vs1, d1, ds1, p1, q1, rfl, rfl, rfl, h1, rr1⟩ := trodAll_cons rr0
  obtain ⟨v2, vs2, d2, ds2, p2, q2, rfl, rfl, rfl, h2, rr2⟩ := trodAll_cons rr1
  obtain ⟨rfl, rfl, rfl⟩ := trodAll_nil rr2
  obtain rfl : args = #[v0, v1, v2] := by cases args; simp_all
  obtain ⟨rfl, rfl⟩ := trodVars_none hV
  have ht : Tab W := tab_of hL
  have k0 := hval 0 3 v0 rfl rfl
  have k1 := hval 1 61 v1 rfl rfl
  have k2 := hval 2 61 v2 rfl rfl
  obtain ⟨p', rfl, rp⟩ := arg_int Tryd.underlying3 k0
  have hct : Tryd.prog.cellTypes Tryd.prog.depth 61 = some [3, 3, 3, 3] := by kernel_rfl
  obtain ⟨cs, rfl, hl1, hr1⟩ := arg_struct Tryd.underlying61 k1
  rw [show Tryd.prog.cellsOf 61 = 4 by kernel_rfl] at hl1
  obtain ⟨c0, c1, c2, c3, rfl⟩ : ∃ c0 c1 c2 c3, cs = [c0, c1, c2, c3] := by match cs, hl1 with | [x, y, z, u], _ => exact ⟨x, y, z, u, rfl⟩
  obtain ⟨x10, rfl, r10⟩ := cell_int Tryd.underlying3 (row_at hct hr1 0 rfl rfl)
  obtain ⟨x11, rfl, r11⟩ := cell_int Tryd.underlying3 (row_at hct hr1 1 rfl rfl)
  obtain ⟨x12, rfl, r12⟩ := cell_int Tryd.underlying3 (row_at hct hr1 2 rfl rfl)
  obtain ⟨x13, rfl, r13⟩ := cell_int Tryd.underlying3 (row_at hct hr1 3 rfl rfl)
  obtain ⟨cs, rfl, hl2, hr2⟩ := arg_struct Tryd.underlying61 k2
  rw [show Tryd.prog.cellsOf 61 = 4 by kernel_rfl] at hl2
  obtain ⟨c0, c1, c2, c3, rfl⟩ : ∃ c0 c1 c2 c3, cs = [c0, c1, c2, c3] := by match cs, hl2 with | [x, y, z, u], _ => exact ⟨x, y, z, u, rfl⟩
  obtain ⟨x20, rfl, r20⟩ := cell_int Tryd.underlying3 (row_at hct hr2 0 rfl rfl)
  obtain ⟨x21, rfl, r21⟩ := cell_int Tryd.underlying3 (row_at hct hr2 1 rfl rfl)
  obtain ⟨x22, rfl, r22⟩ := cell_int Tryd.underlying3 (row_at hct hr2 2 rfl rfl)
  obtain ⟨x23, rfl, r23⟩ := cell_int Tryd.underlying3 (row_at hct hr2 3 rfl rfl)
  refine (lawChanges_p p' x10 x11 x12 x13 x20 x21 x22 x23 W ht (has64 r13) (has64 r23)).mono fun e W' ⟨he, hm⟩ => ⟨_, he, ?_⟩
  exact law_post law_laidOut reads rfl hW' rfl rfl Tryd.underlying4 hm
theorem laid_met (os : Os) : laidMet Tryd.prog Rows.ilogChangesRow.laid ((laidWorld os).forCall (fun _ _ => 0) ⟨#[], #[.int .i64 0, .agg #[.int .i64 0, .int .i64 0, .int .i64 0, .int .i64 0], .agg #[.int .i64 0, .int .i64 0, .int .i64 0, .int .i64 0]], []⟩).memory :=
  laidMet_of_run' 8 (by kernel_rfl) (by kernel_rfl)
theorem read (os : Os) {H : Type} (enc : TypeId × Value → H) : ∃ places, DataW.whole enc Tryd.prog ((laidWorld os).forCall (fun _ _ => 0) ⟨#[], #[.int .i64 0, .agg #[.int .i64 0, .int .i64 0, .int .i64 0, .int .i64 0], .agg #[.int .i64 0, .int .i64 0, .int .i64 0, .int .i64 0]], []⟩).memory Tryd.f9.params.toList Rows.ilogChangesSpec.vars false (#[.int .i64 0, .agg #[.int .i64 0, .int .i64 0, .int .i64 0, .int .i64 0], .agg #[.int .i64 0, .int .i64 0, .int .i64 0, .int .i64 0]] : Array Value).toList 8 = some ([.lit (.int .i64 0), .agg [.lit (.int .i64 0), .lit (.int .i64 0), .lit (.int .i64 0), .lit (.int .i64 0)], .agg [.lit (.int .i64 0), .lit (.int .i64 0), .lit (.int .i64 0), .lit (.int .i64 0)]], [], places) :=
  ⟨[], by kernel_rfl⟩
set_option maxRecDepth 100000 in
theorem lifted (os : Os) (started : os.Started) (H : Type) (enc : TypeId × Value → H) (F : Stop.Interp) :
    ReturnsInHanded {} Tryd.checked os 9 .any ((OpenSpec.ofChange Rows.ilogChangesSpec).preRow enc Tryd.prog Tryd.f9 Rows.ilogChangesRow.domain false Rows.ilogChangesRow.laid) (((OpenSpec.ofChange Rows.ilogChangesSpec).at F).post enc Tryd.prog Tryd.f9 false true false false) := by
  obtain ⟨places, hx⟩ := read os enc
  refine returnsInHanded_of_row (C := Tryd.checked) (s := OpenSpec.ofChange Rows.ilogChangesSpec) law_own started (by kernel_rfl) Tryd.func9
    (witness_row_at (enc := enc) (C := Tryd.checked) false (laidWorld os) #[.int .i64 0, .agg #[.int .i64 0, .int .i64 0, .int .i64 0, .int .i64 0], .agg #[.int .i64 0, .int .i64 0, .int .i64 0, .int .i64 0]] rfl (by kernel_rfl) (by kernel_rfl) (by kernel_rfl)
      (OpenSpec.preRow_of_cond 8 hx (by kernel_rfl) (fun k hk => by cases hk) (by kernel_rfl) (laid_met os))) ?_
  intro W base args ds gs before hval hW _ _ _ hL _ _
  exact contract H enc W base args ds gs before hval hW hL
theorem said : Rows.IlogChangesSaid :=
  OpenClaim.holds_of_cond 9 Tryd.f9 rfl rfl rfl rfl rfl rfl rfl ⟨rfl, rfl, rfl, rfl, rfl⟩ rfl rfl rfl rfl rfl (by kernel_rfl) Tryd.func9 (by kernel_rfl)
    (of_decide_eq_true (by kernel_rfl)) (by unfold Func.isWrapper; first | (rw [if_pos (by decide +kernel)]; kernel_rfl) | (rw [if_neg (by decide +kernel)]; exact ⟨rfl, rfl⟩))
    (fun os started H enc _ F => by rw [OpenClaim.pre_eq_preRow]; exact lifted os started H enc F)
theorem plain (f : FuncId) (fn : Func) (hf : Tryd.pinned.checked.prog.funcNamed "furrow/furrowlaw06.IlogChanges" = some f) (hfn : Tryd.pinned.checked.prog.funcs[f]? = some fn) :
    true = Tryd.pinned.checked.prog.looks [] ∧ ∀ (j : Nat) t, fn.params[j]? = some t → Tryd.pinned.checked.prog.wantsStandIn t = false := by
  obtain rfl : f = 9 := Option.some.inj ((show Tryd.prog.funcNamed "furrow/furrowlaw06.IlogChanges" = some 9 by kernel_rfl).symm.trans hf) |>.symm
  obtain rfl : fn = Tryd.f9 := (Option.some.inj (Tryd.func9.symm.trans hfn)).symm
  refine ⟨by kernel_rfl, fun j t ht => ?_⟩
  rw [Tryd.params9] at ht
  have ht' := Array.mem_of_getElem? ht
  simp only [List.mem_toArray, List.mem_cons, List.not_mem_nil, or_false] at ht'
  rcases ht' with rfl | rfl | rfl
  · exact (show Tryd.prog.wantsStandIn 3 = false by kernel_rfl)
  · exact (show Tryd.prog.wantsStandIn 61 = false by kernel_rfl)
  · exact (show Tryd.prog.wantsStandIn 61 = false by kernel_rfl)
theorem card : Rows.IlogChangesCardSaid :=
  Claim7.holds_tied_plain_at .later [] _ _ _ _ said (fun _ h => by cases h) (by kernel_rfl) (fun _ h => by cases h) ilogChanges_row_tie rfl ⟨rfl, rfl⟩ (by kernel_rfl) rfl plain (by kernel_rfl)
end Go.Proofs.YtlplkbbnpddihaaDoor.ilogChanges
