/- What a list of spans is that is handed in, and a record. -/
import Derived.Test.YtgighokkflchmaaLp
import Derived.Test.YtgighokkflchmaaW9
set_option linter.unusedVariables false
set_option linter.unusedSimpArgs false
namespace Go.Wk
open Go Go.ChangeShapes Go.WideShapes Go.ChangeAt Go.RowKit
section
variable {H : Type} {enc : TypeId × Value → H} {P : Program} {W : World} {r : Reach} {base b0 : Nat} {sp : Nat → Bool} {held : Bool}
theorem prS_split : ∀ {L : List (Int × Int)} {j : Nat} {u : Value}, (prS L)[j]? = some u → ∃ i c, L[i]? = some c ∧ ((j = i * 2 ∧ u = .int .i64 c.1) ∨ (j = i * 2 + 1 ∧ u = .int .i64 c.2))
  | [], j, u, h => by simp [prS] at h
  | c :: L, 0, u, h => ⟨0, c, rfl, .inl ⟨rfl, by simpa [prS, eq_comm] using h⟩⟩
  | c :: L, 1, u, h => ⟨0, c, rfl, .inr ⟨rfl, by simpa [prS, eq_comm] using h⟩⟩
  | c :: L, j + 2, u, h => by
    obtain ⟨i, d, hd, hh⟩ := prS_split (L := L) (j := j) (u := u) (by simpa [prS] using h)
    exact ⟨i + 1, d, by simpa using hd, by rcases hh with ⟨h1, h2⟩ | ⟨h1, h2⟩; exact .inl ⟨by omega, h2⟩; exact .inr ⟨by omega, h2⟩⟩
theorem cell_slice {t e : TypeId} {v : Value} (hu : P.underlying t = some (.slice e)) (h : Cell.okWide P W r base t v) : v = .slice none 0 0 ∨ ∃ b o n c, v = .slice (some ⟨b, o, none⟩) n c ∧ n ≤ c :=
  arg_slice (r := r) (base := base) hu (by unfold Value.okWide; rw [hu]; exact h)
theorem spans_of {t e : TypeId} {fs : Array Field} {f0 f1 : Field} {v : Value} {fuel : Nat} {x : DataW H × List MemPlace} (hu : P.underlying t = some (.slice e)) (he : P.underlying e = some (.struct fs)) (hc : P.cellsOf e = 2) (hby : P.bytesOf e = 16)
    (hf0 : fs[0]? = some f0) (hf1 : fs[1]? = some f1) (o0 : f0.offset = 0) (o1 : f1.offset = 1) (u0 : P.underlying f0.type = some (.int .i64)) (u1 : P.underlying f1.type = some (.int .i64)) (c0 : P.cellsOf f0.type = 1) (c1 : P.cellsOf f1.type = 1)
    (hok : v = .slice none 0 0 ∨ ∃ b o n c, v = .slice (some ⟨b, o, none⟩) n c ∧ n ≤ c) (hf : DataW.trod enc P W b0 sp held fuel t [v] = some x) (hw : (DataW.weights P t x.1).all (· ≤ reachBytes) = true) :
    ∃ L : List (Int × Int), RdS W v L ∧ L.length ≤ 8796093022144 := by
  obtain ⟨A, c, zs, rfl, hl, hb, hn, hsp, hz⟩ := trod_pairs hu he hc hby hf0 hf1 o0 o1 u0 u1 c0 c1 hok hf hw
  refine ⟨zs, ⟨A, c, rfl, ?_, by rw [prS_length], hl, hn, fun _ => hsp⟩, by unfold reachBytes at hb; omega⟩
  intro j u hj
  obtain ⟨i, q, hq, hh⟩ := prS_split hj
  obtain ⟨⟨b, o, rfl, g0, g1⟩, w0, w1⟩ := hz i q hq
  rcases hh with ⟨rfl, rfl⟩ | ⟨rfl, rfl⟩
  · exact ⟨b, o, rfl, g0⟩
  · exact ⟨b, o, rfl, by rw [← Nat.add_assoc]; exact g1⟩
theorem arg_spans {t e : TypeId} {fs : Array Field} {f0 f1 : Field} {v : Value} {d : DataW H} {ps : List MemPlace} (hu : P.underlying t = some (.slice e)) (he : P.underlying e = some (.struct fs)) (hc : P.cellsOf e = 2) (hby : P.bytesOf e = 16)
    (hf0 : fs[0]? = some f0) (hf1 : fs[1]? = some f1) (o0 : f0.offset = 0) (o1 : f1.offset = 1) (u0 : P.underlying f0.type = some (.int .i64)) (u1 : P.underlying f1.type = some (.int .i64)) (c0 : P.cellsOf f0.type = 1) (c1 : P.cellsOf f1.type = 1)
    (h : Value.okWide P W r base t v) (hd : DataW.Trod enc P W b0 sp held t v d ps) (hw : (DataW.weights P t d).all (· ≤ reachBytes) = true) : ∃ L : List (Int × Int), RdS W v L ∧ L.length ≤ 8796093022144 := by
  obtain ⟨fuel, hf⟩ := hd
  have hok := arg_slice hu h
  have hv : v.cells.toList = [v] := by rcases hok with rfl | ⟨_, _, _, _, rfl, _⟩ <;> rfl
  rw [hv] at hf
  exact spans_of hu he hc hby hf0 hf1 o0 o1 u0 u1 c0 c1 hok hf hw
theorem arg_saved {t e : TypeId} {g0 g1 : Field} {fs : Array Field} {f0 f1 : Field} {v : Value} {d : DataW H} {ps : List MemPlace} (ht : P.underlying t = some (.struct #[g0, g1])) (htc : P.cellsOf t = 2) (hct : P.cellTypes P.depth t = some [g0.type, g1.type]) (p1 : g1.offset = 1) (q1 : P.cellsOf g1.type = 1)
    (hu0 : P.underlying g0.type = some (.int .u32)) (hu : P.underlying g1.type = some (.slice e)) (he : P.underlying e = some (.struct fs)) (hc : P.cellsOf e = 2) (hby : P.bytesOf e = 16)
    (hf0 : fs[0]? = some f0) (hf1 : fs[1]? = some f1) (o0 : f0.offset = 0) (o1 : f1.offset = 1) (u0 : P.underlying f0.type = some (.int .i64)) (u1 : P.underlying f1.type = some (.int .i64)) (c0 : P.cellsOf f0.type = 1) (c1 : P.cellsOf f1.type = 1)
    (h : Value.okWide P W r base t v) (hd : DataW.Trod enc P W b0 sp held t v d ps) (hw : (DataW.weights P t d).all (· ≤ reachBytes) = true) : ∃ (T : BitVec 32) (v' : Value) (L : List (Int × Int)), v = .agg #[b32 T, v'] ∧ RdS W v' L ∧ L.length ≤ 8796093022144 := by
  obtain ⟨cs, rfl, hl, hr⟩ := arg_struct ht h
  rw [htc] at hl
  obtain ⟨a, b, rfl⟩ : ∃ a b, cs = [a, b] := by match cs, hl with | [x, y], _ => exact ⟨x, y, rfl⟩
  obtain ⟨n, rfl, hn⟩ := cell_int hu0 (row_at hct hr 0 rfl rfl)
  obtain ⟨T, rfl⟩ := hasU32 hn
  have hok := cell_slice hu (row_at hct hr 1 rfl rfl)
  obtain ⟨fuel, hf⟩ := hd
  have hcs : (Value.agg [Value.int .u32 (T.toNat : Int), b].toArray).cells.toList = [Value.int .u32 (T.toNat : Int), b] := by simp [Value.cells]
  rw [hcs] at hf
  obtain ⟨xs, m, rfl, hx, _, hsz, hfl⟩ := DataW.trod_struct ht hf
  have h1 := hfl 1 g1 rfl
  rw [p1, q1] at h1
  have hs2 : xs.length = 2 := hsz
  obtain ⟨x0, x1, rfl⟩ : ∃ x0 x1, xs = [x0, x1] := by match xs, hs2 with | [x, y], _ => exact ⟨x, y, rfl⟩
  simp only [List.drop_succ_cons, List.drop_zero, List.take_succ_cons, List.take_zero, List.getElem?_cons_succ, List.getElem?_cons_zero] at h1
  simp only [Prod.mk.injEq] at hx
  rw [hx.1] at hw
  unfold DataW.weights at hw
  rw [ht] at hw
  simp only [List.map_cons, List.map_nil, DataW.weightsEach, List.all_append, Bool.and_eq_true] at hw
  obtain ⟨L, hL, hLl⟩ := spans_of hu he hc hby hf0 hf1 o0 o1 u0 u1 c0 c1 hok h1 hw.2.1
  exact ⟨T, b, L, rfl, hL, hLl⟩
end
end Go.Wk
