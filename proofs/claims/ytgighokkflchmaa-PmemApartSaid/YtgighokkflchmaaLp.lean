/- What a slice of pairs is that is handed in. -/
import Derived.Test.YtgighokkflchmaaWv
set_option linter.unusedVariables false
set_option linter.unusedSimpArgs false
namespace Go.Wk
open Go Go.ChangeShapes Go.WideShapes Go.ChangeAt Go.RowKit
section
variable {H : Type} {enc : TypeId × Value → H} {P : Program} {W : World} {r : Reach} {base b0 : Nat} {sp : Nat → Bool} {held : Bool}
theorem choose_list {Q : Nat → Int × Int → Prop} : ∀ n : Nat, (∀ j, j < n → ∃ z, Q j z) → ∃ zs : List (Int × Int), zs.length = n ∧ ∀ j z, zs[j]? = some z → Q j z
  | 0, _ => ⟨[], rfl, fun j z h => by simp at h⟩
  | n + 1, h => by
    obtain ⟨zs, hl, hz⟩ := choose_list n (fun j hj => h j (by omega))
    obtain ⟨z, hq⟩ := h n (by omega)
    refine ⟨zs ++ [z], by simp [hl], fun j y hy => ?_⟩
    rcases Nat.lt_or_ge j n with hj | hj
    · rw [List.getElem?_append_left (by omega)] at hy; exact hz j y hy
    · have hj' : j < (zs ++ [z]).length := (List.getElem?_eq_some_iff.1 hy).1
      rw [List.length_append, hl] at hj'
      obtain rfl : n = j := by simp at hj'; omega
      rw [List.getElem?_append_right (by omega), hl, Nat.sub_self] at hy
      obtain rfl := Option.some.inj hy
      exact hq
theorem pair_elem {e : TypeId} {fs : Array Field} {f0 f1 : Field} {k0 k1 : IntKind} {n bs : Nat} {a : Addr} {y : DataW H × List MemPlace} (he : P.underlying e = some (.struct fs)) (hc : P.cellsOf e = 2)
    (hf0 : fs[0]? = some f0) (hf1 : fs[1]? = some f1) (o0 : f0.offset = 0) (o1 : f1.offset = 1) (u0 : P.underlying f0.type = some (.int k0)) (u1 : P.underlying f1.type = some (.int k1)) (c0 : P.cellsOf f0.type = 1) (c1 : P.cellsOf f1.type = 1)
    (h : (W.cells? bs a 2).bind (DataW.trod enc P W bs sp held n e) = some y) : ∃ z : Int × Int, W.cell? (a.add 0) = some (.int k0 z.1) ∧ W.cell? (a.add 1) = some (.int k1 z.2) ∧ (Lit.int k0 z.1).wf = true ∧ (Lit.int k1 z.2).wf = true := by
  rw [Option.bind_eq_some_iff] at h
  obtain ⟨cs, hcs, hy⟩ := h
  obtain ⟨xs, n', rfl, rfl, hl, hsz, hx⟩ := DataW.trod_struct he hy
  have h0 := hx 0 f0 hf0
  have h1 := hx 1 f1 hf1
  rw [o0, c0] at h0
  rw [o1, c1] at h1
  have s2 : 1 < fs.size := (Array.getElem?_eq_some_iff.1 hf1).1
  rw [List.getElem?_eq_getElem (by omega)] at h0 h1
  obtain ⟨m0, g0, _, w0⟩ := DataW.trod_int u0 h0
  obtain ⟨m1, g1, _, w1⟩ := DataW.trod_int u1 h1
  rw [hc] at hl
  match cs, hl, hcs, g0, g1 with
  | [p, q], _, hcs, g0, g1 =>
    simp only [List.drop_zero, List.take_succ_cons, List.take_zero, List.drop_succ_cons, List.cons.injEq, and_true] at g0 g1
    subst g0 g1
    have := (World.cells?_some hcs).2.2
    exact ⟨(m0, m1), by simpa using this 0 (by omega), by simpa using this 1 (by omega), w0, w1⟩
theorem trod_pairs {t e : TypeId} {fs : Array Field} {f0 f1 : Field} {k0 k1 : IntKind} {by_ fuel : Nat} {v : Value} {x : DataW H × List MemPlace} (hu : P.underlying t = some (.slice e)) (he : P.underlying e = some (.struct fs)) (hc : P.cellsOf e = 2) (hby : P.bytesOf e = by_)
    (hf0 : fs[0]? = some f0) (hf1 : fs[1]? = some f1) (o0 : f0.offset = 0) (o1 : f1.offset = 1) (u0 : P.underlying f0.type = some (.int k0)) (u1 : P.underlying f1.type = some (.int k1)) (c0 : P.cellsOf f0.type = 1) (c1 : P.cellsOf f1.type = 1)
    (hok : v = .slice none 0 0 ∨ ∃ b o n c, v = .slice (some ⟨b, o, none⟩) n c ∧ n ≤ c) (hf : DataW.trod enc P W b0 sp held fuel t [v] = some x) (hw : (DataW.weights P t x.1).all (· ≤ reachBytes) = true) :
    ∃ A c, ∃ zs : List (Int × Int), v = .slice A zs.length c ∧ zs.length ≤ c ∧ zs.length * by_ ≤ reachBytes ∧ (A = none → zs.length = 0 ∧ c = 0) ∧ (∀ a, A = some a → a.spot = none) ∧
      ∀ j z, zs[j]? = some z → (∃ b o, A = some ⟨b, o, none⟩ ∧ W.cell? ⟨b, o + j * 2, none⟩ = some (.int k0 z.1) ∧ W.cell? ⟨b, o + j * 2 + 1, none⟩ = some (.int k1 z.2)) ∧ (Lit.int k0 z.1).wf = true ∧ (Lit.int k1 z.2).wf = true := by
  rcases hok with rfl | ⟨b, o, n, c, rfl, hnc⟩
  · exact ⟨none, 0, [], rfl, Nat.le_refl _, by simp, (fun _ => ⟨rfl, rfl⟩), (fun a ha => by cases ha), fun j z h => by simp at h⟩
  · rcases DataW.trod_slice hu hf with ⟨h0, _⟩ | ⟨a, len, cap, elems, rest, m, _, h0, rfl, hb, hl, hm, hlen, hel, hsp, hns⟩
    · simp at h0
    · simp only [List.cons.injEq, Value.slice.injEq, Option.some.injEq, and_true] at h0
      obtain ⟨rfl, rfl, rfl⟩ := h0
      obtain ⟨zs, hzl, hz⟩ := choose_list (Q := fun j z => (W.cell? ⟨b, o + j * 2, none⟩ = some (.int k0 z.1) ∧ W.cell? ⟨b, o + j * 2 + 1, none⟩ = some (.int k1 z.2)) ∧ (Lit.int k0 z.1).wf = true ∧ (Lit.int k1 z.2).wf = true) n (fun j hj => by
        have h1 := hel j hj
        rw [hc, List.getElem?_eq_getElem (by omega)] at h1
        obtain ⟨z, g0, g1, w0, w1⟩ := pair_elem he hc hf0 hf1 o0 o1 u0 u1 c0 c1 h1
        refine ⟨z, ⟨?_, ?_⟩, w0, w1⟩
        · rw [Addr.add_off, Addr.add_off] at g0; exact g0
        · rw [Addr.add_off, Addr.add_off] at g1; exact g1)
      subst hzl
      refine ⟨some ⟨b, o, none⟩, c, zs, rfl, hnc, ?_, (fun h => by cases h), (fun a ha => by cases ha; rfl), fun j z h => ⟨⟨b, o, rfl, (hz j z h).1⟩, (hz j z h).2⟩⟩
      have hall := List.all_eq_true.1 hw
      unfold DataW.weights at hall
      rw [hu] at hall
      have := hall _ (List.mem_cons_self ..)
      simp only [decide_eq_true_eq, hby, List.length_map, hlen] at this
      exact Nat.le_trans (Nat.mul_le_mul_right _ (by omega)) this
theorem prC_split : ∀ {L : List (Int × BitVec 64)} {j : Nat} {u : Value}, (prC L)[j]? = some u → ∃ i c, L[i]? = some c ∧ ((j = i * 2 ∧ u = .int .i64 c.1) ∨ (j = i * 2 + 1 ∧ u = b64 c.2))
  | [], j, u, h => by simp [prC] at h
  | c :: L, 0, u, h => ⟨0, c, rfl, .inl ⟨rfl, by simpa [prC, eq_comm] using h⟩⟩
  | c :: L, 1, u, h => ⟨0, c, rfl, .inr ⟨rfl, by simpa [prC, eq_comm] using h⟩⟩
  | c :: L, j + 2, u, h => by
    obtain ⟨i, d, hd, hh⟩ := prC_split (L := L) (j := j) (u := u) (by simpa [prC] using h)
    exact ⟨i + 1, d, by simpa using hd, by rcases hh with ⟨h1, h2⟩ | ⟨h1, h2⟩; exact .inl ⟨by omega, h2⟩; exact .inr ⟨by omega, h2⟩⟩
theorem arg_undos {t e : TypeId} {fs : Array Field} {f0 f1 : Field} {v : Value} {d : DataW H} {ps : List MemPlace} (hu : P.underlying t = some (.slice e)) (he : P.underlying e = some (.struct fs)) (hc : P.cellsOf e = 2) (hby : P.bytesOf e = 16)
    (hf0 : fs[0]? = some f0) (hf1 : fs[1]? = some f1) (o0 : f0.offset = 0) (o1 : f1.offset = 1) (u0 : P.underlying f0.type = some (.int .i64)) (u1 : P.underlying f1.type = some (.int .u64)) (c0 : P.cellsOf f0.type = 1) (c1 : P.cellsOf f1.type = 1)
    (h : Value.okWide P W r base t v) (hd : DataW.Trod enc P W b0 sp held t v d ps) (hw : (DataW.weights P t d).all (· ≤ reachBytes) = true) :
    ∃ L : List (Int × BitVec 64), RdP W v L ∧ L.length ≤ 8796093022144 ∧ ∀ c ∈ L, -9223372036854775808 ≤ c.1 ∧ c.1 ≤ 9223372036854775807 := by
  obtain ⟨fuel, hf⟩ := hd
  have hok := arg_slice hu h
  have hv : v.cells.toList = [v] := by rcases hok with rfl | ⟨_, _, _, _, rfl, _⟩ <;> rfl
  rw [hv] at hf
  obtain ⟨A, c, zs, rfl, hl, hb, hn, hsp, hz⟩ := trod_pairs hu he hc hby hf0 hf1 o0 o1 u0 u1 c0 c1 hok hf hw
  refine ⟨zs.map fun z => (z.1, BitVec.ofInt 64 z.2), ⟨A, c, by rw [List.length_map], ?_, by rw [prC_length], by rw [List.length_map]; exact hl, by rw [List.length_map]; exact hn, fun _ => hsp⟩, by rw [List.length_map]; unfold reachBytes at hb; omega, fun y hy => ?_⟩
  · intro j u hj
    obtain ⟨i, q, hq, hh⟩ := prC_split hj
    rw [List.getElem?_map, Option.map_eq_some_iff] at hq
    obtain ⟨z, hzi, rfl⟩ := hq
    obtain ⟨⟨b, o, rfl, g0, g1⟩, w0, w1⟩ := hz i z hzi
    rcases hh with ⟨rfl, rfl⟩ | ⟨rfl, rfl⟩
    · exact ⟨b, o, rfl, g0⟩
    · refine ⟨b, o, rfl, ?_⟩
      rw [← Nat.add_assoc, g1]
      obtain ⟨x, hx⟩ := hasU64 (n := z.2) (by simpa [Lit.wf, IntKind.has] using w1)
      show _ = some (Value.int .u64 ((BitVec.ofInt 64 z.2).toNat : Int))
      rw [hx]; congr 2; simp
  · obtain ⟨z, hm, rfl⟩ := List.mem_map.1 hy
    obtain ⟨i, hi⟩ := List.getElem?_of_mem hm
    exact has64 (by simpa [Lit.wf, IntKind.has] using (hz i z hi).2.1)
end
end Go.Wk
