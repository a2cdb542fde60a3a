/- A struct of one-cell fields that is handed in, field by field. -/
import Derived.Test.YtgighokkflchmaaDn
import Derived.Test.YtgighokkflchmaaLq
set_option linter.unusedVariables false
set_option linter.unusedSimpArgs false
namespace Go.Wk
open Go Go.ChangeShapes Go.WideShapes Go.ChangeAt Go.RowKit
section
variable {H : Type} {enc : TypeId × Value → H} {P : Program} {W : World} {r : Reach} {base b0 : Nat} {sp : Nat → Bool} {held : Bool}
theorem each_of {p : Nat → Bool} : ∀ {ts : List TypeId} {ds : List (DataW H)} {i : Nat} {t : TypeId} {d : DataW H}, (DataW.weightsEach P ts ds).all p = true → ts[i]? = some t → ds[i]? = some d → (DataW.weights P t d).all p = true
  | t' :: ts, d' :: ds, 0, t, d, h, ht, hd => by
    simp only [DataW.weightsEach, List.all_append, Bool.and_eq_true] at h
    have e1 : t' = t := by simpa using ht
    have e2 : d' = d := by simpa using hd
    subst e1 e2; exact h.1
  | t' :: ts, d' :: ds, i + 1, t, d, h, ht, hd => by
    simp only [DataW.weightsEach, List.all_append, Bool.and_eq_true] at h
    exact each_of h.2 (by simpa using ht) (by simpa using hd)
  | [], ds, i, t, d, h, ht, hd => by simp at ht
  | t' :: ts, [], i, t, d, h, ht, hd => by simp at hd
/-- What a field's one cell is. -/
structure Fld (enc : TypeId × Value → H) (P : Program) (W : World) (r : Reach) (base b0 : Nat) (sp : Nat → Bool) (held : Bool) (t : TypeId) (c : Value) : Prop where
  ok : Cell.okWide P W r base t c
  read : ∃ fuel x, DataW.trod enc P W b0 sp held fuel t [c] = some x ∧ (DataW.weights P t x.1).all (· ≤ reachBytes) = true
theorem flds_of {t : TypeId} {fs : Array Field} {ts : List TypeId} {cs : List Value} {fuel : Nat} {x : DataW H × List MemPlace} (ht : P.underlying t = some (.struct fs)) (hts : fs.toList.map (·.type) = ts) (hl : cs.length = fs.size)
    (hoff : ∀ (i : Nat) (f : Field), fs[i]? = some f → f.offset = i ∧ P.cellsOf f.type = 1) (hok : ∀ (i : Nat) c u, cs[i]? = some c → ts[i]? = some u → Cell.okWide P W r base u c) (hf : DataW.trod enc P W b0 sp held fuel t cs = some x) (hw : (DataW.weights P t x.1).all (· ≤ reachBytes) = true) :
    ∀ (i : Nat) c u, cs[i]? = some c → ts[i]? = some u → Fld enc P W r base b0 sp held u c := fun i c u hc hu => by
  obtain ⟨xs, m, rfl, hx, _, hsz, hfl⟩ := DataW.trod_struct ht hf
  have hu' := hu
  rw [← hts, List.getElem?_map, Option.map_eq_some_iff] at hu'
  obtain ⟨f, hfi, rfl⟩ := hu'
  have hfi' : fs[i]? = some f := by rw [← Array.getElem?_toList]; exact hfi
  obtain ⟨o1, o2⟩ := hoff i f hfi'
  have h1 := hfl i f hfi'
  rw [o1, o2] at h1
  have hil : i < cs.length := (List.getElem?_eq_some_iff.1 hc).1
  have hcut : (cs.drop i).take 1 = [c] := by
    rw [List.drop_eq_getElem_cons hil, List.take_succ_cons, List.take_zero]
    have := (List.getElem?_eq_some_iff.1 hc).2
    rw [this]
  rw [hcut] at h1
  have hxl : i < xs.length := by rw [hsz, ← hl]; exact hil
  rw [List.getElem?_eq_getElem hxl] at h1
  refine ⟨hok i c _ hc hu, m, _, h1, ?_⟩
  have hxe : x.1 = _ := congrArg Prod.fst hx
  rw [hxe] at hw
  unfold DataW.weights at hw
  rw [ht] at hw
  exact each_of hw (by rw [hts]; exact hu) (by rw [List.getElem?_map, List.getElem?_eq_getElem hxl]; rfl)
theorem arg_flds {t : TypeId} {fs : Array Field} {ts : List TypeId} {v : Value} {d : DataW H} {ps : List MemPlace} (ht : P.underlying t = some (.struct fs)) (htc : P.cellsOf t = fs.size) (hct : P.cellTypes P.depth t = some ts) (hts : fs.toList.map (·.type) = ts)
    (hoff : ∀ (i : Nat) (f : Field), fs[i]? = some f → f.offset = i ∧ P.cellsOf f.type = 1) (h : Value.okWide P W r base t v) (hd : DataW.Trod enc P W b0 sp held t v d ps) (hw : (DataW.weights P t d).all (· ≤ reachBytes) = true) :
    ∃ cs : List Value, v = .agg cs.toArray ∧ cs.length = fs.size ∧ ∀ (i : Nat) c u, cs[i]? = some c → ts[i]? = some u → Fld enc P W r base b0 sp held u c := by
  obtain ⟨cs, rfl, hl, hr⟩ := arg_struct ht h
  rw [htc] at hl
  obtain ⟨fuel, hf⟩ := hd
  have hcs : (Value.agg cs.toArray).cells.toList = cs := by simp [Value.cells]
  rw [hcs] at hf
  exact ⟨cs, rfl, hl, flds_of ht hts hl hoff (fun i c u hc hu => row_at hct hr i hc (by rw [Nat.mod_eq_of_lt (List.getElem?_eq_some_iff.1 hu).1]; exact hu)) hf hw⟩
theorem Fld.int {t : TypeId} {c : Value} (u : P.underlying t = some (.int .i64)) (h : Fld enc P W r base b0 sp held t c) : ∃ n, c = .int .i64 n ∧ Fits n := by
  obtain ⟨fuel, x, hf, _⟩ := h.read
  obtain ⟨n, g, _, w⟩ := DataW.trod_int u hf
  exact ⟨n, by simpa using g, has64 (by simpa [Lit.wf, IntKind.has] using w)⟩
theorem Fld.word {t : TypeId} {c : Value} (u : P.underlying t = some (.int .u64)) (h : Fld enc P W r base b0 sp held t c) : ∃ x, c = b64 x := by
  obtain ⟨fuel, x, hf, _⟩ := h.read
  obtain ⟨n, g, _, w⟩ := DataW.trod_int u hf
  obtain ⟨x, rfl⟩ := hasU64 (n := n) (by simpa [Lit.wf, IntKind.has] using w)
  exact ⟨x, by simpa using g⟩
theorem Fld.notes {t e ti tu : TypeId} {fs : Array Field} {f0 f1 f2 : Field} {c : Value} (hu : P.underlying t = some (.slice e)) (he : P.underlying e = some (.struct fs)) (hc : P.cellsOf e = 3) (hby : P.bytesOf e = 24)
    (hf0 : fs[0]? = some f0) (hf1 : fs[1]? = some f1) (hf2 : fs[2]? = some f2) (o0 : f0.offset = 0) (o1 : f1.offset = 1) (o2 : f2.offset = 2) (t0 : f0.type = ti) (t1 : f1.type = ti) (t2 : f2.type = tu) (ui : P.underlying ti = some (.int .i64)) (uu : P.underlying tu = some (.int .u64)) (ci : P.cellsOf ti = 1) (cu : P.cellsOf tu = 1)
    (h : Fld enc P W r base b0 sp held t c) : ∃ L : List Nt, RdN W c L ∧ L.length ≤ 8796093022144 ∧ ∀ z ∈ L, Fits z.1 ∧ Fits z.2.1 := by
  obtain ⟨fuel, x, hf, hw⟩ := h.read
  exact notes_of hu he hc hby hf0 hf1 hf2 o0 o1 o2 t0 t1 t2 ui uu ci cu (cell_slice hu h.ok) hf hw
theorem Fld.ints {t e : TypeId} {c : Value} (hu : P.underlying t = some (.slice e)) (he : P.underlying e = some (.int .i64)) (hc : P.cellsOf e = 1) (hby : P.bytesOf e = 8)
    (h : Fld enc P W r base b0 sp held t c) : ∃ L : List Int, RdI W c L ∧ L.length ≤ 17592186044416 ∧ ∀ z ∈ L, Fits z := by
  obtain ⟨fuel, x, hf, hw⟩ := h.read
  obtain ⟨L, h1, h2, h3⟩ := ints_of hu he hc hby (cell_slice hu h.ok) hf hw
  exact ⟨L, h1, Nat.le_trans h2 (by decide), h3⟩
theorem words_of {t e : TypeId} {v : Value} {fuel : Nat} {x : DataW H × List MemPlace} (hu : P.underlying t = some (.slice e)) (he : P.underlying e = some (.int .u64)) (hc : P.cellsOf e = 1) (hby : P.bytesOf e = 8)
    (hok : v = .slice none 0 0 ∨ ∃ b o n c, v = .slice (some ⟨b, o, none⟩) n c ∧ n ≤ c) (hf : DataW.trod enc P W b0 sp held fuel t [v] = some x) (hw : (DataW.weights P t x.1).all (· ≤ reachBytes) = true) :
    ∃ L : List (BitVec 64), RdW W v L ∧ L.length ≤ 17592186044416 := by
  rcases hok with rfl | ⟨b, o, n, c, rfl, hnc⟩
  · exact ⟨[], Rd.nil W 1, by simp⟩
  · rcases open_ints hu he hc hf with ⟨h0, _⟩ | ⟨a, len, cap, zs, h0, _, hl, _, hz, hx, hcell, hwf⟩
    · simp at h0
    · simp only [List.cons.injEq, Value.slice.injEq, Option.some.injEq, and_true] at h0
      obtain ⟨rfl, rfl, rfl⟩ := h0
      have hlen : n ≤ zs.length := by rw [hz]; split <;> omega
      have hln : (zs.take n).length = n := by rw [List.length_take]; omega
      have hxe : x.1 = _ := congrArg Prod.fst hx
      have hdw : zs.length * 8 ≤ reachBytes := by
        have hall := List.all_eq_true.1 hw
        rw [hxe] at hall
        unfold DataW.weights at hall
        rw [hu] at hall
        have := hall _ (List.mem_cons_self ..)
        simp only [decide_eq_true_eq, hby, lits, List.length_map] at this
        rw [← List.length_append, List.take_append_drop] at this
        exact this
      refine ⟨(zs.take n).map (BitVec.ofInt 64), ⟨some ⟨b, o, none⟩, c, by rw [List.length_map, hln], fun j u hj => ?_, by rw [List.length_map, Nat.mul_one], by rw [List.length_map, hln]; exact hnc, (fun h => by cases h), (fun _ a ha => by cases ha; rfl)⟩, ?_⟩
      · rw [List.getElem?_map, List.getElem?_map, List.getElem?_take] at hj
        split at hj
        · rename_i hlt
          refine ⟨b, o, rfl, ?_⟩
          have h1 := hcell j (by omega)
          rw [Addr.add_off] at h1
          rw [h1]
          have hjl : j < zs.length := by omega
          rw [List.getElem?_eq_getElem hjl] at hj
          have hg : zs.getD j 0 = zs[j] := by simp [List.getD, hjl]
          rw [hg]
          obtain ⟨q, hq⟩ := hasU64 (n := zs[j]) (by simpa [Lit.wf, IntKind.has] using hwf _ (List.getElem_mem hjl))
          rw [← hj, hq]; simp
        · cases hj
      · rw [List.length_map, hln]; unfold reachBytes at hdw; omega
theorem Fld.words {t e : TypeId} {c : Value} (hu : P.underlying t = some (.slice e)) (he : P.underlying e = some (.int .u64)) (hc : P.cellsOf e = 1) (hby : P.bytesOf e = 8)
    (h : Fld enc P W r base b0 sp held t c) : ∃ L : List (BitVec 64), RdW W c L ∧ L.length ≤ 17592186044416 := by
  obtain ⟨fuel, x, hf, hw⟩ := h.read
  exact words_of hu he hc hby (cell_slice hu h.ok) hf hw
theorem Fld.bytes {t e : TypeId} {c : Value} (hu : P.underlying t = some (.slice e)) (he : P.underlying e = some (.int .u8)) (hc : P.cellsOf e = 1) (hby : P.bytesOf e = 1)
    (h : Fld enc P W r base b0 sp held t c) : ∃ L : List UInt8, RdB W c L ∧ L.length ≤ 140737488351232 := by
  obtain ⟨fuel, x, hf, hw⟩ := h.read
  have hok := cell_slice hu h.ok
  have hv : c.cells.toList = [c] := by rcases hok with rfl | ⟨_, _, _, _, rfl, _⟩ <;> rfl
  obtain ⟨A, cc, l, rfl, hb, hcc, hm, hz, hp⟩ := arg_byteslice (r := r) (base := base) hu he hc hby (by unfold Value.okWide; rw [hu]; exact h.ok) (⟨fuel, by rw [hv]; exact hf⟩ : DataW.Trod enc P W b0 sp held t c x.1 x.2) hw
  exact ⟨l, Bytes.rd hb hcc hz hp, hm⟩
end
end Go.Wk
