/- What a list of calls is that is handed in. -/
import Derived.Test.YtkpbpeajkfgfiaaS3
import Derived.Test.YtkpbpeajkfgfiaaDm
set_option linter.unusedVariables false
set_option linter.unusedSimpArgs false
namespace Go.Proofs.Ytkpbpeajkfgfiaa
open Go Go.Wk

open Go.ChangeShapes Go.WideShapes Go.ChangeAt Go.RowKit
section
variable {H : Type} {enc : TypeId × Value → H} {P : Program} {W : World} {r : Reach} {base b0 : Nat} {held : Bool}
theorem all_of {p : Nat → Bool} {e : TypeId} : ∀ {ds : List (DataW H)} {i : Nat} {d : DataW H}, (DataW.weightsAll P e ds).all p = true → ds[i]? = some d → (DataW.weights P e d).all p = true
  | d' :: ds, 0, d, h, hd => by
    simp only [DataW.weightsAll, List.all_append, Bool.and_eq_true] at h
    obtain rfl : d' = d := by simpa using hd
    exact h.1
  | d' :: ds, i + 1, d, h, hd => by
    simp only [DataW.weightsAll, List.all_append, Bool.and_eq_true] at h
    exact all_of h.2 (by simpa using hd)
  | [], i, d, h, hd => by simp at hd
/-- What a cell reads as, wherever it stands. -/
def Fl (enc : TypeId × Value → H) (P : Program) (W : World) (b0 : Nat) (held : Bool) (t : TypeId) (c : Value) : Prop :=
  ∃ fuel x, DataW.trod enc P W b0 (fun _ => true) held fuel t [c] = some x ∧ (DataW.weights P t x.1).all (· ≤ reachBytes) = true
theorem fls_of {t : TypeId} {fs : Array Field} {ts : List TypeId} {cs : List Value} {fuel : Nat} {x : DataW H × List MemPlace} (ht : P.underlying t = some (.struct fs)) (hts : fs.toList.map (·.type) = ts) (hl : cs.length = fs.size)
    (hoff : ∀ (i : Nat) (f : Field), fs[i]? = some f → f.offset = i ∧ P.cellsOf f.type = 1) (hf : DataW.trod enc P W b0 (fun _ => true) held fuel t cs = some x) (hw : (DataW.weights P t x.1).all (· ≤ reachBytes) = true) :
    ∀ (i : Nat) c u, cs[i]? = some c → ts[i]? = some u → Fl enc P W b0 held u c := fun i c u hc hu => by
  obtain ⟨xs, m, rfl, hx, _, hsz, hfl⟩ := DataW.trod_struct ht hf
  have hu' := hu
  rw [← hts, List.getElem?_map, Option.map_eq_some_iff] at hu'
  obtain ⟨f, hfi, rfl⟩ := hu'
  have hfi' : fs[i]? = some f := by rw [← Array.getElem?_toList]; exact hfi
  obtain ⟨o1, o2⟩ := hoff i f hfi'
  have h1 := hfl i f hfi'
  rw [o1, o2] at h1
  have hil : i < cs.length := (List.getElem?_eq_some_iff.1 hc).1
  have hcut : (cs.drop i).take 1 = [c] := by
    rw [List.drop_eq_getElem_cons hil, List.take_succ_cons, List.take_zero]
    have := (List.getElem?_eq_some_iff.1 hc).2
    rw [this]
  rw [hcut] at h1
  have hxl : i < xs.length := by rw [hsz, ← hl]; exact hil
  rw [List.getElem?_eq_getElem hxl] at h1
  refine ⟨m, _, h1, ?_⟩
  have hxe : x.1 = _ := congrArg Prod.fst hx
  rw [hxe] at hw
  unfold DataW.weights at hw
  rw [ht] at hw
  exact each_of hw (by rw [hts]; exact hu) (by rw [List.getElem?_map, List.getElem?_eq_getElem hxl]; rfl)
theorem Fl.int {t : TypeId} {c : Value} (u : P.underlying t = some (.int .i64)) (h : Fl enc P W b0 held t c) : ∃ n, c = .int .i64 n ∧ Fits n := by
  obtain ⟨fuel, x, hf, _⟩ := h
  obtain ⟨n, g, _, w⟩ := DataW.trod_int u hf
  exact ⟨n, by simpa using g, has64 (by simpa [Lit.wf, IntKind.has] using w)⟩
theorem Fl.word {t : TypeId} {c : Value} (u : P.underlying t = some (.int .u64)) (h : Fl enc P W b0 held t c) : ∃ x, c = b64 x := by
  obtain ⟨fuel, x, hf, _⟩ := h
  obtain ⟨n, g, _, w⟩ := DataW.trod_int u hf
  obtain ⟨x, rfl⟩ := hasU64 (n := n) (by simpa [Lit.wf, IntKind.has] using w)
  exact ⟨x, by simpa using g⟩
theorem Fl.nums {t e : TypeId} {k : IntKind} {c : Value} (hu : P.underlying t = some (.slice e)) (he : P.underlying e = some (.int k)) (hc : P.cellsOf e = 1) (h : Fl enc P W b0 held t c) :
    ∃ zs : List Int, Rd W c 1 zs.length (zs.map (Value.int k)) ∧ zs.length * P.bytesOf e ≤ reachBytes ∧ ∀ z ∈ zs, (Lit.int k z).wf = true := by
  obtain ⟨fuel, x, hf, hw⟩ := h
  rcases open_ints hu he hc hf with ⟨h0, _⟩ | ⟨a, len, cap, zs, h0, _, hl, _, hz, hx, hcell, hwf⟩
  · obtain rfl : c = .slice none 0 0 := by simpa using h0
    exact ⟨[], Rd.nil W 1, by simp, by simp⟩
  · obtain rfl : c = .slice (some a) len cap := by simpa using h0
    simp only [if_true] at hz
    have hxe : x.1 = _ := congrArg Prod.fst hx
    have hdw : zs.length * P.bytesOf e ≤ reachBytes := by
      have hall := List.all_eq_true.1 hw
      rw [hxe] at hall
      unfold DataW.weights at hall
      rw [hu] at hall
      have := hall _ (List.mem_cons_self ..)
      simp only [decide_eq_true_eq, lits, List.length_map] at this
      rw [← List.length_append, List.take_append_drop] at this
      exact this
    have hln : (zs.take len).length = len := by rw [List.length_take]; omega
    have hsp : ∀ j, j < zs.length → a.spot = none := fun j hj => by
      have := World.cell?_spot (hcell 0 (by omega))
      simpa [Addr.add] using this
    refine ⟨zs.take len, ⟨some a, cap, by rw [hln], fun j u hj => ?_, by rw [List.length_map, Nat.mul_one], by omega, (fun h => by cases h), (fun hc0 a' ha => by cases ha; exact hsp 0 (by omega))⟩, Nat.le_trans (Nat.mul_le_mul_right _ (by omega)) hdw, fun z hm => hwf z (List.mem_of_mem_take hm)⟩
    rw [List.getElem?_map, List.getElem?_take] at hj
    split at hj
    · rename_i hlt
      have hjl : j < zs.length := by omega
      have hs := hsp j hjl
      obtain ⟨b, o, s⟩ := a
      have hs' : s = none := hs
      subst hs'
      refine ⟨b, o, rfl, ?_⟩
      have h1 := hcell j hjl
      rw [Addr.add_off] at h1
      rw [h1, ← hj, List.getElem?_eq_getElem hjl]
      simp [List.getD, hjl]
    · cases hj
theorem Fl.ints {t e : TypeId} {c : Value} (hu : P.underlying t = some (.slice e)) (he : P.underlying e = some (.int .i64)) (hc : P.cellsOf e = 1) (hby : P.bytesOf e = 8) (h : Fl enc P W b0 held t c) :
    ∃ L : List Int, RdI W c L ∧ L.length ≤ 17592186044416 := by
  obtain ⟨zs, h1, h2, _⟩ := Fl.nums hu he hc h
  rw [hby] at h2
  unfold reachBytes at h2
  exact ⟨zs, h1, by omega⟩
theorem Fl.bytes {t e : TypeId} {c : Value} (hu : P.underlying t = some (.slice e)) (he : P.underlying e = some (.int .u8)) (hc : P.cellsOf e = 1) (hby : P.bytesOf e = 1) (h : Fl enc P W b0 held t c) :
    ∃ L : List UInt8, RdB W c L ∧ L.length ≤ 140737488355328 := by
  obtain ⟨zs, h1, h2, h3⟩ := Fl.nums hu he hc h
  rw [hby] at h2
  unfold reachBytes at h2
  have he : zs.map (Value.int .u8) = (zs.map (fun z => UInt8.ofNat z.toNat)).map bv := by
    rw [List.map_map]
    refine List.map_congr_left fun z hz => ?_
    obtain ⟨q, rfl⟩ := hasU8 (n := z) (by simpa [Lit.wf, IntKind.has] using h3 z hz)
    simp [bv]
  refine ⟨zs.map (fun z => UInt8.ofNat z.toNat), ?_, by rw [List.length_map]; omega⟩
  unfold RdB
  rw [List.length_map, ← he]
  exact h1
/-- What a list of elements holds, element by element. -/
theorem elems_of {t e : TypeId} {v : Value} {fuel n : Nat} {x : DataW H × List MemPlace} (hu : P.underlying t = some (.slice e)) (hc : P.cellsOf e = n)
    (hf : DataW.trod enc P W b0 (fun _ => true) held fuel t [v] = some x) (hw : (DataW.weights P t x.1).all (· ≤ reachBytes) = true) :
    v = .slice none 0 0 ∨ ∃ a len cap, v = .slice (some a) len cap ∧ len ≤ cap ∧ len * P.bytesOf e ≤ reachBytes ∧ ∀ i, i < len → ∃ cs fuel y, cs.length = n ∧ (∀ j, j < n → W.cell? ((a.add (i * n)).add j) = cs[j]?) ∧ DataW.trod enc P W b0 (fun _ => true) held fuel e cs = some y ∧ (DataW.weights P e y.1).all (· ≤ reachBytes) = true := by
  rcases DataW.trod_slice hu hf with ⟨h0, _⟩ | ⟨a, len, cap, elems, rest, m, _, h0, rfl, hb, hl, hm, hlen, hel, hsp, hns⟩
  · left; simpa using h0
  · right
    refine ⟨a, len, cap, by simpa using h0, hl, ?_, fun i hi => ?_⟩
    · have hall := List.all_eq_true.1 hw
      unfold DataW.weights at hall
      rw [hu] at hall
      have := hall _ (List.mem_cons_self ..)
      simp only [decide_eq_true_eq, List.length_map, hlen] at this
      exact Nat.le_trans (Nat.mul_le_mul_right _ (Nat.le_add_right _ _)) this
    · have h1 := hel i hi
      rw [hc, List.getElem?_eq_getElem (by omega), Option.bind_eq_some_iff] at h1
      obtain ⟨cs, h2, h3⟩ := h1
      have h4 := World.cells?_some h2
      refine ⟨cs, m, _, h4.2.1, h4.2.2, h3, ?_⟩
      · unfold DataW.weights at hw
        rw [hu] at hw
        simp only [List.all_cons, List.all_append, Bool.and_eq_true] at hw
        exact all_of (i := i) hw.2.1 (by rw [List.getElem?_map, List.getElem?_eq_getElem (show i < elems.length by omega)]; rfl)
end
theorem oC_split : ∀ {L : List Op7} {j : Nat} {u : Value}, (oC L)[j]? = some u → ∃ i k o, L[i]? = some o ∧ j = i * 7 + k ∧ k < 7 ∧ (opC o)[k]? = some u
  | [], j, u, h => by simp [oC] at h
  | c :: L, j, u, h => by
    have hh : (opC c ++ oC L)[j]? = some u := h
    rcases Nat.lt_or_ge j 7 with hj | hj
    · rw [List.getElem?_append_left (by exact hj)] at hh
      exact ⟨0, j, c, rfl, by omega, hj, hh⟩
    · rw [List.getElem?_append_right (by exact hj)] at hh
      obtain ⟨i, k, o, h1, h2, h3, h4⟩ := oC_split hh
      exact ⟨i + 1, k, o, by simpa using h1, by have : (opC c).length = 7 := rfl; omega, h3, h4⟩
section
variable {H : Type} {enc : TypeId × Value → H} {W : World} {base b0 : Nat} {held : Bool}
set_option maxRecDepth 100000 in
theorem op_elem {cs : List Value} {fuel : Nat} {y : DataW H × List MemPlace} (hl : cs.length = 7) (hf : DataW.trod enc Try.prog W b0 (fun _ => true) held fuel 118 cs = some y) (hw : (DataW.weights Try.prog 118 y.1).all (· ≤ reachBytes) = true) :
    ∃ o : Op7, OpOk W o ∧ cs = opC o := by
  have hr := fls_of (ts := [3, 3, 3, 3, 30, 33, 23]) Try.underlying118 rfl (by rw [hl]; rfl) (fun j f hj => by
    have hjl : j < 7 := (Array.getElem?_eq_some_iff.1 hj).1
    match j, hjl, hj with
    | 0, _, hj => (cases hj; exact ⟨rfl, by kernel_rfl⟩)
    | 1, _, hj => (cases hj; exact ⟨rfl, by kernel_rfl⟩)
    | 2, _, hj => (cases hj; exact ⟨rfl, by kernel_rfl⟩)
    | 3, _, hj => (cases hj; exact ⟨rfl, by kernel_rfl⟩)
    | 4, _, hj => (cases hj; exact ⟨rfl, by kernel_rfl⟩)
    | 5, _, hj => (cases hj; exact ⟨rfl, by kernel_rfl⟩)
    | 6, _, hj => (cases hj; exact ⟨rfl, by kernel_rfl⟩)
    | j + 7, hjl, _ => omega) hf hw
  obtain ⟨c0, c1, c2, c3, c4, c5, c6, rfl⟩ : ∃ c0 c1 c2 c3 c4 c5 c6, cs = [c0, c1, c2, c3, c4, c5, c6] := by
    match cs, hl with
    | [c0, c1, c2, c3, c4, c5, c6], _ => exact ⟨c0, c1, c2, c3, c4, c5, c6, rfl⟩
  obtain ⟨kd, rfl, _⟩ := Fl.int Try.underlying3 (hr 0 _ _ rfl rfl)
  obtain ⟨dd, rfl, _⟩ := Fl.int Try.underlying3 (hr 1 _ _ rfl rfl)
  obtain ⟨a, rfl, _⟩ := Fl.int Try.underlying3 (hr 2 _ _ rfl rfl)
  obtain ⟨n, rfl, hn⟩ := Fl.int Try.underlying3 (hr 3 _ _ rfl rfl)
  obtain ⟨x, rfl⟩ := Fl.word Try.underlying30 (hr 4 _ _ rfl rfl)
  obtain ⟨lB, hB, hBl⟩ := Fl.bytes Try.underlying33 Try.underlying5 (by kernel_rfl) (by kernel_rfl) (hr 5 _ _ rfl rfl)
  obtain ⟨lI, hI, hIl⟩ := Fl.ints Try.underlying23 Try.underlying3 (by kernel_rfl) (by kernel_rfl) (hr 6 _ _ rfl rfl)
  exact ⟨⟨kd, dd, a, n, x, c5, lB, c6, lI⟩, ⟨hB, hI, hBl, hIl, hn.2⟩, rfl⟩
set_option maxRecDepth 100000 in
theorem arg_ops {r : Reach} {v : Value} {d : DataW H} {ps : List MemPlace} (h : Value.okWide Try.prog W r base 89 v) (hd : DataW.Trod enc Try.prog W b0 (fun _ => true) held 89 v d ps) (hw : (DataW.weights Try.prog 89 d).all (· ≤ reachBytes) = true) :
    ∃ L : List Op7, RdO W v L ∧ L.length ≤ 140737488355328 := by
  obtain ⟨fuel, hf⟩ := hd
  have hok := arg_slice Try.underlying89 h
  have hv : v.cells.toList = [v] := by rcases hok with rfl | ⟨_, _, _, _, rfl, _⟩ <;> rfl
  rw [hv] at hf
  rcases elems_of (n := 7) Try.underlying89 (by kernel_rfl) hf hw with rfl | ⟨a, len, cap, rfl, hlc, hby, hel⟩
  · exact ⟨[], ⟨Rd.nil W 7, by simp⟩, by simp⟩
  · have hby' : Try.prog.bytesOf 118 = 88 := by kernel_rfl
    rw [hby'] at hby
    unfold reachBytes at hby
    obtain ⟨b, o, rfl⟩ : ∃ b o, a = ⟨b, o, none⟩ := by
      rcases hok with h0 | ⟨b, o, n, c, h0, _⟩
      · cases h0
      · simp only [Value.slice.injEq, Option.some.injEq] at h0
        exact ⟨b, o, h0.1⟩
    obtain ⟨L, hLl, hL⟩ := choose_list' (Q := fun j (z : Op7) => OpOk W z ∧ ∀ k u, (opC z)[k]? = some u → W.cell? (((⟨b, o, none⟩ : Addr).add (j * 7)).add k) = some u) len (fun j hj => by
      obtain ⟨cs, fu, y, h1, h2, h3, h4⟩ := hel j hj
      obtain ⟨z, hz, rfl⟩ := op_elem h1 h3 h4
      exact ⟨z, hz, fun k u hk => by rw [h2 k (List.getElem?_eq_some_iff.1 hk).1]; exact hk⟩)
    subst hLl
    refine ⟨L, ⟨⟨some ⟨b, o, none⟩, cap, rfl, fun j u hj => ?_, oC_length L, hlc, (fun h => by cases h), (fun _ a ha => by cases ha; rfl)⟩, fun z hm => ?_⟩, by omega⟩
    · obtain ⟨i, k, z, hi, rfl, hk, hu⟩ := oC_split hj
      have := (hL i z hi).2 k u hu
      rw [Addr.add_off, Addr.add_off, Nat.add_assoc] at this
      exact ⟨b, o, rfl, this⟩
    · obtain ⟨i, hi⟩ := List.getElem?_of_mem hm
      exact (hL i z hi).1
end

end Go.Proofs.Ytkpbpeajkfgfiaa
