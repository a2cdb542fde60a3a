/- Lists of notes (an int, an int, a word) and of ints: how they are read, and handed in. -/
import Derived.Test.YtgighokkflchmaaDg
import Derived.Test.YtgighokkflchmaaLp
set_option linter.unusedVariables false
set_option linter.unusedSimpArgs false
namespace Go.Wk
open Go Go.ChangeShapes Go.WideShapes Go.ChangeAt Go.RowKit
abbrev Nt := Int × Int × BitVec 64
def nC (l : List Nt) : List Value := l.flatMap fun c => [.int .i64 c.1, .int .i64 c.2.1, b64 c.2.2]
theorem nC_length (a : List Nt) : (nC a).length = a.length * 3 := by induction a with
  | nil => rfl
  | cons c a ih => simp only [nC, List.flatMap_cons, List.length_append, List.length_cons] at *; rw [ih]; simp; omega
theorem nC_at : ∀ {L : List Nt} {j : Nat} {c : Nt}, L[j]? = some c → (nC L)[j * 3]? = some (.int .i64 c.1) ∧ (nC L)[j * 3 + 1]? = some (.int .i64 c.2.1) ∧ (nC L)[j * 3 + 2]? = some (b64 c.2.2)
  | d :: L, 0, c, h => by
    have : d = c := by simpa using h
    subst this; exact ⟨rfl, rfl, rfl⟩
  | d :: L, j + 1, c, h => by
    have h' : L[j]? = some c := by simpa using h
    have := nC_at h'
    rw [show (j + 1) * 3 = j * 3 + 1 + 1 + 1 by omega]
    exact this
theorem nC_split : ∀ {L : List Nt} {j : Nat} {u : Value}, (nC L)[j]? = some u → ∃ i c, L[i]? = some c ∧ ((j = i * 3 ∧ u = .int .i64 c.1) ∨ (j = i * 3 + 1 ∧ u = .int .i64 c.2.1) ∨ (j = i * 3 + 2 ∧ u = b64 c.2.2))
  | [], j, u, h => by simp [nC] at h
  | c :: L, 0, u, h => ⟨0, c, rfl, .inl ⟨rfl, by simpa [nC, eq_comm] using h⟩⟩
  | c :: L, 1, u, h => ⟨0, c, rfl, .inr (.inl ⟨rfl, by simpa [nC, eq_comm] using h⟩)⟩
  | c :: L, 2, u, h => ⟨0, c, rfl, .inr (.inr ⟨rfl, by simpa [nC, eq_comm] using h⟩)⟩
  | c :: L, j + 3, u, h => by
    obtain ⟨i, d, hd, hh⟩ := nC_split (L := L) (j := j) (u := u) (by simpa [nC] using h)
    exact ⟨i + 1, d, by simpa using hd, by rcases hh with ⟨h1, h2⟩ | ⟨h1, h2⟩ | ⟨h1, h2⟩; exact .inl ⟨by omega, h2⟩; exact .inr (.inl ⟨by omega, h2⟩); exact .inr (.inr ⟨by omega, h2⟩)⟩
abbrev RdN (w : World) (v : Value) (l : List Nt) : Prop := Rd w v 3 l.length (nC l)
section
variable {P : Program} {Γ : Ctx} {E : Env} {H : List Res} {ops : Array Oper} {Q : Exit → Act → World → Prop} {rest : List Oper} {ψ : Act → Prop}
  {d : Nat} {dst : Option Tmp} {g : Option (Nat × Bool)} {ty : TypeId} {pos : String} {after : Array Edge} {x y z : Operand} {v u : Value}
theorem At.idxN {t el : Nat} {l : List Nt} {k : IntKind} {j : Int} (h : RdN Γ.w0 v l) (hu : P.underlying t = some (.slice el)) (hs : ∀ w, (sizeOf el).run P w = .ok 3 w) (hx : ev E x = some v) (hy : ev E y = some (.int k j)) (h0 : 0 ≤ j) (h1 : j < l.length)
    (hg : g = none) (hn : Nat.blt d Γ.n = true)
    (c : ∀ b o q, l[j.toNat]? = some q → Γ.w0.cell? ⟨b, o, none⟩ = some (.int .i64 q.1) → Γ.w0.cell? ⟨b, o + 1, none⟩ = some (.int .i64 q.2.1) → Γ.w0.cell? ⟨b, o + 2, none⟩ = some (b64 q.2.2) → (∀ S, Off v (nC l) S → ¬ S b) → At Γ ((d, .pointer (some ⟨b, o, none⟩)) :: E) H (wpList P ops Q rest)) :
    At Γ E H (wpList P ops Q ({ dst := some d, op := .indexAddr t x y, type := ty, pos, after, guard := g } :: rest)) :=
  by
    obtain ⟨b, o, cap, rfl, hc⟩ := h.at (j := j.toNat) (by omega)
    have hq : l[j.toNat]? = some (l[j.toNat]'(by omega)) := List.getElem?_eq_getElem _
    have hp := nC_at hq
    exact At.val (Val.indexSl _ rfl hu hs hx hy h0 h1) hg rfl hn (c b _ _ hq (hc 0 _ hp.1) (hc 1 _ hp.2.1) (hc 2 _ hp.2.2) (fun S ho => ho (fun e => by rw [e] at hp; cases hp.1) b o none _ _ rfl))
theorem QAt.idxN {t el : Nat} {l : List Nt} {k : IntKind} {j : Int} (h : RdN Γ.w0 v l) (hu : P.underlying t = some (.slice el)) (hs : ∀ w, (sizeOf el).run P w = .ok 3 w) (hx : ev E x = some v) (hy : ev E y = some (.int k j)) (h0 : 0 ≤ j) (h1 : j < l.length)
    (hg : g = none) (hn : Nat.blt d Γ.n = true)
    (c : ∀ b o q, l[j.toNat]? = some q → Γ.w0.cell? ⟨b, o, none⟩ = some (.int .i64 q.1) → Γ.w0.cell? ⟨b, o + 1, none⟩ = some (.int .i64 q.2.1) → Γ.w0.cell? ⟨b, o + 2, none⟩ = some (b64 q.2.2) → (∀ S, Off v (nC l) S → ¬ S b) → QAt P Γ ops ((d, .pointer (some ⟨b, o, none⟩)) :: E) H rest ψ) :
    QAt P Γ ops E H ({ dst := some d, op := .indexAddr t x y, type := ty, pos, after, guard := g } :: rest) ψ :=
  by
    obtain ⟨b, o, cap, rfl, hc⟩ := h.at (j := j.toNat) (by omega)
    have hq : l[j.toNat]? = some (l[j.toNat]'(by omega)) := List.getElem?_eq_getElem _
    have hp := nC_at hq
    exact QAt.val (Val.indexSl _ rfl hu hs hx hy h0 h1) hg rfl hn (c b _ _ hq (hc 0 _ hp.1) (hc 1 _ hp.2.1) (hc 2 _ hp.2.2) (fun S ho => ho (fun e => by rw [e] at hp; cases hp.1) b o none _ _ rfl))
theorem Val.loadN {t b o : Nat} {q : Nt} (hA : ∀ w, (isAgg t).run P w = .ok true w) (hs : ∀ w, (sizeOf t).run P w = .ok 3 w) (hx : ev E x = some (.pointer (some ⟨b, o, none⟩))) (h0 : Γ.w0.cell? ⟨b, o, none⟩ = some (.int .i64 q.1)) (h1 : Γ.w0.cell? ⟨b, o + 1, none⟩ = some (.int .i64 q.2.1)) (h2 : Γ.w0.cell? ⟨b, o + 2, none⟩ = some (b64 q.2.2)) (hS : ¬ Γ.S b) :
    Val P Γ E H ⟨dst, .load t x, ty, pos, after, g⟩ (.agg #[.int .i64 q.1, .int .i64 q.2.1, b64 q.2.2]) :=
  Val.loadOldPart (vs := [.int .i64 q.1, .int .i64 q.2.1, b64 q.2.2]) hA hs hx rfl (fun j u hj => by
    match j, hj with
    | 0, hj => (obtain rfl := Option.some.inj hj; exact h0)
    | 1, hj => (obtain rfl := Option.some.inj hj; exact h1)
    | 2, hj => (obtain rfl := Option.some.inj hj; exact h2)) hS
theorem Rd.off {w : World} {sz n : Nat} {xs : List Value} (h : Rd w v sz n xs) {S : Nat → Prop} (hS : ∀ b, S b → w.heap.size ≤ b) : Off v xs S := fun hne b o s n' c hv hb => by
  obtain ⟨A, c', rfl, h2, _⟩ := h
  have hl : 0 < xs.length := List.length_pos_iff.2 hne
  obtain ⟨b', o', e, hc⟩ := h2 0 _ (List.getElem?_eq_getElem hl)
  simp only [Value.slice.injEq] at hv
  rw [hv.1] at e
  simp only [Option.some.injEq, Addr.mk.injEq] at e
  obtain ⟨rfl, _, _⟩ := e
  have := block_lt_of_cell hc
  have := hS _ hb
  simp only at *; omega
theorem Rep.newFoot {w0 w : World} {H : List Res} {r : Res} (hw : Rep w0 (fun _ => False) H w) (hr : r ∈ H) : ∀ b, feet [r] b → w0.heap.size ≤ b := fun b ⟨q, hq, hb⟩ => by
  rw [List.mem_singleton.1 hq] at hb
  exact (hw.mine r hr b hb).elim (fun h => h) (fun h => h.elim)
end
section
variable {H : Type} {enc : TypeId × Value → H} {P : Program} {W : World} {r : Reach} {base b0 : Nat} {sp : Nat → Bool} {held : Bool}
theorem choose_list' {α : Type} {Q : Nat → α → Prop} : ∀ n : Nat, (∀ j, j < n → ∃ z, Q j z) → ∃ zs : List α, zs.length = n ∧ ∀ j z, zs[j]? = some z → Q j z
  | 0, _ => ⟨[], rfl, fun j z h => by simp at h⟩
  | n + 1, h => by
    obtain ⟨zs, hl, hz⟩ := choose_list' n (fun j hj => h j (by omega))
    obtain ⟨z, hq⟩ := h n (by omega)
    refine ⟨zs ++ [z], by simp [hl], fun j y hy => ?_⟩
    rcases Nat.lt_or_ge j n with hj | hj
    · rw [List.getElem?_append_left (by omega)] at hy; exact hz j y hy
    · have hj' : j < (zs ++ [z]).length := (List.getElem?_eq_some_iff.1 hy).1
      rw [List.length_append, hl] at hj'
      obtain rfl : n = j := by simp at hj'; omega
      rw [List.getElem?_append_right (by omega), hl, Nat.sub_self] at hy
      obtain rfl := Option.some.inj hy
      exact hq
def NtAt (W : World) (a : Addr) (z : Nt) : Prop := W.cell? (a.add 0) = some (.int .i64 z.1) ∧ W.cell? (a.add 1) = some (.int .i64 z.2.1) ∧ W.cell? (a.add 2) = some (b64 z.2.2)
def Fits (z : Int) : Prop := -9223372036854775808 ≤ z ∧ z ≤ 9223372036854775807
theorem note_elem {e ti tu : TypeId} {fs : Array Field} {f0 f1 f2 : Field} {n bs : Nat} {a : Addr} {y : DataW H × List MemPlace} (he : P.underlying e = some (.struct fs)) (hc : P.cellsOf e = 3)
    (hf0 : fs[0]? = some f0) (hf1 : fs[1]? = some f1) (hf2 : fs[2]? = some f2) (o0 : f0.offset = 0) (o1 : f1.offset = 1) (o2 : f2.offset = 2) (t0 : f0.type = ti) (t1 : f1.type = ti) (t2 : f2.type = tu) (ui : P.underlying ti = some (.int .i64)) (uu : P.underlying tu = some (.int .u64)) (ci : P.cellsOf ti = 1) (cu : P.cellsOf tu = 1)
    (h : (W.cells? bs a 3).bind (DataW.trod enc P W bs sp held n e) = some y) : ∃ z : Nt, NtAt W a z ∧ Fits z.1 ∧ Fits z.2.1 := by
  rw [Option.bind_eq_some_iff] at h
  obtain ⟨cs, hcs, hy⟩ := h
  obtain ⟨xs, n', rfl, rfl, hl, hsz, hx⟩ := DataW.trod_struct he hy
  have h0 := hx 0 f0 hf0
  have h1 := hx 1 f1 hf1
  have h2 := hx 2 f2 hf2
  rw [o0, t0, ci] at h0
  rw [o1, t1, ci] at h1
  rw [o2, t2, cu] at h2
  have s2 : 2 < fs.size := (Array.getElem?_eq_some_iff.1 hf2).1
  rw [List.getElem?_eq_getElem (by omega)] at h0 h1 h2
  obtain ⟨m0, g0, _, w0⟩ := DataW.trod_int ui h0
  obtain ⟨m1, g1, _, w1⟩ := DataW.trod_int ui h1
  obtain ⟨m2, g2, _, w2⟩ := DataW.trod_int uu h2
  rw [hc] at hl
  match cs, hl, hcs, g0, g1, g2 with
  | [p, q, s], _, hcs, g0, g1, g2 =>
    simp only [List.drop_zero, List.take_succ_cons, List.take_zero, List.drop_succ_cons, List.cons.injEq, and_true] at g0 g1 g2
    subst g0 g1 g2
    have hh := (World.cells?_some hcs).2.2
    obtain ⟨x, rfl⟩ := hasU64 (n := m2) (by simpa [Lit.wf, IntKind.has] using w2)
    exact ⟨(m0, m1, x), ⟨by simpa using hh 0 (by omega), by simpa using hh 1 (by omega), by simpa using hh 2 (by omega)⟩, has64 (by simpa [Lit.wf, IntKind.has] using w0), has64 (by simpa [Lit.wf, IntKind.has] using w1)⟩
theorem notes_of {t e ti tu : TypeId} {fs : Array Field} {f0 f1 f2 : Field} {v : Value} {fuel : Nat} {x : DataW H × List MemPlace} (hu : P.underlying t = some (.slice e)) (he : P.underlying e = some (.struct fs)) (hc : P.cellsOf e = 3) (hby : P.bytesOf e = 24)
    (hf0 : fs[0]? = some f0) (hf1 : fs[1]? = some f1) (hf2 : fs[2]? = some f2) (o0 : f0.offset = 0) (o1 : f1.offset = 1) (o2 : f2.offset = 2) (t0 : f0.type = ti) (t1 : f1.type = ti) (t2 : f2.type = tu) (ui : P.underlying ti = some (.int .i64)) (uu : P.underlying tu = some (.int .u64)) (ci : P.cellsOf ti = 1) (cu : P.cellsOf tu = 1)
    (hok : v = .slice none 0 0 ∨ ∃ b o n c, v = .slice (some ⟨b, o, none⟩) n c ∧ n ≤ c) (hf : DataW.trod enc P W b0 sp held fuel t [v] = some x) (hw : (DataW.weights P t x.1).all (· ≤ reachBytes) = true) :
    ∃ L : List Nt, RdN W v L ∧ L.length ≤ 8796093022144 ∧ ∀ z ∈ L, Fits z.1 ∧ Fits z.2.1 := by
  rcases hok with rfl | ⟨b, o, n, c, rfl, hnc⟩
  · exact ⟨[], Rd.nil W 3, by simp, by simp⟩
  · rcases DataW.trod_slice hu hf with ⟨h0, _⟩ | ⟨a, len, cap, elems, rest, m, _, h0, rfl, hb, hl, hm, hlen, hel, hsp, hns⟩
    · simp at h0
    · simp only [List.cons.injEq, Value.slice.injEq, Option.some.injEq, and_true] at h0
      obtain ⟨rfl, rfl, rfl⟩ := h0
      obtain ⟨zs, hzl, hz⟩ := choose_list' (Q := fun j (z : Nt) => NtAt W ((⟨b, o, none⟩ : Addr).add (j * 3)) z ∧ Fits z.1 ∧ Fits z.2.1) n (fun j hj => by
        have h1 := hel j hj
        rw [hc, List.getElem?_eq_getElem (by omega)] at h1
        exact note_elem he hc hf0 hf1 hf2 o0 o1 o2 t0 t1 t2 ui uu ci cu h1)
      subst hzl
      refine ⟨zs, ⟨some ⟨b, o, none⟩, c, rfl, fun j u hj => ?_, nC_length zs, hnc, (fun h => by cases h), (fun _ a ha => by cases ha; rfl)⟩, ?_, fun z hm => ?_⟩
      · obtain ⟨i, q, hq, hh⟩ := nC_split hj
        obtain ⟨⟨g0, g1, g2⟩, _⟩ := hz i q hq
        rw [Addr.add_off, Addr.add_off] at g0 g1 g2
        rcases hh with ⟨rfl, rfl⟩ | ⟨rfl, rfl⟩ | ⟨rfl, rfl⟩
        · exact ⟨b, o, rfl, g0⟩
        · exact ⟨b, o, rfl, by rw [← Nat.add_assoc]; exact g1⟩
        · exact ⟨b, o, rfl, by rw [← Nat.add_assoc]; exact g2⟩
      · have hall := List.all_eq_true.1 hw
        unfold DataW.weights at hall
        rw [hu] at hall
        have := hall _ (List.mem_cons_self ..)
        simp only [decide_eq_true_eq, hby, List.length_map, hlen] at this
        unfold reachBytes at this
        omega
      · obtain ⟨i, hi⟩ := List.getElem?_of_mem hm
        exact (hz i z hi).2
theorem arg_notes {t e ti tu : TypeId} {fs : Array Field} {f0 f1 f2 : Field} {v : Value} {d : DataW H} {ps : List MemPlace} (hu : P.underlying t = some (.slice e)) (he : P.underlying e = some (.struct fs)) (hc : P.cellsOf e = 3) (hby : P.bytesOf e = 24)
    (hf0 : fs[0]? = some f0) (hf1 : fs[1]? = some f1) (hf2 : fs[2]? = some f2) (o0 : f0.offset = 0) (o1 : f1.offset = 1) (o2 : f2.offset = 2) (t0 : f0.type = ti) (t1 : f1.type = ti) (t2 : f2.type = tu) (ui : P.underlying ti = some (.int .i64)) (uu : P.underlying tu = some (.int .u64)) (ci : P.cellsOf ti = 1) (cu : P.cellsOf tu = 1)
    (h : Value.okWide P W r base t v) (hd : DataW.Trod enc P W b0 sp held t v d ps) (hw : (DataW.weights P t d).all (· ≤ reachBytes) = true) : ∃ L : List Nt, RdN W v L ∧ L.length ≤ 8796093022144 ∧ ∀ z ∈ L, Fits z.1 ∧ Fits z.2.1 := by
  obtain ⟨fuel, hf⟩ := hd
  have hok := arg_slice hu h
  have hv : v.cells.toList = [v] := by rcases hok with rfl | ⟨_, _, _, _, rfl, _⟩ <;> rfl
  rw [hv] at hf
  exact notes_of hu he hc hby hf0 hf1 hf2 o0 o1 o2 t0 t1 t2 ui uu ci cu hok hf hw
theorem ints_of {t e : TypeId} {v : Value} {fuel : Nat} {x : DataW H × List MemPlace} (hu : P.underlying t = some (.slice e)) (he : P.underlying e = some (.int .i64)) (hc : P.cellsOf e = 1) (hby : P.bytesOf e = 8)
    (hok : v = .slice none 0 0 ∨ ∃ b o n c, v = .slice (some ⟨b, o, none⟩) n c ∧ n ≤ c) (hf : DataW.trod enc P W b0 sp held fuel t [v] = some x) (hw : (DataW.weights P t x.1).all (· ≤ reachBytes) = true) :
    ∃ L : List Int, RdI W v L ∧ L.length ≤ 17592186043904 ∧ ∀ z ∈ L, Fits z := by
  rcases hok with rfl | ⟨b, o, n, c, rfl, hnc⟩
  · exact ⟨[], Rd.nil W 1, by simp, by simp⟩
  · rcases open_ints hu he hc hf with ⟨h0, _⟩ | ⟨a, len, cap, zs, h0, _, hl, _, hz, hx, hcell, hwf⟩
    · simp at h0
    · simp only [List.cons.injEq, Value.slice.injEq, Option.some.injEq, and_true] at h0
      obtain ⟨rfl, rfl, rfl⟩ := h0
      have hlen : n ≤ zs.length := by rw [hz]; split <;> omega
      have hln : (zs.take n).length = n := by rw [List.length_take]; omega
      have hxe : x.1 = _ := congrArg Prod.fst hx
      have hdw : zs.length * 8 ≤ reachBytes := by
        have hall := List.all_eq_true.1 hw
        rw [hxe] at hall
        unfold DataW.weights at hall
        rw [hu] at hall
        have := hall _ (List.mem_cons_self ..)
        simp only [decide_eq_true_eq, hby, lits, List.length_map] at this
        rw [← List.length_append, List.take_append_drop] at this
        exact this
      refine ⟨zs.take n, ⟨some ⟨b, o, none⟩, c, by rw [hln], fun j u hj => ?_, by rw [List.length_map, Nat.mul_one], by rw [hln]; exact hnc, (fun h => by cases h), (fun _ a ha => by cases ha; rfl)⟩, ?_, fun z hm => ?_⟩
      · rw [List.getElem?_map, List.getElem?_take] at hj
        split at hj
        · rename_i hlt
          refine ⟨b, o, rfl, ?_⟩
          have h1 := hcell j (by omega)
          rw [Addr.add_off] at h1
          rw [h1]
          rw [List.getElem?_eq_getElem (show j < zs.length by omega)] at hj
          have hg : zs.getD j 0 = zs[j]'(by omega) := by simp [List.getD, show j < zs.length by omega]
          rw [hg]; exact hj
        · cases hj
      · rw [hln]; unfold reachBytes at hdw; omega
      · exact has64 (by simpa [Lit.wf, IntKind.has] using hwf z (List.mem_of_mem_take hm))
theorem arg_ints {t e : TypeId} {v : Value} {d : DataW H} {ps : List MemPlace} (hu : P.underlying t = some (.slice e)) (he : P.underlying e = some (.int .i64)) (hc : P.cellsOf e = 1) (hby : P.bytesOf e = 8)
    (h : Value.okWide P W r base t v) (hd : DataW.Trod enc P W b0 sp held t v d ps) (hw : (DataW.weights P t d).all (· ≤ reachBytes) = true) : ∃ L : List Int, RdI W v L ∧ L.length ≤ 17592186043904 ∧ ∀ z ∈ L, Fits z := by
  obtain ⟨fuel, hf⟩ := hd
  have hok := arg_slice hu h
  have hv : v.cells.toList = [v] := by rcases hok with rfl | ⟨_, _, _, _, rfl, _⟩ <;> rfl
  rw [hv] at hf
  exact ints_of hu he hc hby hok hf hw
end
end Go.Wk
