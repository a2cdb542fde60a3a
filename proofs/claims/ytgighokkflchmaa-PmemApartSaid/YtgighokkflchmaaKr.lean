/- The calculus: lists that were handed out and are only read from then on; a row beside what was handed out of it. -/
import Derived.Test.YtgighokkflchmaaDa
set_option linter.unusedVariables false
set_option linter.unusedSimpArgs false
namespace Go.Wk
open Go
structure RdF where
  v : Value
  sz : Nat
  n : Nat
  xs : List Value
def RdF.ok (f : RdF) (w : World) : Prop := Rd w f.v f.sz f.n f.xs ∧ ∀ b, f.v.ownBlock = some b → b < w.heap.size
theorem Rd.still {w w' : World} {v : Value} {sz n : Nat} {xs : List Value} (h : ∀ b, v.ownBlock = some b → w'.heap[b]? = w.heap[b]?) (hr : Rd w v sz n xs) : Rd w' v sz n xs := by
  obtain ⟨A, c, rfl, h2, h3⟩ := hr
  refine ⟨A, c, rfl, fun j u hj => ?_, h3⟩
  obtain ⟨b, o, rfl, hc⟩ := h2 j u hj
  exact ⟨b, o, rfl, (World.cell?_of_block (h b rfl)).trans hc⟩
theorem RdF.ok.still {f : RdF} {w w' : World} (h : ∀ b, f.v.ownBlock = some b → w'.heap[b]? = w.heap[b]?) (hr : f.ok w) : f.ok w' := ⟨hr.1.still h, fun b hb => by
  have h1 := hr.2 b hb
  have h2 := h b hb
  rcases Nat.lt_or_ge b w'.heap.size with h3 | h3
  · exact h3
  · rw [Array.getElem?_eq_none h3, Array.getElem?_eq_getElem h1] at h2; cases h2⟩
def readsR (L : List RdF) : Res where
  foot := fun b => ∃ f ∈ L, f.v.ownBlock = some b
  holds := fun w => ∀ f ∈ L, f.ok w
  stable := fun h hw f hf => (hw f hf).still fun b hb => h b ⟨f, hf, hb⟩
  low := fun hw b ⟨f, hf, hb⟩ => (hw f hf).2 b hb
def tailR (L : List RdF) (v : Value) (e sz n : Nat) (xs : List Value) : Res where
  foot := fun b => v.ownBlock = some b ∨ ∃ f ∈ L, f.v.ownBlock = some b
  holds := fun w => w.ownsRow 0 e sz v n xs ∧ ∀ f ∈ L, f.ok w ∧ ∀ b o s m c, f.v = .slice (some ⟨b, o, s⟩) m c → v.ownBlock = some b → o + f.xs.length ≤ n * sz
  stable := fun {w w'} h hw => ⟨(rowR v e sz n xs).stable (fun b hb => h b (.inl hb)) hw.1, fun f hf => ⟨(hw.2 f hf).1.still fun b hb => h b (.inr ⟨f, hf, hb⟩), (hw.2 f hf).2⟩⟩
  low := fun {w} hw b hb => by
    rcases hb with hb | ⟨f, hf, hb⟩
    · exact (rowR v e sz n xs).low hw.1 b hb
    · exact (hw.2 f hf).1.2 b hb
section
variable {P : Program} {Γ : Ctx} {E : Env} {H : List Res} {ops : Array Oper} {Q : Exit → Act → World → Prop} {rest : List Oper} {w0 w w' : World} {S : Nat → Prop} {F : List Res}
  {d : Nat} {dst : Option Tmp} {g : Option (Nat × Bool)} {ty : TypeId} {pos : String} {after : Array Edge} {x y z : Operand} {v u : Value} {φ : Act → World → Prop}
/-- One resource said otherwise. -/
theorem At.imp (i : Nat) {r r' : Res} (hi : H[i]? = some r) (h1 : ∀ w, r.holds w → r'.holds w) (h2 : ∀ b, r'.foot b → r.foot b) (k : At Γ E (H.set i r') φ) : At Γ E H φ := fun a w ha hw =>
  k a w ha (hw.change hi (Mod.refl _ _) (h1 w (hw.all _ (List.mem_of_getElem? hi))) fun b hb => .inl (h2 b hb))
theorem Rep.imp {r r' : Res} (h1 : ∀ w, r.holds w → r'.holds w) (h2 : ∀ b, r'.foot b → r.foot b) (h : Rep w0 S (r :: F) w) : Rep w0 S (r' :: F) w :=
  Rep.change (i := 0) rfl h (Mod.refl _ _) (h1 w (h.all _ (List.mem_cons_self ..))) fun b hb => .inl (h2 b hb)
theorem rdf_row {e sz n : Nat} {xs : List Value} (h : w.ownsRow 0 e sz v n xs) (hsz : 0 < sz) : RdF.ok ⟨v, sz, n, xs⟩ w := ⟨row_rd h hsz, fun b hb => (h.lt b hb).2⟩
/-- A row, and a list that is the row itself. -/
theorem At.rowTail (i : Nat) {e sz n : Nat} {xs : List Value} (hi : H[i]? = some (rowR v e sz n xs)) (hsz : 0 < sz) (k : At Γ E (H.set i (tailR [⟨v, sz, n, xs⟩] v e sz n xs)) φ) : At Γ E H φ :=
  At.imp (r' := tailR [⟨v, sz, n, xs⟩] v e sz n xs) i hi (fun w h => ⟨h, fun f hf => by
    obtain rfl := List.mem_singleton.1 hf
    refine ⟨rdf_row h hsz, fun b o s m c hv hb => ?_⟩
    rcases h.2 with ⟨h1, _⟩ | ⟨b', cap, cur, h1, _⟩
    · simp only at hv; rw [h1] at hv; cases hv
    · simp only at hv
      rw [h1] at hv
      simp only [Value.slice.injEq, Option.some.injEq, Addr.mk.injEq] at hv
      obtain ⟨⟨_, rfl, _⟩, _, _⟩ := hv
      show 0 + xs.length ≤ _
      have := h.1
      omega⟩) (fun b hb => by
    rcases hb with hb | ⟨f, hf, hb⟩
    · exact hb
    · obtain rfl := List.mem_singleton.1 hf
      exact hb) k
theorem tail_reads {L : List RdF} {e sz n : Nat} {xs : List Value} (hsz : 0 < sz) (h : (tailR L v e sz n xs).holds w) : (readsR (⟨v, sz, n, xs⟩ :: L)).holds w := fun f hf => by
  rcases List.mem_cons.1 hf with rfl | hf
  · exact rdf_row h.1 hsz
  · exact (h.2 f hf).1
theorem tail_feet {L : List RdF} {e sz n : Nat} {xs : List Value} (b : Nat) (h : (readsR (⟨v, sz, n, xs⟩ :: L)).foot b) : (tailR L v e sz n xs).foot b := by
  obtain ⟨f, hf, hb⟩ := h
  rcases List.mem_cons.1 hf with rfl | hf
  · exact .inl hb
  · exact .inr ⟨f, hf, hb⟩
/-- From here on all of it is only read. -/
theorem At.tailEnd (i : Nat) {L : List RdF} {e sz n : Nat} {xs : List Value} (hi : H[i]? = some (tailR L v e sz n xs)) (hsz : 0 < sz) (k : At Γ E (H.set i (readsR (⟨v, sz, n, xs⟩ :: L))) φ) : At Γ E H φ :=
  At.imp (r' := readsR (⟨v, sz, n, xs⟩ :: L)) i hi (fun w h => tail_reads hsz h) tail_feet k
theorem At.rowEnd (i : Nat) {e sz n : Nat} {xs : List Value} (hi : H[i]? = some (rowR v e sz n xs)) (hsz : 0 < sz) (k : At Γ E (H.set i (readsR [⟨v, sz, n, xs⟩])) φ) : At Γ E H φ :=
  At.imp (r' := readsR [⟨v, sz, n, xs⟩]) i hi (fun w h f hf => by obtain rfl := List.mem_singleton.1 hf; exact rdf_row h hsz) (fun b ⟨f, hf, hb⟩ => by obtain rfl := List.mem_singleton.1 hf; exact hb) k
theorem Rep.rowEnd {e sz n : Nat} {xs : List Value} (hsz : 0 < sz) (h : Rep w0 S (rowR v e sz n xs :: F) w) : Rep w0 S (readsR [⟨v, sz, n, xs⟩] :: F) w :=
  h.imp (r' := readsR [⟨v, sz, n, xs⟩]) (fun w h f hf => by obtain rfl := List.mem_singleton.1 hf; exact rdf_row h hsz) (fun b ⟨f, hf, hb⟩ => by obtain rfl := List.mem_singleton.1 hf; exact hb)
theorem Rep.readsNil (h : Rep w0 S F w) : Rep w0 S (readsR [] :: F) w :=
  h.new (Mod.refl _ _) (fun f hf => by cases hf) (fun b ⟨f, hf, _⟩ => by cases hf)
theorem At.readsNil (k : At Γ E (readsR [] :: H) φ) : At Γ E H φ := fun a w ha hw => k a w ha hw.readsNil
theorem Rep.joinK {L M : List RdF} (h : Rep w0 S (readsR L :: readsR M :: F) w) : Rep w0 S (readsR (L ++ M) :: F) w := by
  have h1 : Rep w0 S ([readsR L, readsR M] ++ F) w := h
  refine h1.shutS.imp (r' := readsR (L ++ M)) (fun w hh f hf => ?_) (fun b hb => ?_)
  · rcases List.mem_append.1 hf with hf | hf
    · exact hh.2 (readsR L) (by simp) f hf
    · exact hh.2 (readsR M) (by simp) f hf
  · obtain ⟨f, hf, hb⟩ := hb
    rcases List.mem_append.1 hf with hf | hf
    · exact ⟨readsR L, by simp, f, hf, hb⟩
    · exact ⟨readsR M, by simp, f, hf, hb⟩
/-- Two of them as one. -/
theorem At.joinK {L M : List RdF} (k : At Γ E (readsR (L ++ M) :: H) φ) : At Γ E (readsR L :: readsR M :: H) φ := fun a w ha hw => k a w ha hw.joinK
theorem At.dropK (i : Nat) {L M : List RdF} (hi : H[i]? = some (readsR L)) (hs : ∀ f ∈ M, f ∈ L) (k : At Γ E (H.set i (readsR M)) φ) : At Γ E H φ :=
  At.imp (r' := readsR M) i hi (fun w h f hf => h f (hs f hf)) (fun b ⟨f, hf, hb⟩ => ⟨f, hs f hf, hb⟩) k
/-! ### reading -/
theorem reads_at {L : List RdF} {f : RdF} (h : (readsR L).holds w) (hf : f ∈ L) {b o n c : Nat} (hv : f.v = .slice (some ⟨b, o, none⟩) n c) {q : Nat} (hq : f.xs[q]? = some u) : w.cell? ⟨b, o + q, none⟩ = some u := by
  obtain ⟨A, c', e, h2, _⟩ := (h f hf).1
  obtain ⟨b', o', e', hc⟩ := h2 q u hq
  rw [hv, e'] at e
  simp only [Value.slice.injEq, Option.some.injEq, Addr.mk.injEq] at e
  obtain ⟨⟨rfl, rfl, _⟩, _⟩ := e
  exact hc
theorem At.knowK (i : Nat) {L : List RdF} {f : RdF} (hi : H[i]? = some (readsR L)) (hf : f ∈ L) (h0 : 0 < f.n) (k : ∀ b o c, f.v = .slice (some ⟨b, o, none⟩) f.n c → At Γ E H φ) : At Γ E H φ := fun a w ha hw => by
  obtain ⟨b, o, c, hv, _⟩ := ((hw.all _ (List.mem_of_getElem? hi)) f hf).1.at (j := 0) h0
  exact k b o c hv a w ha hw
theorem Val.lenK {t el : Nat} (i : Nat) {L : List RdF} {f : RdF} (hi : H[i]? = some (readsR L)) (hf : f ∈ L) (hu : P.underlying t = some (.slice el)) (hx : ev E x = some f.v) :
    Val P Γ E H ⟨dst, .call { callee := .builtin .len, args := #[x], argTypes := #[t] }, ty, pos, after, g⟩ (.int .i64 f.n) := fun a w ha hw => by
  obtain ⟨A, c, hv, _⟩ := ((hw.all _ (List.mem_of_getElem? hi)) f hf).1
  rw [hv] at hx
  exact Val.len (bt := #[]) hu hx a w ha hw
theorem Val.loadK {t b o n c q r : Nat} (i : Nat) {L : List RdF} {f : RdF} (hA : ∀ w, (isAgg t).run P w = .ok false w) (hx : ev E x = some (.pointer (some ⟨b, r, none⟩))) (hi : H[i]? = some (readsR L)) (hf : f ∈ L) (hv : f.v = .slice (some ⟨b, o, none⟩) n c) (hr : o + q = r) (hq : f.xs[q]? = some u) :
    Val P Γ E H ⟨dst, .load t x, ty, pos, after, g⟩ u := fun a w ha hw => by
  subst hr
  have := run_loadAt_cell (P := P) hA (reads_at (hw.all _ (List.mem_of_getElem? hi)) hf hv hq)
  simp [execOp, ha.eval hx, Sem.run_bind, this]
theorem Val.loadPartK {t b o n c q r m : Nat} {vs : List Value} (i : Nat) {L : List RdF} {f : RdF} (hA : ∀ w, (isAgg t).run P w = .ok true w) (hs : ∀ w, (sizeOf t).run P w = .ok m w) (hx : ev E x = some (.pointer (some ⟨b, r, none⟩))) (hi : H[i]? = some (readsR L)) (hf : f ∈ L) (hv : f.v = .slice (some ⟨b, o, none⟩) n c) (hr : o + q = r) (hl : vs.length = m)
    (hq : ∀ j u, vs[j]? = some u → f.xs[q + j]? = some u) : Val P Γ E H ⟨dst, .load t x, ty, pos, after, g⟩ (.agg vs.toArray) := fun a w ha hw => by
  subst hr
  have hld := run_loadCells_list (P := P) w ⟨b, o + q, none⟩ vs (fun j u hj => by rw [Addr.add_off, Nat.add_assoc]; exact reads_at (hw.all _ (List.mem_of_getElem? hi)) hf hv (hq j u hj))
  rw [hl] at hld
  simp only [execOp, ha.eval hx, Instr.loadAt, Instr.sureAddr, loadVar, Sem.run_bind, Sem.run_pure, Result.andThen_ok, hA, if_true, hs, hld]
/-! ### append -/
theorem Mod.drewAlloc' (w : World) (o : Obj) : Mod (fun _ => False) w (w.drew.alloc o) := ⟨(Mod.alloc w.drew o).size, fun b hb h => (Mod.alloc w.drew o).old b hb h, rfl, rfl, rfl⟩
/-- Append's law: the row goes on where it stands, or anew, the old one left alone. -/
theorem run_append_ways {t ty e : TypeId} {ti : TypeInfo} {zv : Value} {sz by_ n m c : Nat} {xs ys : List Value} (ht : P.underlying t = some (.slice e)) (hti : P.info? e = some ti) (hz : ti.zero = some zv) (hsize : ti.size = sz) (hby : ti.bytes = by_) (hzs : zv.cells.size = sz) (hsz : 0 < sz)
    (h : w.ownsRow 0 e sz v n xs) {b : Addr} (hl : ys.length = m * sz) (hnews : ∀ j u, ys[j]? = some u → w.cell? (b.add j) = some u) (h1 : ∀ u ∈ ys, u.oneCell' = true) (h63 : (n + m) * by_ ≤ 140737488355328) (h64 : n + m ≤ 140737488355328) :
    ∃ v' w', (Builtin.append_ #[t, t] ty #[v, .slice (some b) m c]).run P w = .ok v' w' ∧ w'.ownsRow 0 e sz v' (n + m) (xs ++ ys) ∧ ((v'.ownBlock = v.ownBlock ∧ Mod (fun b => v.ownBlock = some b) w w') ∨ (Mod (fun _ => False) w w' ∧ ∀ b, v'.ownBlock = some b → w.heap.size ≤ b)) := by
  have hmx : n + m ≤ maxLen := by simp only [maxLen]; omega
  rcases h.2 with ⟨rfl, rfl⟩ | ⟨gb, cap, cur, rfl, hbg, hgg, hnc, hcm, hcs, htake⟩
  · obtain ⟨v', w', hr, ho, hg, _⟩ := run_append_own (P := P) w w.heap.size t ty e ti zv sz by_ ht hti hz hsize hby hzs hsz (.slice none 0 0) 0 xs ⟨h.1, .inl ⟨rfl, rfl⟩⟩ b m c ys hl hnews h1 hmx h63 (Nat.le_refl _)
    exact ⟨v', w', hr, own_base ho, .inr ⟨grown_none hg, fun b hb => own_block ho b hb⟩⟩
  · obtain ⟨v', w', hr, ho, hg, hf⟩ := run_append_row (P := P) (ty := ty) ht hti hz hsize hby hzs hsz h (a := b) (m := m) (c := c) hl hnews h1 hmx h63
    by_cases hroom : n + m ≤ cap
    · have hfit : n * ti.size + ys.length ≤ cur.size := by rw [hl, hcs, hsize, ← Nat.add_mul]; exact Nat.mul_le_mul_right _ hroom
      have hr3 := run_append_room (P := P) w t ty e ti ht hti gb n cap cur hgg b m c ys (by rw [hsize]; exact hl) hnews h1 hroom hfit
      have hr' := hr
      rw [hr'] at hr3
      injection hr3 with e1 e2
      subst e1
      exact ⟨_, w', hr, ho, .inl ⟨rfl, grown_mod hg⟩⟩
    · have holds : ∀ j u, xs[j]? = some u → w.cell? ((⟨gb, 0, none⟩ : Addr).add j) = some u := h.cells (g := gb) rfl
      have hr3 := run_append_grow (P := P) w t ty e ti zv ht hti hz ⟨gb, 0, none⟩ n cap xs (by rw [hsize]; exact h.1) holds b m c ys (by rw [hsize]; exact hl) hnews (by omega) (by simp only [maxLen] at hmx; omega) (growslice_fits (by omega) (by rw [hby]; exact h63))
      have hr' := hr
      rw [hr'] at hr3
      injection hr3 with e1 e2
      subst e1 e2
      refine ⟨_, _, hr, ho, .inr ⟨Mod.drewAlloc' w _, fun b' hb' => ?_⟩⟩
      have hb2 : some w.heap.size = some b' := hb'
      exact Nat.le_of_eq (Option.some.inj hb2)
/-- A row that goes on beside what was handed out of it. -/
theorem At.appendT {i t e sz by_ n m c o b : Nat} {ti : TypeInfo} {zv : Value} {L : List RdF} {xs ys : List Value} (ht : P.underlying t = some (.slice e)) (hti : P.info? e = some ti) (hz : ti.zero = some zv) (hsize : ti.size = sz) (hby : ti.bytes = by_) (hzs : zv.cells.size = sz) (hsz : Nat.blt 0 sz = true)
    (hx : ev E x = some v) (hy : ev E y = some (.slice (some ⟨b, o, none⟩) m c)) (hi : H[i]? = some (tailR L v e sz n xs)) (hl : ys.length = m * sz)
    (hsrc : ∀ w, Rep Γ.w0 Γ.S H w → ∀ j u, ys[j]? = some u → w.cell? ⟨b, o + j, none⟩ = some u) (h1 : ∀ u ∈ ys, u.oneCell' = true) (h63 : (n + m) * by_ ≤ 140737488355328) (h64 : n + m ≤ 140737488355328) (hn : Nat.blt d Γ.n = true)
    (k : ∀ v', At Γ ((d, v') :: E) (H.set i (tailR L v' e sz (n + m) (xs ++ ys))) (wpList P ops Q rest)) :
    At Γ E H (wpList P ops Q ({ dst := some d, op := .call { callee := .builtin .append, args := #[x, y], argTypes := #[t, t] }, type := ty, pos, after, guard := none } :: rest)) :=
  At.run rfl rfl hn fun a w ha hw => by
    have h : (tailR L v e sz n xs).holds w := hw.all _ (List.mem_of_getElem? hi)
    have hsz' : 0 < sz := by simpa [Nat.blt_eq] using hsz
    obtain ⟨v', w', hr, ho, hway⟩ := run_append_ways (P := P) (ty := ty) (c := c) ht hti hz hsize hby hzs hsz' h.1 (b := ⟨b, o, none⟩) hl (fun j u hj => by rw [Addr.add_off]; exact hsrc w hw j u hj) h1 h63 h64
    have hM : Mod (tailR L v e sz n xs).foot w w' := by
      rcases hway with ⟨_, hm⟩ | ⟨hm, _⟩
      · exact hm.mono fun b hb => .inl hb
      · exact hm.mono fun b hb => hb.elim
    refine ⟨v', w', _, by simp [execOp, resolve, invoke, builtin, ha.eval hx, ha.eval hy, Sem.run_bind, hr], hw.change (r' := tailR L v' e sz (n + m) (xs ++ ys)) hi hM ⟨ho, fun f hf => ?_⟩ (fun b hb => ?_), k v'⟩
    · obtain ⟨hok, hin⟩ := h.2 f hf
      have hle : n * sz ≤ (n + m) * sz := Nat.mul_le_mul_right _ (Nat.le_add_right _ _)
      rcases hway with ⟨hvb, hm⟩ | ⟨hm, hnew⟩
      · refine ⟨?_, fun b o s m' c' hv hb => Nat.le_trans (hin b o s m' c' hv (hvb ▸ hb)) hle⟩
        obtain ⟨A, c', e1, h2, h3⟩ := hok.1
        refine ⟨⟨A, c', e1, fun j q hj => ?_, h3⟩, fun b hb => Nat.lt_of_lt_of_le (hok.2 b hb) hm.size⟩
        obtain ⟨b1, o1, rfl, hc⟩ := h2 j q hj
        refine ⟨b1, o1, rfl, ?_⟩
        by_cases hbb : v.ownBlock = some b1
        · have hlt := (List.getElem?_eq_some_iff.1 hj).1
          have hin' := hin b1 o1 none f.n c' e1 hbb
          have hjx : o1 + j < xs.length := by have := h.1.1; omega
          have hrb : ∀ {y : Value}, y.ownBlock = some b1 → rowB y = b1 := fun hy => by simp [rowB, hy]
          have hold := row_cell h.1 (List.getElem?_eq_getElem hjx)
          rw [hrb hbb] at hold
          rw [hold] at hc
          obtain rfl := Option.some.inj hc
          have hnew := row_cell (q := o1 + j) ho (by rw [List.getElem?_append_left hjx]; exact List.getElem?_eq_getElem hjx)
          rw [hrb (hvb.trans hbb)] at hnew
          exact hnew
        · have hlt : b1 < w.heap.size := hok.2 b1 (by rw [e1]; rfl)
          rw [World.cell?_of_block (hm.old b1 hlt hbb)]; exact hc
      · refine ⟨hok.still fun b hb => hm.old b (hok.2 b hb) (fun h => h), fun b o s m' c' hv hb => ?_⟩
        have h4 := hnew b hb
        have h5 := hok.2 b (by rw [hv]; rfl)
        omega
    · rcases hb with hb | hb
      · rcases hway with ⟨hvb, _⟩ | ⟨_, hnew⟩
        · exact .inl (.inl (hvb ▸ hb))
        · exact .inr (hnew b hb)
      · exact .inl (.inr hb)
/-! ### calls that turn one resource, and answer by what they made -/
def GU {α : Type} (P : Program) (f : FuncId) (vs : List Value) (r : Res) (F : α → Value) (R : α → Res) (I : α → Prop) (w : World) : Prop := Calls P f vs.toArray w fun e w' => ∃ y, e = .returned (F y) ∧ I y ∧ Rep w (feet [r]) [R y] w'
theorem At.callG {α : Type} (i : Nat) {r : Res} {f : FuncId} {l : List Operand} {vs : List Value} {at_ : Array TypeId} {FF : α → Value} {R : α → Res} {I : α → Prop} (hi : H[i]? = some r) (h : ∀ w, Rep Γ.w0 Γ.S H w → r.holds w → GU P f vs r FF R I w) (hc : ∀ args w, (callFunc f args).run P w = .ok (.enter f args) w) (hv : evs E l = some vs) (hn : Nat.blt d Γ.n = true)
    (c : ∀ y, I y → At Γ ((d, FF y) :: E) (H.set i (R y)) (wpList P ops Q rest)) :
    At Γ E H (wpList P ops Q ({ dst := some d, op := .call { callee := .value (.func f), args := l.toArray, argTypes := at_ }, type := ty, pos, after, guard := none } :: rest)) :=
  At.call hc hv hn fun w hw => (h w hw (hw.all _ (List.mem_of_getElem? hi))).mono fun e w' ⟨y, he, hI, hr⟩ => ⟨FF y, _, he, Rep.frame1 (X := []) hi hw hr, c y hI⟩
theorem At.shutTwo (i j : Nat) {r s : Res} (hi : H[i]? = some r) (hj : (H.eraseIdx i)[j]? = some s) (k : At Γ E (star [r, s] :: (H.eraseIdx i).eraseIdx j) φ) : At Γ E H φ := fun a w ha hw =>
  k a w ha (Rep.shutS (L := [r, s]) (hw.perm ((erase_perm H i r hi).trans ((erase_perm _ j s hj).cons r))))
theorem At.shutThree (i j l : Nat) {r s t : Res} (hi : H[i]? = some r) (hj : (H.eraseIdx i)[j]? = some s) (hl : ((H.eraseIdx i).eraseIdx j)[l]? = some t) (k : At Γ E (star [r, s, t] :: ((H.eraseIdx i).eraseIdx j).eraseIdx l) φ) : At Γ E H φ := fun a w ha hw =>
  k a w ha (Rep.shutS (L := [r, s, t]) (hw.perm ((erase_perm H i r hi).trans (((erase_perm _ j s hj).trans ((erase_perm _ l t hl).cons s)).cons r))))
/-! ### lists written over -/
def wrL {α : Type} (l : List α) (k : Nat) (c : α) : List α := List.replicate k c ++ l.drop k
theorem wrL_0 {α : Type} (l : List α) (c : α) : wrL l 0 c = l := by simp [wrL]
theorem wrL_len {α : Type} {l : List α} {k : Nat} {c : α} (h : k ≤ l.length) : (wrL l k c).length = l.length := by simp [wrL]; omega
theorem wrL_set {α : Type} {l : List α} {k : Nat} {c : α} (h : k < l.length) : (wrL l k c).set k c = wrL l (k + 1) c := by
  unfold wrL
  apply List.ext_getElem?
  intro j
  rw [List.getElem?_set, List.length_append, List.length_replicate, List.length_drop]
  rcases Nat.lt_trichotomy k j with h1 | h1 | h1
  · rw [if_neg (by omega), List.getElem?_append_right (by simp; omega), List.getElem?_append_right (by simp; omega)]
    simp only [List.length_replicate, List.getElem?_drop]
    congr 1; omega
  · subst h1
    rw [if_pos rfl, if_pos (by omega), List.getElem?_append_left (by simp), List.getElem?_replicate, if_pos (by omega)]
  · rw [if_neg (by omega), List.getElem?_append_left (by simpa using h1), List.getElem?_append_left (by simp; omega), List.getElem?_replicate, List.getElem?_replicate, if_pos h1, if_pos (by omega)]
theorem wrL_all {α : Type} {l : List α} {c : α} : wrL l l.length c = List.replicate l.length c := by simp [wrL]
end
/-! ### rows of what has n cells each -/
section
variable {α : Type} {f : α → List Value} {n : Nat}
theorem flat_len (hf : ∀ x, (f x).length = n) : ∀ X : List α, (X.flatMap f).length = X.length * n
  | [] => by simp
  | x :: X => by rw [List.flatMap_cons, List.length_append, hf, flat_len hf X, List.length_cons, Nat.succ_mul]; omega
theorem flat_at (hf : ∀ x, (f x).length = n) : ∀ {X : List α} {i k : Nat} {x : α} {u : Value}, X[i]? = some x → (f x)[k]? = some u → (X.flatMap f)[i * n + k]? = some u
  | y :: X, 0, k, x, u, h, hu => by
    obtain rfl : y = x := by simpa using h
    rw [List.flatMap_cons, Nat.zero_mul, Nat.zero_add, List.getElem?_append_left (List.getElem?_eq_some_iff.1 hu).1]; exact hu
  | y :: X, i + 1, k, x, u, h, hu => by
    have := flat_at hf (X := X) (by simpa using h) hu
    rw [List.flatMap_cons, List.getElem?_append_right (by rw [hf, Nat.succ_mul]; omega), hf, show (i + 1) * n + k - n = i * n + k by rw [Nat.succ_mul]; omega]; exact this
theorem flat_set (hf : ∀ x, (f x).length = n) : ∀ {X : List α} {i k : Nat} {x x' : α} {u : Value}, X[i]? = some x → k < n → f x' = (f x).set k u → (X.flatMap f).set (i * n + k) u = (X.set i x').flatMap f
  | y :: X, 0, k, x, x', u, h, hk, e => by
    obtain rfl : y = x := by simpa using h
    rw [List.flatMap_cons, Nat.zero_mul, Nat.zero_add, List.set_append_left _ _ (by rw [hf]; exact hk), List.set_cons_zero, List.flatMap_cons, e]
  | y :: X, i + 1, k, x, x', u, h, hk, e => by
    have := flat_set hf (X := X) (by simpa using h) hk e
    rw [List.flatMap_cons, List.set_append_right _ _ (by rw [hf, Nat.succ_mul]; omega), hf, show (i + 1) * n + k - n = i * n + k by rw [Nat.succ_mul]; omega, this, List.set_cons_succ, List.flatMap_cons]
theorem flat_snoc (X : List α) (x : α) : (X ++ [x]).flatMap f = X.flatMap f ++ f x := by simp [List.flatMap_append]
end
section
variable {Γ : Ctx} {E : Env} {H L : List Res} {φ : Act → World → Prop}
theorem At.starHead (i : Nat) {r : Res} (hi : H[i]? = some (star (r :: L))) (k : At Γ E (r :: H.set i (star L)) φ) : At Γ E H φ := fun a w ha hw => by
  have h1 : Rep Γ.w0 Γ.S (r :: (L ++ H.eraseIdx i)) w := (hw.perm (erase_perm H i _ hi)).openS
  have h2 : Rep Γ.w0 Γ.S (L ++ (r :: H.eraseIdx i)) w := h1.perm (List.perm_middle (l₁ := L)).symm
  exact k a w ha (h2.shutS.perm ((List.Perm.swap ..).trans ((set_perm H i _ (star L) hi).symm.cons r)))
theorem At.starSnoc (i j : Nat) {r : Res} (hi : H[i]? = some r) (hj : (H.eraseIdx i)[j]? = some (star L)) (k : At Γ E ((H.eraseIdx i).set j (star (L ++ [r]))) φ) : At Γ E H φ := fun a w ha hw => by
  have h1 : Rep Γ.w0 Γ.S (star L :: r :: (H.eraseIdx i).eraseIdx j) w := hw.perm ((erase_perm H i r hi).trans (((erase_perm _ j _ hj).cons r).trans (List.Perm.swap ..)))
  have h2 : Rep Γ.w0 Γ.S ((L ++ [r]) ++ (H.eraseIdx i).eraseIdx j) w := by
    have := h1.openS
    rwa [List.append_assoc]
  exact k a w ha (h2.shutS.perm (set_perm _ j _ _ hj).symm)
theorem At.joinAt (i j : Nat) {L M : List RdF} (hi : H[i]? = some (readsR L)) (hj : (H.eraseIdx i)[j]? = some (readsR M)) (k : At Γ E ((H.eraseIdx i).set j (readsR (L ++ M))) φ) : At Γ E H φ := fun a w ha hw => by
  have h1 : Rep Γ.w0 Γ.S (readsR L :: readsR M :: (H.eraseIdx i).eraseIdx j) w := hw.perm ((erase_perm H i _ hi).trans ((erase_perm _ j _ hj).cons _))
  exact k a w ha (h1.joinK.perm (set_perm _ j _ _ hj).symm)
end
end Go.Wk
