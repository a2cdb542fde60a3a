/- The calculus: maps whose keys are ints, and a loop over one. -/
import Derived.Test.YtgighokkflchmaaDa
set_option linter.unusedVariables false
set_option linter.unusedSimpArgs false
namespace Go.Wk
open Go Go.ChangeMaps
abbrev kv (k : Int) : Value := .int .i64 k
/-- What a map's entries hold. -/
structure Ent (f : Int → Option Value) (E : Array MapEntry) (clock : Nat) : Prop where
  int : ∀ x ∈ E.toList, ∃ k, x.key = kv k
  keys : (E.toList.map (·.key)).Nodup
  stamps : (E.toList.map (·.born)).Nodup
  old : ∀ x ∈ E.toList, x.born < clock
  get : ∀ k v, f k = some v ↔ ∃ x ∈ E.toList, x.key = kv k ∧ x.val = v
theorem key_inj {l : List MapEntry} (h : (l.map (·.key)).Nodup) {x y : MapEntry} (hx : x ∈ l) (hy : y ∈ l) (e : x.key = y.key) : x = y := by
  induction l with
  | nil => cases hx
  | cons a l ih =>
    simp only [List.map_cons, List.nodup_cons, List.mem_map, not_exists, not_and] at h
    rcases List.mem_cons.1 hx with rfl | hx' <;> rcases List.mem_cons.1 hy with rfl | hy'
    · rfl
    · exact absurd e.symm (h.1 y hy')
    · exact absurd e (h.1 x hx')
    · exact ih h.2 hx' hy'
theorem Ent.find {f : Int → Option Value} {E : Array MapEntry} {clock : Nat} (h : Ent f E clock) (k : Int) :
    (Instr.findNow (.int .i64) (kv k) E.toList 0 = some none ∧ f k = none) ∨ ∃ j e, Instr.findNow (.int .i64) (kv k) E.toList 0 = some (some (j, e.val)) ∧ E.toList[j]? = some e ∧ e.key = kv k ∧ f k = some e.val := by
  have hk : MapKept.IsKey (.int .i64) (kv k) := by simp [MapKept.IsKey]
  rcases MapKept.findNow_spec hk E.toList 0 (fun x hx => by obtain ⟨q, hq⟩ := h.int x hx; rw [hq]; simp [MapKept.IsKey]) with ⟨h1, h2⟩ | ⟨j, e, h1, h2, h3⟩
  · refine .inl ⟨h1, ?_⟩
    cases hf : f k with
    | none => rfl
    | some v => obtain ⟨x, hx, hxk, _⟩ := (h.get k v).1 hf; exact absurd hxk (h2 x hx)
  · exact .inr ⟨j, e, by simpa using h1, h2, h3, (h.get k _).2 ⟨e, List.mem_of_getElem? h2, h3, rfl⟩⟩
theorem Ent.nil (clock : Nat) : Ent (fun _ => none) #[] clock := ⟨by simp, by simp, by simp, by simp, by simp⟩
theorem Ent.push {f : Int → Option Value} {E : Array MapEntry} {clock : Nat} (h : Ent f E clock) {k : Int} (hk : f k = none) (v : Value) : Ent (fun x => if x = k then some v else f x) (E.push { key := kv k, val := v, born := clock }) (clock + 1) := by
  have hno : ∀ x ∈ E.toList, x.key ≠ kv k := fun x hx e => by
    have := (h.get k x.val).2 ⟨x, hx, e, rfl⟩
    rw [hk] at this; cases this
  refine ⟨fun x hx => ?_, ?_, ?_, fun x hx => ?_, fun q u => ?_⟩
  · simp only [Array.toList_push, List.mem_append, List.mem_singleton] at hx
    rcases hx with hx | rfl
    · exact h.int x hx
    · exact ⟨k, rfl⟩
  · simp only [Array.toList_push, List.map_append, List.map_cons, List.map_nil]
    refine List.nodup_append.2 ⟨h.keys, by simp, fun a ha b hb => ?_⟩
    obtain ⟨x, hx, rfl⟩ := List.mem_map.1 ha
    rw [List.mem_singleton.1 hb]
    exact hno x hx
  · simp only [Array.toList_push, List.map_append, List.map_cons, List.map_nil]
    refine List.nodup_append.2 ⟨h.stamps, by simp, fun a ha b hb => ?_⟩
    obtain ⟨x, hx, rfl⟩ := List.mem_map.1 ha
    rw [List.mem_singleton.1 hb]
    have := h.old x hx
    show x.born ≠ clock
    omega
  · simp only [Array.toList_push, List.mem_append, List.mem_singleton] at hx
    rcases hx with hx | rfl
    · have := h.old x hx; omega
    · simp
  · simp only [Array.toList_push, List.mem_append, List.mem_singleton]
    by_cases hq : q = k
    · subst hq
      simp only [if_true]
      constructor
      · intro e; have e := Option.some.inj e; subst e; exact ⟨_, .inr rfl, rfl, rfl⟩
      · rintro ⟨x, hx | rfl, h1, h2⟩
        · exact absurd h1 (hno x hx)
        · rw [← h2]
    · rw [if_neg hq, h.get q u]
      constructor
      · rintro ⟨x, hx, h1, h2⟩; exact ⟨x, .inl hx, h1, h2⟩
      · rintro ⟨x, hx | rfl, h1, h2⟩
        · exact ⟨x, hx, h1, h2⟩
        · simp only [kv, Value.int.injEq, true_and] at h1; exact absurd h1.symm hq
theorem Ent.erase {f : Int → Option Value} {E E' : Array MapEntry} {clock j : Nat} {e : MapEntry} (h : Ent f E clock) {k : Int} (hj : E.toList[j]? = some e) (hk : e.key = kv k) (hE : E'.toList = E.toList.eraseIdx j) : Ent (fun x => if x = k then none else f x) E' clock := by
  have hs : (E.toList.eraseIdx j).Sublist E.toList := List.eraseIdx_sublist ..
  have hm : ∀ x, x ∈ E'.toList ↔ x ∈ E.toList ∧ x.key ≠ kv k := fun x => by
    rw [hE, List.mem_eraseIdx_iff_getElem?]
    constructor
    · rintro ⟨i, hne, hi⟩
      refine ⟨List.mem_of_getElem? hi, fun e1 => hne ?_⟩
      have hxe : x = e := key_inj h.keys (List.mem_of_getElem? hi) (List.mem_of_getElem? hj) (e1.trans hk.symm)
      subst hxe
      have h1 := (List.getElem?_eq_some_iff.1 hi)
      have h2 := (List.getElem?_eq_some_iff.1 hj)
      have hn : E.toList.Nodup := List.Pairwise.imp (fun {a b} hab e => hab (congrArg MapEntry.key e)) (List.pairwise_map.1 h.keys)
      rcases Nat.lt_trichotomy i j with hlt | hlt | hlt
      · exact absurd (h1.2.trans h2.2.symm) (List.pairwise_iff_getElem.1 hn i j h1.1 h2.1 hlt)
      · exact hlt
      · exact absurd (h2.2.trans h1.2.symm) (List.pairwise_iff_getElem.1 hn j i h2.1 h1.1 hlt)
    · rintro ⟨hx, hne⟩
      obtain ⟨i, hi⟩ := List.getElem?_of_mem hx
      refine ⟨i, fun e1 => hne ?_, hi⟩
      rw [e1, hj] at hi; cases hi; exact hk
  refine ⟨fun x hx => h.int x ((hm x).1 hx).1, ?_, ?_, fun x hx => h.old x ((hm x).1 hx).1, fun q u => ?_⟩
  · rw [hE]; exact h.keys.sublist (hs.map _)
  · rw [hE]; exact h.stamps.sublist (hs.map _)
  · by_cases hq : q = k
    · subst hq
      simp only [if_true]
      constructor
      · intro e; cases e
      · rintro ⟨x, hx, h1, h2⟩; exact absurd h1 ((hm x).1 hx).2
    · rw [if_neg hq, h.get q u]
      constructor
      · rintro ⟨x, hx, h1, h2⟩
        refine ⟨x, (hm x).2 ⟨hx, fun e1 => hq ?_⟩, h1, h2⟩
        rw [h1] at e1; simpa [kv] using e1
      · rintro ⟨x, hx, h1, h2⟩; exact ⟨x, ((hm x).1 hx).1, h1, h2⟩
def mapR (b : Nat) (f : Int → Option Value) : Res where
  foot := fun x => x = b
  holds := fun w => ∃ E clock, w.heap[b]? = some (.map E clock) ∧ Ent f E clock
  stable := fun h ⟨E, clock, hb, he⟩ => ⟨E, clock, (h b rfl).trans hb, he⟩
  low := fun ⟨E, clock, hb, he⟩ x hx => by subst hx; exact (Array.getElem?_eq_some_iff.1 hb).1
/-- A map, and an iterator over it: left: which keys are still to come; cur: the entry that came last; cnt: how many are to come. -/
def iterR (b r : Nat) (f : Int → Option Value) (left : Int → Bool) (cur : Option (Int × Value)) (cnt : Nat) : Res where
  foot := fun x => x = b ∨ x = r
  holds := fun w => ∃ E clock since seen c0, r ≠ b ∧ w.heap[b]? = some (.map E clock) ∧ Ent f E clock ∧ w.heap[r]? = some (.mapIter (some b) since seen c0) ∧ (∀ x ∈ E.toList, x.born < since) ∧ since ≤ c0 ∧ since ≤ clock ∧
    (∀ x ∈ E.toList, ∀ k, x.key = kv k → left k = !seen.contains x.born) ∧ (∀ k, left k = true → f k ≠ none) ∧ (leftOf E seen).size = cnt ∧ (∀ k v, cur = some (k, v) → c0 = clock ∧ ∃ (s : Array Nat) (x : MapEntry), seen = s.push x.born ∧ x ∈ E.toList ∧ x.key = kv k ∧ x.val = v)
  stable := fun h ⟨E, clock, since, seen, c0, hne, hb, he, hr, hh⟩ => ⟨E, clock, since, seen, c0, hne, (h b (.inl rfl)).trans hb, he, (h r (.inr rfl)).trans hr, hh⟩
  low := fun ⟨E, clock, since, seen, c0, hne, hb, he, hr, hh⟩ x hx => by
    rcases hx with rfl | rfl
    · exact (Array.getElem?_eq_some_iff.1 hb).1
    · exact (Array.getElem?_eq_some_iff.1 hr).1
section
variable {P : Program} {Γ : Ctx} {E : Env} {H L F : List Res} {ops : Array Oper} {Q : Exit → Act → World → Prop} {rest : List Oper} {w0 w w' : World} {S : Nat → Prop} {φ : Act → World → Prop}
  {d : Nat} {dst : Option Tmp} {g : Option (Nat × Bool)} {ty : TypeId} {pos : String} {after : Array Edge} {x y z : Operand} {v u : Value} {f : Int → Option Value} {left : Int → Bool} {cur : Option (Int × Value)} {cnt b r i : Nat} {t kt et : TypeId}
theorem Mod.setBlock (w : World) (b : Nat) (o : Obj) : Mod (fun x => x = b) w (setBlock w b o) :=
  ⟨by simp [ChangeMaps.setBlock], fun x _ hn => by simp only [ChangeMaps.setBlock]; rw [Array.getElem?_setIfInBounds_ne (Ne.symm hn)], rfl, rfl, rfl⟩
theorem setBlock_at {w : World} {b : Nat} {o o' : Obj} (h : w.heap[b]? = some o) : (setBlock w b o').heap[b]? = some o' := by
  have := (Array.getElem?_eq_some_iff.1 h).1
  simp [ChangeMaps.setBlock, this]
theorem setBlock_ne {w : World} {b b' : Nat} {o' : Obj} (h : b' ≠ b) : (setBlock w b o').heap[b']? = w.heap[b']? := by
  simp only [ChangeMaps.setBlock]; rw [Array.getElem?_setIfInBounds_ne (Ne.symm h)]
theorem run_setMap {w : World} {r : Nat} {es : Array MapEntry} {clock : Nat} (o : Obj) (hb : w.heap[r]? = some (.map es clock)) : (setObj r o).run P w = .ok () (setBlock w r o) := MapKept.run_setObj_map o hb
theorem Val.look {k : Int} (hu : P.underlying t = some (.map kt et)) (hk : P.underlying kt = some (.int .i64)) (hz : ∀ w, (zeroValue et).run P w = .ok (.pointer none) w) (hx : ev E x = some (.map (some b))) (hy : ev E y = some (.int .i64 k)) (hi : H[i]? = some (mapR b f)) :
    Val P Γ E H ⟨dst, .lookup t x y false, ty, pos, after, g⟩ ((f k).getD (.pointer none)) := fun a w ha hw => by
  obtain ⟨es, clock, hb, he⟩ : ∃ es clock, w.heap[b]? = some (.map es clock) ∧ Ent f es clock := hw.all _ (List.mem_of_getElem? hi)
  have hck := fun e => MapKept.run_checkKey (P := P) (w := w) (k := kv k) hk (by simp [MapKept.IsKey]) e 9999
  rcases he.find k with ⟨h1, h2⟩ | ⟨j, e, h1, h2, h3, h4⟩
  · simp [execOp, ha.eval hx, ha.eval hy, Instr.lookup, Sem.run_bind, run_underlying hu, MapKept.run_getObj_map hb, hck, MapKept.run_findKey hk h1, hz, h2]
  · simp [execOp, ha.eval hx, ha.eval hy, Instr.lookup, Sem.run_bind, run_underlying hu, MapKept.run_getObj_map hb, hck, MapKept.run_findKey hk h1, h4]
theorem At.mapSet {k : Int} (hu : P.underlying t = some (.map kt et)) (hk : P.underlying kt = some (.int .i64)) (hx : ev E x = some (.map (some b))) (hy : ev E y = some (.int .i64 k)) (hz : ev E z = some v) (hi : H[i]? = some (mapR b f)) (hf : f k = none)
    (c : At Γ E (H.set i (mapR b fun q => if q = k then some v else f q)) (wpList P ops Q rest)) : At Γ E H (wpList P ops Q ({ dst := .none, op := .mapUpdate t x y z, type := ty, pos, after, guard := none } :: rest)) :=
  At.skip rfl rfl fun a w ha hw => by
    obtain ⟨es, clock, hb, he⟩ : ∃ es clock, w.heap[b]? = some (.map es clock) ∧ Ent f es clock := hw.all _ (List.mem_of_getElem? hi)
    have hck := fun e => MapKept.run_checkKey (P := P) (w := w) (k := kv k) hk (by simp [MapKept.IsKey]) e 9999
    rcases he.find k with ⟨h1, h2⟩ | ⟨j, e, h1, h2, h3, h4⟩
    · refine ⟨_, _, by simp [execOp, ha.eval hx, ha.eval hy, ha.eval hz, Instr.mapUpdate, Sem.run_bind, run_underlying hu, MapKept.run_getObj_map hb, hck, MapKept.run_findKey hk h1, run_setMap _ hb]; rfl, ?_, c⟩
      exact hw.change (r' := mapR b _) hi (Mod.setBlock w b _) ⟨_, _, setBlock_at hb, he.push hf v⟩ (fun b hb => .inl hb)
    · rw [hf] at h4; cases h4
theorem At.makeMap (hn : Nat.blt d Γ.n = true) (c : ∀ b, At Γ ((d, .map (some b)) :: E) (mapR b (fun _ => none) :: H) (wpList P ops Q rest)) :
    At Γ E H (wpList P ops Q ({ dst := some d, op := .makeMap t .none, type := ty, pos, after, guard := none } :: rest)) :=
  At.run rfl rfl hn fun a w ha hw => ⟨.map (some w.heap.size), w.alloc (.map #[] 0), _, by
    have h0 : (Instr.makeMap t none).run P w = .ok (.map (some w.heap.size)) (w.alloc (.map #[] 0)) := rfl
    simp [execOp, Sem.run_bind, h0], hw.new (r' := mapR w.heap.size fun _ => none) (Mod.alloc w _) ⟨#[], 0, heap_alloc_new w _, Ent.nil 0⟩ (fun b hb => by simp only [mapR] at hb; omega), c _⟩
theorem At.range (hu : P.underlying t = some (.map kt et)) (hx : ev E x = some (.map (some b))) (hi : H[i]? = some (mapR b f)) (hn : Nat.blt d Γ.n = true)
    (c : ∀ r cnt, At Γ ((d, .pointer (some ⟨r, 0, none⟩)) :: E) (H.set i (iterR b r f (fun k => (f k).isSome) none cnt)) (wpList P ops Q rest)) :
    At Γ E H (wpList P ops Q ({ dst := some d, op := .range t x, type := ty, pos, after, guard := none } :: rest)) :=
  At.run rfl rfl hn fun a w ha hw => by
    obtain ⟨es, clock, hb, he⟩ : ∃ es clock, w.heap[b]? = some (.map es clock) ∧ Ent f es clock := hw.all _ (List.mem_of_getElem? hi)
    have hlt := (Array.getElem?_eq_some_iff.1 hb).1
    refine ⟨_, _, _, by simp [execOp, ha.eval hx, Sem.run_bind, run_range_map w t kt et b es clock hu hb]; exact ⟨rfl, rfl⟩, ?_, c _ (leftOf es #[]).size⟩
    refine hw.change (r' := iterR b w.heap.size f _ none _) hi ((Mod.alloc w _).mono fun b hb => hb.elim) ⟨es, clock, clock, #[], clock, by omega, (heap_alloc_old w _ hlt).trans hb, he, heap_alloc_new w _, he.old, Nat.le_refl _, Nat.le_refl _, fun q hq k hk => ?_, fun k hk => ?_, rfl, (fun k v h => by cases h)⟩ (fun q hq => ?_)
    · show (f k).isSome = _
      rw [(he.get k q.val).2 ⟨q, hq, hk, rfl⟩]; simp
    · intro h0
      have hk : (f k).isSome = true := hk
      rw [h0] at hk; cases hk
    · rcases hq with rfl | rfl
      · exact .inl rfl
      · exact .inr (Nat.le_refl _)
theorem At.next (hx : ev E x = some (.pointer (some ⟨r, 0, none⟩))) (hi : H[i]? = some (iterR b r f left cur cnt)) (hn : Nat.blt d Γ.n = true)
    (c0 : (∀ k, left k = false) → At Γ ((d, .tuple #[.bool false]) :: E) H (wpList P ops Q rest))
    (c1 : ∀ k v cnt', left k = true → f k = some v → cnt' < cnt → At Γ ((d, .tuple #[.bool true, .int .i64 k, v]) :: E) (H.set i (iterR b r f (fun q => left q && q != k) (some (k, v)) cnt')) (wpList P ops Q rest)) :
    At Γ E H (wpList P ops Q ({ dst := some d, op := .next x false, type := ty, pos, after, guard := none } :: rest)) :=
  At.run rfl rfl hn fun a w ha hw => by
    obtain ⟨es, clock, since, seen, co, hne, hb, he, hr, hold, hs1, hs2, hl1, hl2, hcnt, hcur⟩ : (iterR b r f left cur cnt).holds w := hw.all _ (List.mem_of_getElem? hi)
    rcases run_next_at (P := P) w ty r b since co seen es clock hr hb hold hs1 with ⟨h0, hrun⟩ | ⟨e, hel, w1, hal, hrun⟩
    · refine ⟨.tuple #[.bool false], w, H, by simp [execOp, ha.eval hx, Sem.run_bind, hrun], hw, c0 fun k => ?_⟩
      cases hk : left k with
      | false => rfl
      | true =>
        have := hl2 k hk
        cases hf : f k with
        | none => exact absurd hf this
        | some v =>
          obtain ⟨q, hq, h1, h2⟩ := (he.get k v).1 hf
          have h3 := hl1 q hq k h1
          rw [all_seen es seen h0 q hq, hk] at h3
          cases h3
    · obtain ⟨hem, hes⟩ := mem_left hel
      obtain ⟨k, hk⟩ := he.int e hem
      have hfk := (he.get k e.val).2 ⟨e, hem, hk, rfl⟩
      have hw1 : Rep Γ.w0 Γ.S H w1 := by rcases hal with rfl | rfl; exact hw; exact hw.drew
      have hr1 : w1.heap[r]? = some (.mapIter (some b) since seen co) := by rcases hal with rfl | rfl <;> exact hr
      have hb1 : w1.heap[b]? = some (.map es clock) := by rcases hal with rfl | rfl <;> exact hb
      refine ⟨_, _, _, by simp [execOp, ha.eval hx, Sem.run_bind, hrun]; exact ⟨rfl, rfl⟩, ?_, by
        have := c1 k e.val (leftOf es (seen.push e.born)).size (by rw [hl1 e hem k hk, hes]; rfl) hfk (by rw [← hcnt]; exact left_shrinks es seen e hel)
        rw [hk]; exact this⟩
      refine hw1.change (r' := iterR b r f _ (some (k, e.val)) _) hi ((Mod.setBlock w1 r _).mono fun q hq => .inr hq) ⟨es, clock, since, seen.push e.born, clock, hne, (setBlock_ne (Ne.symm hne)).trans hb1, he, setBlock_at hr1, hold, hs2, hs2, fun q hq k' hk' => ?_, fun k' hk' => hl2 k' (by simp at hk'; exact hk'.1), rfl, fun k' v' h' => ?_⟩ (fun q hq => .inl hq)
      · show (left k' && k' != k) = _
        rw [contains_push, hl1 q hq k' hk']
        by_cases hqe : q.born = e.born
        · have : q = e := by
            have hn := he.stamps
            exact born_inj hn hq hem hqe
          subst this
          rw [hk] at hk'
          have : k = k' := by simpa [kv] using hk'
          subst this
          simp
        · have h1 : (q.born == e.born) = false := by simpa using hqe
          have h2 : (k' != k) = true := by
            simp only [bne_iff_ne, ne_eq]
            intro e1; subst e1
            exact hqe (congrArg MapEntry.born (key_inj he.keys hq hem (hk'.trans hk.symm)))
          rw [h1, h2]; cases seen.contains q.born <;> rfl
      · simp only [Option.some.injEq, Prod.mk.injEq] at h'
        obtain ⟨rfl, rfl⟩ := h'
        exact ⟨rfl, seen, e, rfl, hem, hk, rfl⟩
theorem Val.entry {k : Int} (hx : ev E x = some (.pointer (some ⟨r, 0, none⟩))) (hi : H[i]? = some (iterR b r f left (some (k, v)) cnt)) :
    Val P Γ E H ⟨dst, .entry x, ty, pos, after, g⟩ (.tuple #[.int .i64 k, v]) := fun a w ha hw => by
  obtain ⟨es, clock, since, seen, co, hne, hb, he, hr, hold, hs1, hs2, hl1, hl2, hcnt, hcur⟩ : (iterR b r f left (some (k, v)) cnt).holds w := hw.all _ (List.mem_of_getElem? hi)
  obtain ⟨rfl, s, e, rfl, hem, hk, rfl⟩ := hcur k v rfl
  have := run_entry_at (P := P) w r b since s es _ e hr hb hem he.stamps
  simp [execOp, ha.eval hx, Sem.run_bind, this, hk]
theorem At.delIt {k : Int} (hu : P.underlying t = some (.map kt et)) (hk : P.underlying kt = some (.int .i64)) (hx : ev E x = some (.map (some b))) (hy : ev E y = some (.int .i64 k)) (hi : H[i]? = some (iterR b r f left cur cnt))
    (c : ∀ cnt', cnt' ≤ cnt → At Γ E (H.set i (iterR b r (fun q => if q = k then none else f q) (fun q => left q && q != k) none cnt')) (wpList P ops Q rest)) :
    At Γ E H (wpList P ops Q ({ dst := .none, op := .call { callee := .builtin .delete, args := #[x, y], argTypes := #[t, kt] }, type := ty, pos, after, guard := none } :: rest)) := fun a w ha hw => by
  obtain ⟨es, clock, since, seen, co, hne, hb, he, hr, hold, hs1, hs2, hl1, hl2, hcnt, hcur⟩ : (iterR b r f left cur cnt).holds w := hw.all _ (List.mem_of_getElem? hi)
  have hck := fun e => MapKept.run_checkKey (P := P) (w := w) (k := kv k) hk (by simp [MapKept.IsKey]) e 9999
  have fin : ∀ (es' : Array MapEntry) (w' : World), (execOp a.eval { dst := .none, op := .call { callee := .builtin .delete, args := #[x, y], argTypes := #[t, kt] }, type := ty, pos, after, guard := none }).run P w = .ok (.value (.tuple #[])) w' → w' = setBlock w b (.map es' clock) →
      Ent (fun q => if q = k then none else f q) es' clock → (∀ q, q ∈ es'.toList → q ∈ es.toList) → (∀ q, q ∈ es'.toList → q.key ≠ kv k) → (leftOf es' seen).size ≤ cnt → wpList P ops Q ({ dst := .none, op := .call { callee := .builtin .delete, args := #[x, y], argTypes := #[t, kt] }, type := ty, pos, after, guard := none } :: rest) a w := fun es' w' hrun hw' he' hsub hnk hle => by
    refine wpList_plain rfl fun K hK => ?_
    unfold Oper.wp
    rw [hrun, Oper.upon_value]
    refine hK _ _ (c _ hle _ _ ha ?_)
    subst hw'
    refine hw.change (r' := iterR b r _ _ none _) hi ((Mod.setBlock w b _).mono fun q hq => .inl hq) ⟨es', clock, since, seen, co, hne, setBlock_at hb, he', (setBlock_ne hne).trans hr, fun q hq => hold q (hsub q hq), hs1, hs2, fun q hq k' hk' => ?_, fun k' hk' => ?_, rfl, (fun k v h => by cases h)⟩ (fun q hq => .inl hq)
    · show (left k' && k' != k) = _
      rw [hl1 q (hsub q hq) k' hk']
      have : (k' != k) = true := by
        simp only [bne_iff_ne, ne_eq]
        intro e1; subst e1
        exact hnk q hq hk'
      rw [this]; simp
    · have hk' : (left k' && k' != k) = true := hk'
      simp only [Bool.and_eq_true, bne_iff_ne, ne_eq] at hk'
      show (if k' = k then none else f k') ≠ none
      rw [if_neg hk'.2]
      exact hl2 k' hk'.1
  rcases he.find k with ⟨h1, h2⟩ | ⟨j, e, h1, h2, h3, h4⟩
  · refine fin es _ (by simp [execOp, resolve, invoke, builtin, ha.eval hx, ha.eval hy, Builtin.delete_, Sem.run_bind, run_underlying hu, MapKept.run_getObj_map hb, hck, MapKept.run_findKey hk h1, run_setMap _ hb]) rfl ?_ (fun q h => h) (fun q hq e => ?_) (Nat.le_of_eq hcnt)
    · have : (fun q => if q = k then none else f q) = f := funext fun q => by split; · rename_i e; rw [e, h2]
                                                                              · rfl
      rw [this]; exact he
    · have := (he.get k q.val).2 ⟨q, hq, e, rfl⟩
      rw [h2] at this; cases this
  · have hjs : j < es.size := by have := (List.getElem?_eq_some_iff.1 h2).1; simpa using this
    have hE : (es.eraseIdxIfInBounds j).toList = es.toList.eraseIdx j := by
      unfold Array.eraseIdxIfInBounds
      rw [dif_pos hjs]; simp
    have he' := he.erase h2 h3 hE
    have hsub : ∀ q, q ∈ (es.eraseIdxIfInBounds j).toList → q ∈ es.toList := fun q hq => (List.eraseIdx_sublist ..).subset (hE ▸ hq)
    refine fin (es.eraseIdxIfInBounds j) _ (by simp [execOp, resolve, invoke, builtin, ha.eval hx, ha.eval hy, Builtin.delete_, Sem.run_bind, run_underlying hu, MapKept.run_getObj_map hb, hck, MapKept.run_findKey hk h1, run_setMap _ hb]) rfl he' hsub (fun q hq e1 => ?_) ?_
    · have := (he'.get k q.val).2 ⟨q, hq, e1, rfl⟩
      simp at this
    · rw [← hcnt]
      unfold leftOf
      have e1 : ∀ (a : Array MapEntry) (p : MapEntry → Bool), (a.filter p).size = (a.toList.filter p).length := fun a p => by rw [← Array.toList_filter, Array.length_toList]
      rw [e1, e1, hE]
      exact ((List.eraseIdx_sublist _ _).filter _).length_le
theorem At.iterEnd (i : Nat) (hi : H[i]? = some (iterR b r f left cur cnt)) (k : At Γ E (H.set i (mapR b f)) φ) : At Γ E H φ := fun a w ha hw => by
  obtain ⟨es, clock, since, seen, co, hne, hb, he, hr, hh⟩ : (iterR b r f left cur cnt).holds w := hw.all _ (List.mem_of_getElem? hi)
  exact k a w ha (hw.change (r' := mapR b f) hi (Mod.refl _ _) ⟨es, clock, hb, he⟩ (fun q hq => .inl (.inl hq)))
end
end Go.Wk
