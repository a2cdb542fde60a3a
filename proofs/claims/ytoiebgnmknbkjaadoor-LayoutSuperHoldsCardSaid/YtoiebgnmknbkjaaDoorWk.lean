/- A calculus for walks with local memory as a list of resources: the frame by the slots that are live, the memory by what each block holds, the rest of the world as it was. -/
import Derived.WalkKit
import Derived.BigQuiet
import Derived.StillTail
import Derived.Deep.Quiet
import Derived.KernelRfl
set_option linter.unusedVariables false
set_option linter.unusedSimpArgs false
namespace Go.Wk
open Go

/-! ### the frame -/
abbrev Env := List (Nat × Value)
def look : Env → Nat → Option Value
  | [], _ => none
  | (k, v) :: E, t => match Nat.beq k t with | true => some v | false => look E t
structure Agrees (n : Nat) (D : List Deferred) (E : Env) (a : Act) : Prop where
  size : a.tmps.size = n
  defers : a.defers = D
  get : ∀ t v, look E t = some v → a.tmps[t]? = some v
def ev (E : Env) : Operand → Option Value
  | .tmp t => look E t
  | .const v => some v
  | .global g => some (.pointer (some ⟨g, 0, none⟩))
  | .func f => some (.func (.func f) #[] #[])
theorem Agrees.eval {n D E} {a : Act} (h : Agrees n D E a) {x : Operand} {v : Value} (hx : ev E x = some v) : a.eval x = v := by
  cases x with
  | tmp t => have := h.get t v hx; simp [Act.eval, this]
  | const c => exact Option.some.inj hx
  | global g => simpa [ev, Act.eval] using hx
  | func f => simpa [ev, Act.eval] using hx
theorem Agrees.put {n D E} {a : Act} (h : Agrees n D E a) (d : Nat) (v : Value) (hd : Nat.blt d n = true) : Agrees n D ((d, v) :: E) (a.put (some d) v) := by
  have hd' : d < n := by simpa [Nat.blt_eq] using hd
  refine ⟨by simp [Act.put, h.size], h.defers, fun t u ht => ?_⟩
  simp only [look] at ht
  by_cases e : d = t
  · subst e
    simp only [Nat.beq_refl] at ht
    obtain rfl := Option.some.inj ht
    have hs := h.size
    simp [Act.put, hs, hd']
  · have hb : Nat.beq d t = false := Bool.eq_false_iff.2 fun h => e (Nat.eq_of_beq_eq_true h)
    rw [hb] at ht
    simp only [Act.put]
    rw [Array.getElem?_setIfInBounds_ne e]
    exact h.get t u ht
theorem Agrees.cons {n D E} {a : Act} (h : Agrees n D E a) {t : Nat} {v : Value} (hl : look E t = some v) : Agrees n D ((t, v) :: E) a := by
  refine ⟨h.size, h.defers, fun s u hs => ?_⟩
  simp only [look] at hs
  by_cases e : t = s
  · subst e
    simp only [Nat.beq_refl] at hs
    obtain rfl := Option.some.inj hs
    exact h.get t v hl
  · have hb : Nat.beq t s = false := Bool.eq_false_iff.2 fun h => e (Nat.eq_of_beq_eq_true h)
    rw [hb] at hs
    exact h.get s u hs
/-- Fewer slots are asked of. -/
def Sub (E : Env) : Env → Prop
  | [] => True
  | (t, v) :: E' => look E t = some v ∧ Sub E E'
theorem Sub.nil {E : Env} : Sub E [] := trivial
theorem Sub.cons {E E' : Env} {t : Nat} {v : Value} (h : look E t = some v) (k : Sub E E') : Sub E ((t, v) :: E') := ⟨h, k⟩
theorem Agrees.weaken {n D E E'} {a : Act} (h : Agrees n D E a) (hE : Sub E E') : Agrees n D E' a := by
  refine ⟨h.size, h.defers, fun t v ht => h.get t v ?_⟩
  induction E' with
  | nil => simp [look] at ht
  | cons p E' ih =>
    obtain ⟨k, u⟩ := p
    simp only [look] at ht
    by_cases e : k = t
    · subst e
      simp only [Nat.beq_refl] at ht
      obtain rfl := Option.some.inj ht
      exact hE.1
    · have hb : Nat.beq k t = false := Bool.eq_false_iff.2 fun h => e (Nat.eq_of_beq_eq_true h)
      rw [hb] at ht
      exact ih hE.2 ht

/-! ### the memory -/
structure Res where
  foot : Nat → Prop
  holds : World → Prop
  stable : ∀ {w w' : World}, (∀ b, foot b → w'.heap[b]? = w.heap[b]?) → holds w → holds w'
  low : ∀ {w : World}, holds w → ∀ b, foot b → b < w.heap.size
/-- A block that holds just these cells, none of them frozen. -/
def Holds (w : World) (b : Nat) (T : TypeId) (cs : List Value) : Prop := ∃ fr : Nat × Nat, w.heap[b]? = some (.cells cs.toArray T fr) ∧ (fr = (0, 0) ∨ cs.length ≤ fr.1)
def blk (b : Nat) (T : TypeId) (cs : List Value) : Res where
  foot := fun x => x = b
  holds := fun w => Holds w b T cs
  stable := fun h hw => by unfold Holds; rw [h b rfl]; exact hw
  low := fun {w} hw x hx => by
    obtain ⟨fr, hw, _⟩ := hw
    subst hx
    rcases Nat.lt_or_ge x w.heap.size with h | h
    · exact h
    · simp [Array.getElem?_eq_none h] at hw
theorem Holds.cell {w b T cs} (h : Holds w b T cs) (j : Nat) : w.cell? ⟨b, j, none⟩ = cs[j]? := by
  obtain ⟨fr, h, _⟩ := h
  rw [cell_of_row w b j _ T fr h]; simp
theorem Holds.frozen {w b T cs} (h : Holds w b T cs) (j : Nat) (hj : j < cs.length) : w.frozen? ⟨b, j, none⟩ = false := by
  obtain ⟨fr, h, hf⟩ := h
  simp only [World.frozen?, h]
  rcases hf with rfl | hf
  · simp
  · have : ¬ fr.1 ≤ j := by omega
    simp [this]
theorem Holds.set {w b T cs} (h : Holds w b T cs) (j : Nat) (v : Value) : Holds (w.setCell ⟨b, j, none⟩ v) b T (cs.set j v) := by
  obtain ⟨fr, h, hf⟩ := h
  refine ⟨fr, ?_, by simpa using hf⟩
  rw [setCell_eq_setRow w b j _ T fr v h, setRow_heap w b _ _ T fr h]
  simp
theorem Holds.loadVar {P : Program} {w b T cs} (h : Holds w b T cs) (ty : TypeId) (d : TypeDesc) (hu : P.underlying ty = some d)
    (hd : (match d with | .struct _ | .array _ _ => true | _ => false) = true) (hi : (P.info? ty).map (·.size) = some cs.length) : (loadVar ty ⟨b, 0, none⟩).run P w = .ok (.agg cs.toArray) w := by
  obtain ⟨fr, h, _⟩ := h
  exact run_loadVar_row w b T ty cs.toArray fr d h hu hd (by simpa using hi)
def Apart (r s : Res) : Prop := ∀ b, r.foot b → s.foot b → False
def feet (H : List Res) : Nat → Prop := fun b => ∃ r ∈ H, r.foot b
/-- The world outside the blocks of F is as it was; there may be more blocks. -/
structure Mod (F : Nat → Prop) (w w' : World) : Prop where
  size : w.heap.size ≤ w'.heap.size
  old : ∀ b, b < w.heap.size → ¬ F b → w'.heap[b]? = w.heap[b]?
  os : w'.os = w.os
  tape : w'.tape = w.tape
  output : w'.output = w.output
structure Rep (w0 : World) (S : Nat → Prop) (H : List Res) (w : World) : Prop where
  sep : H.Pairwise Apart
  all : ∀ r ∈ H, r.holds w
  mine : ∀ r ∈ H, ∀ b, r.foot b → w0.heap.size ≤ b ∨ S b
  mod : Mod S w0 w
theorem Mod.refl (F : Nat → Prop) (w : World) : Mod F w w := ⟨Nat.le_refl _, fun _ _ _ => rfl, rfl, rfl, rfl⟩
theorem Mod.trans {F : Nat → Prop} {a b c : World} (h : Mod F a b) (k : Mod F b c) : Mod F a c :=
  ⟨Nat.le_trans h.size k.size, fun x hx hF => (k.old x (Nat.lt_of_lt_of_le hx h.size) hF).trans (h.old x hx hF), k.os.trans h.os, k.tape.trans h.tape, k.output.trans h.output⟩
theorem Mod.mono {F G : Nat → Prop} {w w' : World} (h : Mod F w w') (hFG : ∀ b, F b → G b) : Mod G w w' :=
  ⟨h.size, fun b hb hn => h.old b hb (fun hF => hn (hFG b hF)), h.os, h.tape, h.output⟩
theorem Apart.symm {r s : Res} (h : Apart r s) : Apart s r := fun b hs hr => h b hr hs
theorem Rep.perm {w0 S H H' w} (h : Rep w0 S H w) (hp : H.Perm H') : Rep w0 S H' w :=
  ⟨(hp.pairwise_iff (fun h => h.symm)).1 h.sep, fun r hr => h.all r (hp.mem_iff.2 hr), fun r hr => h.mine r (hp.mem_iff.2 hr), h.mod⟩
/-- What a callee that was given H0 has left, beside what it was not given. -/
theorem Rep.frame {w0 S H0 F H0' w w'} (h : Rep w0 S (H0 ++ F) w) (h' : Rep w (feet H0) H0' w') : Rep w0 S (H0' ++ F) w' := by
  have hsep := List.pairwise_append.1 h.sep
  have keep : ∀ s ∈ F, ∀ b, s.foot b → w'.heap[b]? = w.heap[b]? := fun s hs b hb =>
    h'.mod.old b (s.low (h.all s (List.mem_append_right _ hs)) b hb) (fun ⟨r, hr, hrb⟩ => hsep.2.2 r hr s hs b hrb hb)
  refine ⟨List.pairwise_append.2 ⟨h'.sep, hsep.2.1, fun r hr s hs b hrb hsb => ?_⟩, fun r hr => ?_, fun r hr b hb => ?_, ?_⟩
  · have hlt := s.low (h.all s (List.mem_append_right _ hs)) b hsb
    rcases h'.mine r hr b hrb with h1 | ⟨q, hq, hqb⟩
    · omega
    · exact hsep.2.2 q hq s hs b hqb hsb
  · rcases List.mem_append.1 hr with h1 | h1
    · exact h'.all r h1
    · exact r.stable (keep r h1) (h.all r (List.mem_append_right _ h1))
  · rcases List.mem_append.1 hr with h1 | h1
    · rcases h'.mine r h1 b hb with h2 | ⟨q, hq, hqb⟩
      · exact .inl (Nat.le_trans h.mod.size h2)
      · exact h.mine q (List.mem_append_left _ hq) b hqb
    · exact h.mine r (List.mem_append_right _ h1) b hb
  · refine ⟨Nat.le_trans h.mod.size h'.mod.size, fun b hb hn => ?_, h'.mod.os.trans h.mod.os, h'.mod.tape.trans h.mod.tape, h'.mod.output.trans h.mod.output⟩
    rw [h'.mod.old b (Nat.lt_of_lt_of_le hb h.mod.size) (fun ⟨r, hr, hrb⟩ => ?_)]
    · exact h.mod.old b hb hn
    · rcases h.mine r (List.mem_append_left _ hr) b hrb with h2 | h2
      · omega
      · exact hn h2
theorem set_perm {α : Type} : ∀ (H : List α) (i : Nat) (r r' : α), H[i]? = some r → (H.set i r').Perm (r' :: H.eraseIdx i)
  | [], i, r, r', h => by simp at h
  | x :: H, 0, r, r', h => by simp
  | x :: H, i + 1, r, r', h => by
    simp only [List.set_cons_succ, List.eraseIdx_cons_succ]
    exact ((set_perm H i r r' (by simpa using h)).cons x).trans (.swap ..)
theorem erase_perm {α : Type} (H : List α) (i : Nat) (r : α) (h : H[i]? = some r) : H.Perm (r :: H.eraseIdx i) := by
  have := set_perm H i r r h
  have e : H.set i r = H := by
    apply List.ext_getElem?
    intro j
    rw [List.getElem?_set]
    split
    · rename_i e; subst e
      split
      · rw [h]
      · rename_i hn; rw [List.getElem?_eq_none (by omega)]
    · rfl
  rwa [e] at this
/-- .. at one place of the list. -/
theorem Rep.frame1 {w0 S H w w'} {i : Nat} {r r' : Res} {X : List Res} (hi : H[i]? = some r) (h : Rep w0 S H w) (h' : Rep w (feet [r]) (r' :: X) w') : Rep w0 S (X ++ H.set i r') w' := by
  have h1 : Rep w0 S ([r] ++ H.eraseIdx i) w := h.perm (erase_perm H i r hi)
  refine (h1.frame h').perm ?_
  have h2 : (X ++ H.set i r').Perm (X ++ r' :: H.eraseIdx i) := (set_perm H i r r' hi).append_left X
  refine List.Perm.symm (h2.trans ?_)
  exact List.perm_middle
theorem Rep.mono {w0 S H w w'} (h : Rep w0 S H w) (h' : Rep w (feet []) [] w') : Rep w0 S H w' := by
  have := Rep.frame (H0 := []) (F := H) (H0' := []) (by simpa using h) h'
  simpa using this
/-- One resource changed, in its own blocks and new ones. -/
theorem Rep.change {w0 S H w w'} {i : Nat} {r r' : Res} (hi : H[i]? = some r) (h : Rep w0 S H w) (hm : Mod r.foot w w') (hr : r'.holds w') (hf : ∀ b, r'.foot b → r.foot b ∨ w.heap.size ≤ b) : Rep w0 S (H.set i r') w' := by
  refine Rep.frame1 (X := []) hi h ⟨by simp, by simpa using hr, ?_, hm.mono fun b hb => ⟨r, by simp, hb⟩⟩
  intro s hs b hb
  simp only [List.mem_singleton] at hs
  subst hs
  rcases hf b hb with h1 | h1
  · exact .inr ⟨r, by simp, h1⟩
  · exact .inl h1
theorem Rep.new {w0 S H w w'} {r' : Res} (h : Rep w0 S H w) (hm : Mod (fun _ => False) w w') (hr : r'.holds w') (hf : ∀ b, r'.foot b → w.heap.size ≤ b) : Rep w0 S (r' :: H) w' := by
  have := Rep.frame (w0 := w0) (S := S) (H0 := []) (F := H) (H0' := [r']) (w := w) (w' := w') (by simpa using h)
    ⟨by simp, by simpa using hr, fun s hs b hb => by simp only [List.mem_singleton] at hs; subst hs; exact .inl (hf b hb), hm.mono fun b hb => hb.elim⟩
  simpa using this
theorem Mod.alloc (w : World) (o : Obj) : Mod (fun _ => False) w (w.alloc o) :=
  ⟨by simp, fun b hb _ => heap_alloc_old w o hb, rfl, rfl, rfl⟩
theorem Mod.setCell (w : World) (p : Addr) (v : Value) : Mod (fun b => b = p.block) w (w.setCell p v) :=
  ⟨by simp, fun b _ hn => heap_setCell_other w p b v hn, rfl, rfl, rfl⟩
theorem Mod.drew (w : World) : Mod (fun _ => False) w w.drew := ⟨Nat.le_refl _, fun _ _ _ => rfl, rfl, rfl, rfl⟩
theorem Rep.alloc {w0 S H w} (h : Rep w0 S H w) (T : TypeId) (cs : List Value) : Rep w0 S (blk w.heap.size T cs :: H) (w.alloc (.cells cs.toArray T)) :=
  h.new (Mod.alloc w _) ⟨(0, 0), heap_alloc_new w _, .inl rfl⟩ (fun b hb => by simp only [blk] at hb; omega)
theorem Rep.blk {w0 S H w} (h : Rep w0 S H w) {i b : Nat} {T : TypeId} {cs : List Value} (hi : H[i]? = some (blk b T cs)) : Holds w b T cs :=
  h.all _ (List.mem_of_getElem? hi)
theorem Rep.set {w0 S H w} (h : Rep w0 S H w) {i b : Nat} {T : TypeId} {cs : List Value} (hi : H[i]? = some (Wk.blk b T cs)) (j : Nat) (v : Value) :
    Rep w0 S (H.set i (Wk.blk b T (cs.set j v))) (w.setCell ⟨b, j, none⟩ v) :=
  h.change hi ((Mod.setCell w ⟨b, j, none⟩ v).mono fun x hx => hx) ((h.blk hi).set j v) (fun x hx => .inl hx)
/-- Only the worlds count of the draws. -/
theorem Rep.drew {w0 S H w} (h : Rep w0 S H w) : Rep w0 S H w.drew :=
  ⟨h.sep, fun r hr => r.stable (w := w) (w' := w.drew) (fun _ _ => rfl) (h.all r hr), h.mine, ⟨h.mod.size, h.mod.old, h.mod.os, h.mod.tape, h.mod.output⟩⟩
/-- What stood in the world at the begin stands there still. -/
theorem Rep.oldCell {w0 S H w} (h : Rep w0 S H w) {p : Addr} {v : Value} (hv : w0.cell? p = some v) (hS : ¬ S p.block) : w.cell? p = some v := by
  have := h.mod.old p.block (block_lt_of_cell hv) hS
  unfold World.cell? at *
  rw [this]; exact hv

/-! ### a point of a walk -/
structure Ctx where
  w0 : World
  S : Nat → Prop
  n : Nat
  D : List Deferred
def At (Γ : Ctx) (E : Env) (H : List Res) (φ : Act → World → Prop) : Prop := ∀ a w, Agrees Γ.n Γ.D E a → Rep Γ.w0 Γ.S H w → φ a w
section
variable {P : Program} {Γ : Ctx} {E : Env} {H : List Res} {ops : Array Oper} {Q : Exit → Act → World → Prop} {rest : List Oper} {o : Oper}
theorem At.mono {φ ψ : Act → World → Prop} (h : At Γ E H φ) (hi : ∀ a w, φ a w → ψ a w) : At Γ E H ψ := fun a w ha hw => hi a w (h a w ha hw)
theorem At.weaken {φ : Act → World → Prop} (E' : Env) (hE : Sub E E') (k : At Γ E' H φ) : At Γ E H φ := fun a w ha hw => k a w (ha.weaken hE) hw
theorem At.perm {φ : Act → World → Prop} (H' : List Res) (hp : H.Perm H') (k : At Γ E H' φ) : At Γ E H φ := fun a w ha hw => k a w ha (hw.perm hp)
/-- An operation that yields a value. -/
theorem At.run {d : Nat} (hg : o.guard = none) (hd : o.dst = some d) (hn : Nat.blt d Γ.n = true)
    (h : ∀ a w, Agrees Γ.n Γ.D E a → Rep Γ.w0 Γ.S H w → ∃ v w' H', (execOp a.eval o).run P w = .ok (.value v) w' ∧ Rep Γ.w0 Γ.S H' w' ∧ At Γ ((d, v) :: E) H' (wpList P ops Q rest)) :
    At Γ E H (wpList P ops Q (o :: rest)) := fun a w ha hw => by
  obtain ⟨v, w', H', hr, hw', k⟩ := h a w ha hw
  refine wpList_plain hg fun K hK => ?_
  unfold Oper.wp
  rw [hr, Oper.upon_value, hd]
  exact hK _ _ (k _ _ (ha.put d v hn) hw')
/-- An operation that yields a value in the very world that it got. -/
def Val (P : Program) (Γ : Ctx) (E : Env) (H : List Res) (o : Oper) (v : Value) : Prop :=
  ∀ a w, Agrees Γ.n Γ.D E a → Rep Γ.w0 Γ.S H w → (execOp a.eval o).run P w = .ok (.value v) w
theorem At.val {d : Nat} {v : Value} (h : Val P Γ E H o v) (hg : o.guard = none) (hd : o.dst = some d) (hn : Nat.blt d Γ.n = true)
    (k : At Γ ((d, v) :: E) H (wpList P ops Q rest)) : At Γ E H (wpList P ops Q (o :: rest)) :=
  At.run hg hd hn fun a w ha hw => ⟨v, w, H, h a w ha hw, hw, k⟩
/-- An operation that yields nothing. -/
theorem At.skip (hg : o.guard = none) (hd : o.dst = none)
    (h : ∀ a w, Agrees Γ.n Γ.D E a → Rep Γ.w0 Γ.S H w → ∃ w' H', (execOp a.eval o).run P w = .ok .skip w' ∧ Rep Γ.w0 Γ.S H' w' ∧ At Γ E H' (wpList P ops Q rest)) :
    At Γ E H (wpList P ops Q (o :: rest)) := fun a w ha hw => by
  obtain ⟨w', H', hr, hw', k⟩ := h a w ha hw
  refine wpList_plain hg fun K hK => ?_
  unfold Oper.wp
  rw [hr, Oper.upon_skip, hd]
  exact hK _ _ (k _ _ ha hw')
/-- A guard that lets by, and one that doesn't. -/
theorem At.yes {j t : Nat} {b : Bool} {dst : Option Tmp} {op : Op} {ty : TypeId} {pos : String} {after : Array Edge} (hj : (ops[j]?).bind (·.dst) = some t) (hl : look E t = some (.bool b))
    (k : At Γ E H (wpList P ops Q ({ dst, op, type := ty, pos, after, guard := none } :: rest))) : At Γ E H (wpList P ops Q ({ dst, op, type := ty, pos, after, guard := some (j, b) } :: rest)) := fun a w ha hw => by
  have hk := k a w ha hw
  have hy : yielded ops a.tmps j = some b := by simp [yielded, hj, ha.get t _ hl]
  unfold wpList at hk ⊢
  rw [if_pos (by simp [Region.wanted])] at hk
  rw [if_pos (by simp [Region.wanted, hy])]
  exact hk
theorem At.no {j t d : Nat} {b c : Bool} {op : Op} {ty : TypeId} {pos : String} {after : Array Edge} (hj : (ops[j]?).bind (·.dst) = some t) (hl : look E t = some (.bool c)) (hc : (c == b) = false) (hn : Nat.blt d Γ.n = true)
    (k : At Γ ((d, undef) :: E) H (wpList P ops Q rest)) : At Γ E H (wpList P ops Q ({ dst := some d, op, type := ty, pos, after, guard := some (j, b) } :: rest)) := fun a w ha hw => by
  have hy : yielded ops a.tmps j = some c := by simp [yielded, hj, ha.get t _ hl]
  unfold wpList
  rw [if_neg (by simp [Region.wanted, hy]; simpa using hc)]
  exact k _ _ (ha.put d undef hn) hw
theorem At.noN {j t : Nat} {b c : Bool} {op : Op} {ty : TypeId} {pos : String} {after : Array Edge} (hj : (ops[j]?).bind (·.dst) = some t) (hl : look E t = some (.bool c)) (hc : (c == b) = false)
    (k : At Γ E H (wpList P ops Q rest)) : At Γ E H (wpList P ops Q ({ dst := .none, op, type := ty, pos, after, guard := some (j, b) } :: rest)) := fun a w ha hw => by
  have hy : yielded ops a.tmps j = some c := by simp [yielded, hj, ha.get t _ hl]
  unfold wpList
  rw [if_neg (by simp [Region.wanted, hy]; simpa using hc)]
  exact k _ _ ha hw
/-- A slot's bool is split. -/
theorem At.split {t : Nat} {b : Bool} {φ : Act → World → Prop} (hl : look E t = some (.bool b)) (k1 : b = true → At Γ ((t, .bool true) :: E) H φ) (k2 : b = false → At Γ ((t, .bool false) :: E) H φ) : At Γ E H φ := fun a w ha hw => by
  cases b
  · exact k2 rfl a w (ha.cons hl) hw
  · exact k1 rfl a w (ha.cons hl) hw
theorem At.nil (k : At Γ E H (Q .normal)) : At Γ E H (wpList P ops Q []) := fun a w ha hw => wpList_nil (k a w ha hw)
end
end Go.Wk
