/- Parts of the proof, joined: see the law's text. -/
import Derived.WalkKit
import Derived.BigQuiet
import Derived.StillTail
import Derived.Deep.Quiet
import Derived.KernelRfl
import Derived.Deep.LoopGhost
import Derived.Laws.OwnMore
import Derived.Lib.ConvBytes
import Derived.Laws.BytesArg
import Derived.ProofKit
import Derived.OpenShut
import Derived.WideKeyArgs
import Derived.Test.YthdmlpjhcalliaaGreatDoorRows
import Derived.Deep.DeepHandedRow
import Derived.Lib.LaidTab
import Derived.Recover
import Derived.WideLaws
import Derived.Laws.IdiomStrings
set_option linter.unusedVariables false
set_option linter.unusedSimpArgs false
namespace Go.Wk
open Go
abbrev Env := List (Nat × Value)
def look : Env → Nat → Option Value
  | [], _ => none
  | (k, v) :: E, t => match Nat.beq k t with | true => some v | false => look E t
structure Agrees (n : Nat) (D : List Deferred) (E : Env) (a : Act) : Prop where
  size : a.tmps.size = n
  defers : a.defers = D
  get : ∀ t v, look E t = some v → a.tmps[t]? = some v
def ev (E : Env) : Operand → Option Value
  | .tmp t => look E t
  | .const v => some v
  | .global g => some (.pointer (some ⟨g, 0, none⟩))
  | .func f => some (.func (.func f) #[] #[])
theorem Agrees.eval {n D E} {a : Act} (h : Agrees n D E a) {x : Operand} {v : Value} (hx : ev E x = some v) : a.eval x = v := by
  cases x with
  | tmp t => have := h.get t v hx; simp [Act.eval, this]
  | const c => exact Option.some.inj hx
  | global g => simpa [ev, Act.eval] using hx
  | func f => simpa [ev, Act.eval] using hx
theorem Agrees.put {n D E} {a : Act} (h : Agrees n D E a) (d : Nat) (v : Value) (hd : Nat.blt d n = true) : Agrees n D ((d, v) :: E) (a.put (some d) v) := by
  have hd' : d < n := by simpa [Nat.blt_eq] using hd
  refine ⟨by simp [Act.put, h.size], h.defers, fun t u ht => ?_⟩
  simp only [look] at ht
  by_cases e : d = t
  · subst e
    simp only [Nat.beq_refl] at ht
    obtain rfl := Option.some.inj ht
    have hs := h.size
    simp [Act.put, hs, hd']
  · have hb : Nat.beq d t = false := Bool.eq_false_iff.2 fun h => e (Nat.eq_of_beq_eq_true h)
    rw [hb] at ht
    simp only [Act.put]
    rw [Array.getElem?_setIfInBounds_ne e]
    exact h.get t u ht
theorem Agrees.cons {n D E} {a : Act} (h : Agrees n D E a) {t : Nat} {v : Value} (hl : look E t = some v) : Agrees n D ((t, v) :: E) a := by
  refine ⟨h.size, h.defers, fun s u hs => ?_⟩
  simp only [look] at hs
  by_cases e : t = s
  · subst e
    simp only [Nat.beq_refl] at hs
    obtain rfl := Option.some.inj hs
    exact h.get t v hl
  · have hb : Nat.beq t s = false := Bool.eq_false_iff.2 fun h => e (Nat.eq_of_beq_eq_true h)
    rw [hb] at hs
    exact h.get s u hs
def Sub (E : Env) : Env → Prop
  | [] => True
  | (t, v) :: E' => look E t = some v ∧ Sub E E'
theorem Sub.nil {E : Env} : Sub E [] := trivial
theorem Sub.cons {E E' : Env} {t : Nat} {v : Value} (h : look E t = some v) (k : Sub E E') : Sub E ((t, v) :: E') := ⟨h, k⟩
theorem Agrees.weaken {n D E E'} {a : Act} (h : Agrees n D E a) (hE : Sub E E') : Agrees n D E' a := by
  refine ⟨h.size, h.defers, fun t v ht => h.get t v ?_⟩
  induction E' with
  | nil => simp [look] at ht
  | cons p E' ih =>
    obtain ⟨k, u⟩ := p
    simp only [look] at ht
    by_cases e : k = t
    · subst e
      simp only [Nat.beq_refl] at ht
      obtain rfl := Option.some.inj ht
      exact hE.1
    · have hb : Nat.beq k t = false := Bool.eq_false_iff.2 fun h => e (Nat.eq_of_beq_eq_true h)
      rw [hb] at ht
      exact ih hE.2 ht
structure Res where
  foot : Nat → Prop
  holds : World → Prop
  stable : ∀ {w w' : World}, (∀ b, foot b → w'.heap[b]? = w.heap[b]?) → holds w → holds w'
  low : ∀ {w : World}, holds w → ∀ b, foot b → b < w.heap.size
def Holds (w : World) (b : Nat) (T : TypeId) (cs : List Value) : Prop := ∃ fr : Nat × Nat, w.heap[b]? = some (.cells cs.toArray T fr) ∧ (fr = (0, 0) ∨ cs.length ≤ fr.1)
def blk (b : Nat) (T : TypeId) (cs : List Value) : Res where
  foot := fun x => x = b
  holds := fun w => Holds w b T cs
  stable := fun h hw => by unfold Holds; rw [h b rfl]; exact hw
  low := fun {w} hw x hx => by
    obtain ⟨fr, hw, _⟩ := hw
    subst hx
    rcases Nat.lt_or_ge x w.heap.size with h | h
    · exact h
    · simp [Array.getElem?_eq_none h] at hw
theorem Holds.cell {w b T cs} (h : Holds w b T cs) (j : Nat) : w.cell? ⟨b, j, none⟩ = cs[j]? := by
  obtain ⟨fr, h, _⟩ := h
  rw [cell_of_row w b j _ T fr h]; simp
theorem Holds.frozen {w b T cs} (h : Holds w b T cs) (j : Nat) (hj : j < cs.length) : w.frozen? ⟨b, j, none⟩ = false := by
  obtain ⟨fr, h, hf⟩ := h
  simp only [World.frozen?, h]
  rcases hf with rfl | hf
  · simp
  · have : ¬ fr.1 ≤ j := by omega
    simp [this]
theorem Holds.set {w b T cs} (h : Holds w b T cs) (j : Nat) (v : Value) : Holds (w.setCell ⟨b, j, none⟩ v) b T (cs.set j v) := by
  obtain ⟨fr, h, hf⟩ := h
  refine ⟨fr, ?_, by simpa using hf⟩
  rw [setCell_eq_setRow w b j _ T fr v h, setRow_heap w b _ _ T fr h]
  simp
theorem Holds.loadVar {P : Program} {w b T cs} (h : Holds w b T cs) (ty : TypeId) (d : TypeDesc) (hu : P.underlying ty = some d)
    (hd : (match d with | .struct _ | .array _ _ => true | _ => false) = true) (hi : (P.info? ty).map (·.size) = some cs.length) : (loadVar ty ⟨b, 0, none⟩).run P w = .ok (.agg cs.toArray) w := by
  obtain ⟨fr, h, _⟩ := h
  exact run_loadVar_row w b T ty cs.toArray fr d h hu hd (by simpa using hi)
def Apart (r s : Res) : Prop := ∀ b, r.foot b → s.foot b → False
def feet (H : List Res) : Nat → Prop := fun b => ∃ r ∈ H, r.foot b
structure Mod (F : Nat → Prop) (w w' : World) : Prop where
  size : w.heap.size ≤ w'.heap.size
  old : ∀ b, b < w.heap.size → ¬ F b → w'.heap[b]? = w.heap[b]?
  os : w'.os = w.os
  tape : w'.tape = w.tape
  output : w'.output = w.output
structure Rep (w0 : World) (S : Nat → Prop) (H : List Res) (w : World) : Prop where
  sep : H.Pairwise Apart
  all : ∀ r ∈ H, r.holds w
  mine : ∀ r ∈ H, ∀ b, r.foot b → w0.heap.size ≤ b ∨ S b
  mod : Mod S w0 w
theorem Mod.refl (F : Nat → Prop) (w : World) : Mod F w w := ⟨Nat.le_refl _, fun _ _ _ => rfl, rfl, rfl, rfl⟩
theorem Mod.trans {F : Nat → Prop} {a b c : World} (h : Mod F a b) (k : Mod F b c) : Mod F a c :=
  ⟨Nat.le_trans h.size k.size, fun x hx hF => (k.old x (Nat.lt_of_lt_of_le hx h.size) hF).trans (h.old x hx hF), k.os.trans h.os, k.tape.trans h.tape, k.output.trans h.output⟩
theorem Mod.mono {F G : Nat → Prop} {w w' : World} (h : Mod F w w') (hFG : ∀ b, F b → G b) : Mod G w w' :=
  ⟨h.size, fun b hb hn => h.old b hb (fun hF => hn (hFG b hF)), h.os, h.tape, h.output⟩
theorem Apart.symm {r s : Res} (h : Apart r s) : Apart s r := fun b hs hr => h b hr hs
theorem Rep.perm {w0 S H H' w} (h : Rep w0 S H w) (hp : H.Perm H') : Rep w0 S H' w :=
  ⟨(hp.pairwise_iff (fun h => h.symm)).1 h.sep, fun r hr => h.all r (hp.mem_iff.2 hr), fun r hr => h.mine r (hp.mem_iff.2 hr), h.mod⟩
theorem Rep.frame {w0 S H0 F H0' w w'} (h : Rep w0 S (H0 ++ F) w) (h' : Rep w (feet H0) H0' w') : Rep w0 S (H0' ++ F) w' := by
  have hsep := List.pairwise_append.1 h.sep
  have keep : ∀ s ∈ F, ∀ b, s.foot b → w'.heap[b]? = w.heap[b]? := fun s hs b hb =>
    h'.mod.old b (s.low (h.all s (List.mem_append_right _ hs)) b hb) (fun ⟨r, hr, hrb⟩ => hsep.2.2 r hr s hs b hrb hb)
  refine ⟨List.pairwise_append.2 ⟨h'.sep, hsep.2.1, fun r hr s hs b hrb hsb => ?_⟩, fun r hr => ?_, fun r hr b hb => ?_, ?_⟩
  · have hlt := s.low (h.all s (List.mem_append_right _ hs)) b hsb
    rcases h'.mine r hr b hrb with h1 | ⟨q, hq, hqb⟩
    · omega
    · exact hsep.2.2 q hq s hs b hqb hsb
  · rcases List.mem_append.1 hr with h1 | h1
    · exact h'.all r h1
    · exact r.stable (keep r h1) (h.all r (List.mem_append_right _ h1))
  · rcases List.mem_append.1 hr with h1 | h1
    · rcases h'.mine r h1 b hb with h2 | ⟨q, hq, hqb⟩
      · exact .inl (Nat.le_trans h.mod.size h2)
      · exact h.mine q (List.mem_append_left _ hq) b hqb
    · exact h.mine r (List.mem_append_right _ h1) b hb
  · refine ⟨Nat.le_trans h.mod.size h'.mod.size, fun b hb hn => ?_, h'.mod.os.trans h.mod.os, h'.mod.tape.trans h.mod.tape, h'.mod.output.trans h.mod.output⟩
    rw [h'.mod.old b (Nat.lt_of_lt_of_le hb h.mod.size) (fun ⟨r, hr, hrb⟩ => ?_)]
    · exact h.mod.old b hb hn
    · rcases h.mine r (List.mem_append_left _ hr) b hrb with h2 | h2
      · omega
      · exact hn h2
theorem set_perm {α : Type} : ∀ (H : List α) (i : Nat) (r r' : α), H[i]? = some r → (H.set i r').Perm (r' :: H.eraseIdx i)
  | [], i, r, r', h => by simp at h
  | x :: H, 0, r, r', h => by simp
  | x :: H, i + 1, r, r', h => by
    simp only [List.set_cons_succ, List.eraseIdx_cons_succ]
    exact ((set_perm H i r r' (by simpa using h)).cons x).trans (.swap ..)
theorem erase_perm {α : Type} (H : List α) (i : Nat) (r : α) (h : H[i]? = some r) : H.Perm (r :: H.eraseIdx i) := by
  have := set_perm H i r r h
  have e : H.set i r = H := by
    apply List.ext_getElem?
    intro j
    rw [List.getElem?_set]
    split
    · rename_i e; subst e
      split
      · rw [h]
      · rename_i hn; rw [List.getElem?_eq_none (by omega)]
    · rfl
  rwa [e] at this
theorem Rep.frame1 {w0 S H w w'} {i : Nat} {r r' : Res} {X : List Res} (hi : H[i]? = some r) (h : Rep w0 S H w) (h' : Rep w (feet [r]) (r' :: X) w') : Rep w0 S (X ++ H.set i r') w' := by
  have h1 : Rep w0 S ([r] ++ H.eraseIdx i) w := h.perm (erase_perm H i r hi)
  refine (h1.frame h').perm ?_
  have h2 : (X ++ H.set i r').Perm (X ++ r' :: H.eraseIdx i) := (set_perm H i r r' hi).append_left X
  refine List.Perm.symm (h2.trans ?_)
  exact List.perm_middle
theorem Rep.mono {w0 S H w w'} (h : Rep w0 S H w) (h' : Rep w (feet []) [] w') : Rep w0 S H w' := by
  have := Rep.frame (H0 := []) (F := H) (H0' := []) (by simpa using h) h'
  simpa using this
theorem Rep.change {w0 S H w w'} {i : Nat} {r r' : Res} (hi : H[i]? = some r) (h : Rep w0 S H w) (hm : Mod r.foot w w') (hr : r'.holds w') (hf : ∀ b, r'.foot b → r.foot b ∨ w.heap.size ≤ b) : Rep w0 S (H.set i r') w' := by
  refine Rep.frame1 (X := []) hi h ⟨by simp, by simpa using hr, ?_, hm.mono fun b hb => ⟨r, by simp, hb⟩⟩
  intro s hs b hb
  simp only [List.mem_singleton] at hs
  subst hs
  rcases hf b hb with h1 | h1
  · exact .inr ⟨r, by simp, h1⟩
  · exact .inl h1
theorem Rep.new {w0 S H w w'} {r' : Res} (h : Rep w0 S H w) (hm : Mod (fun _ => False) w w') (hr : r'.holds w') (hf : ∀ b, r'.foot b → w.heap.size ≤ b) : Rep w0 S (r' :: H) w' := by
  have := Rep.frame (w0 := w0) (S := S) (H0 := []) (F := H) (H0' := [r']) (w := w) (w' := w') (by simpa using h)
    ⟨by simp, by simpa using hr, fun s hs b hb => by simp only [List.mem_singleton] at hs; subst hs; exact .inl (hf b hb), hm.mono fun b hb => hb.elim⟩
  simpa using this
theorem Mod.alloc (w : World) (o : Obj) : Mod (fun _ => False) w (w.alloc o) :=
  ⟨by simp, fun b hb _ => heap_alloc_old w o hb, rfl, rfl, rfl⟩
theorem Mod.setCell (w : World) (p : Addr) (v : Value) : Mod (fun b => b = p.block) w (w.setCell p v) :=
  ⟨by simp, fun b _ hn => heap_setCell_other w p b v hn, rfl, rfl, rfl⟩
theorem Mod.drew (w : World) : Mod (fun _ => False) w w.drew := ⟨Nat.le_refl _, fun _ _ _ => rfl, rfl, rfl, rfl⟩
theorem Rep.alloc {w0 S H w} (h : Rep w0 S H w) (T : TypeId) (cs : List Value) : Rep w0 S (blk w.heap.size T cs :: H) (w.alloc (.cells cs.toArray T)) :=
  h.new (Mod.alloc w _) ⟨(0, 0), heap_alloc_new w _, .inl rfl⟩ (fun b hb => by simp only [blk] at hb; omega)
theorem Rep.blk {w0 S H w} (h : Rep w0 S H w) {i b : Nat} {T : TypeId} {cs : List Value} (hi : H[i]? = some (blk b T cs)) : Holds w b T cs :=
  h.all _ (List.mem_of_getElem? hi)
theorem Rep.set {w0 S H w} (h : Rep w0 S H w) {i b : Nat} {T : TypeId} {cs : List Value} (hi : H[i]? = some (Wk.blk b T cs)) (j : Nat) (v : Value) :
    Rep w0 S (H.set i (Wk.blk b T (cs.set j v))) (w.setCell ⟨b, j, none⟩ v) :=
  h.change hi ((Mod.setCell w ⟨b, j, none⟩ v).mono fun x hx => hx) ((h.blk hi).set j v) (fun x hx => .inl hx)
theorem Rep.drew {w0 S H w} (h : Rep w0 S H w) : Rep w0 S H w.drew :=
  ⟨h.sep, fun r hr => r.stable (w := w) (w' := w.drew) (fun _ _ => rfl) (h.all r hr), h.mine, ⟨h.mod.size, h.mod.old, h.mod.os, h.mod.tape, h.mod.output⟩⟩
theorem Rep.oldCell {w0 S H w} (h : Rep w0 S H w) {p : Addr} {v : Value} (hv : w0.cell? p = some v) (hS : ¬ S p.block) : w.cell? p = some v := by
  have := h.mod.old p.block (block_lt_of_cell hv) hS
  unfold World.cell? at *
  rw [this]; exact hv
structure Ctx where
  w0 : World
  S : Nat → Prop
  n : Nat
  D : List Deferred
def At (Γ : Ctx) (E : Env) (H : List Res) (φ : Act → World → Prop) : Prop := ∀ a w, Agrees Γ.n Γ.D E a → Rep Γ.w0 Γ.S H w → φ a w
section
variable {P : Program} {Γ : Ctx} {E : Env} {H : List Res} {ops : Array Oper} {Q : Exit → Act → World → Prop} {rest : List Oper} {o : Oper}
theorem At.mono {φ ψ : Act → World → Prop} (h : At Γ E H φ) (hi : ∀ a w, φ a w → ψ a w) : At Γ E H ψ := fun a w ha hw => hi a w (h a w ha hw)
theorem At.weaken {φ : Act → World → Prop} (E' : Env) (hE : Sub E E') (k : At Γ E' H φ) : At Γ E H φ := fun a w ha hw => k a w (ha.weaken hE) hw
theorem At.perm {φ : Act → World → Prop} (H' : List Res) (hp : H.Perm H') (k : At Γ E H' φ) : At Γ E H φ := fun a w ha hw => k a w ha (hw.perm hp)
theorem At.run {d : Nat} (hg : o.guard = none) (hd : o.dst = some d) (hn : Nat.blt d Γ.n = true)
    (h : ∀ a w, Agrees Γ.n Γ.D E a → Rep Γ.w0 Γ.S H w → ∃ v w' H', (execOp a.eval o).run P w = .ok (.value v) w' ∧ Rep Γ.w0 Γ.S H' w' ∧ At Γ ((d, v) :: E) H' (wpList P ops Q rest)) :
    At Γ E H (wpList P ops Q (o :: rest)) := fun a w ha hw => by
  obtain ⟨v, w', H', hr, hw', k⟩ := h a w ha hw
  refine wpList_plain hg fun K hK => ?_
  unfold Oper.wp
  rw [hr, Oper.upon_value, hd]
  exact hK _ _ (k _ _ (ha.put d v hn) hw')
def Val (P : Program) (Γ : Ctx) (E : Env) (H : List Res) (o : Oper) (v : Value) : Prop :=
  ∀ a w, Agrees Γ.n Γ.D E a → Rep Γ.w0 Γ.S H w → (execOp a.eval o).run P w = .ok (.value v) w
theorem At.val {d : Nat} {v : Value} (h : Val P Γ E H o v) (hg : o.guard = none) (hd : o.dst = some d) (hn : Nat.blt d Γ.n = true)
    (k : At Γ ((d, v) :: E) H (wpList P ops Q rest)) : At Γ E H (wpList P ops Q (o :: rest)) :=
  At.run hg hd hn fun a w ha hw => ⟨v, w, H, h a w ha hw, hw, k⟩
theorem At.skip (hg : o.guard = none) (hd : o.dst = none)
    (h : ∀ a w, Agrees Γ.n Γ.D E a → Rep Γ.w0 Γ.S H w → ∃ w' H', (execOp a.eval o).run P w = .ok .skip w' ∧ Rep Γ.w0 Γ.S H' w' ∧ At Γ E H' (wpList P ops Q rest)) :
    At Γ E H (wpList P ops Q (o :: rest)) := fun a w ha hw => by
  obtain ⟨w', H', hr, hw', k⟩ := h a w ha hw
  refine wpList_plain hg fun K hK => ?_
  unfold Oper.wp
  rw [hr, Oper.upon_skip, hd]
  exact hK _ _ (k _ _ ha hw')
theorem At.yes {j t : Nat} {b : Bool} {dst : Option Tmp} {op : Op} {ty : TypeId} {pos : String} {after : Array Edge} (hj : (ops[j]?).bind (·.dst) = some t) (hl : look E t = some (.bool b))
    (k : At Γ E H (wpList P ops Q ({ dst, op, type := ty, pos, after, guard := none } :: rest))) : At Γ E H (wpList P ops Q ({ dst, op, type := ty, pos, after, guard := some (j, b) } :: rest)) := fun a w ha hw => by
  have hk := k a w ha hw
  have hy : yielded ops a.tmps j = some b := by simp [yielded, hj, ha.get t _ hl]
  unfold wpList at hk ⊢
  rw [if_pos (by simp [Region.wanted])] at hk
  rw [if_pos (by simp [Region.wanted, hy])]
  exact hk
theorem At.no {j t d : Nat} {b c : Bool} {op : Op} {ty : TypeId} {pos : String} {after : Array Edge} (hj : (ops[j]?).bind (·.dst) = some t) (hl : look E t = some (.bool c)) (hc : (c == b) = false) (hn : Nat.blt d Γ.n = true)
    (k : At Γ ((d, undef) :: E) H (wpList P ops Q rest)) : At Γ E H (wpList P ops Q ({ dst := some d, op, type := ty, pos, after, guard := some (j, b) } :: rest)) := fun a w ha hw => by
  have hy : yielded ops a.tmps j = some c := by simp [yielded, hj, ha.get t _ hl]
  unfold wpList
  rw [if_neg (by simp [Region.wanted, hy]; simpa using hc)]
  exact k _ _ (ha.put d undef hn) hw
theorem At.split {t : Nat} {b : Bool} {φ : Act → World → Prop} (hl : look E t = some (.bool b)) (k1 : b = true → At Γ ((t, .bool true) :: E) H φ) (k2 : b = false → At Γ ((t, .bool false) :: E) H φ) : At Γ E H φ := fun a w ha hw => by
  cases b
  · exact k2 rfl a w (ha.cons hl) hw
  · exact k1 rfl a w (ha.cons hl) hw
theorem At.nil (k : At Γ E H (Q .normal)) : At Γ E H (wpList P ops Q []) := fun a w ha hw => wpList_nil (k a w ha hw)
end
end Go.Wk
namespace Go.Wk
open Go
section
variable {P : Program} {Γ : Ctx} {E : Env} {H : List Res} {ops : Array Oper} {Q : Exit → Act → World → Prop} {rest : List Oper}
  {d : Nat} {dst : Option Tmp} {g : Option (Nat × Bool)} {ty : TypeId} {pos : String} {after : Array Edge} {x y z : Operand} {v u : Value}
theorem Val.move (hx : ev E x = some v) : Val P Γ E H ⟨dst, .move x, ty, pos, after, g⟩ v :=
  fun a w ha _ => by simp [execOp, ha.eval hx]
theorem Val.assign (hx : ev E x = some v) : Val P Γ E H ⟨dst, .assign x, ty, pos, after, g⟩ v :=
  fun a w ha _ => by simp [execOp, ha.eval hx]
theorem Val.pick {c : Bool} (hx : ev E x = some (.bool c)) (hy : ev E y = some v) (hz : ev E z = some u) : Val P Γ E H ⟨dst, .pick x y z, ty, pos, after, g⟩ (bif c then v else u) :=
  fun a w ha _ => by cases c <;> simp [execOp, asBool, ha.eval hx, ha.eval hy, ha.eval hz]
theorem Val.pickT (hx : ev E x = some (.bool true)) (hy : ev E y = some v) : Val P Γ E H ⟨dst, .pick x y z, ty, pos, after, g⟩ v :=
  fun a w ha _ => by simp [execOp, asBool, ha.eval hx, ha.eval hy]
theorem Val.pickF (hx : ev E x = some (.bool false)) (hz : ev E z = some u) : Val P Γ E H ⟨dst, .pick x y z, ty, pos, after, g⟩ u :=
  fun a w ha _ => by simp [execOp, asBool, ha.eval hx, ha.eval hz]
def ib (op : BinOp) (k : IntKind) (x y : Int) : Int :=
  match op with
  | .and => k.wrap (BitVec.ofInt k.bits x &&& BitVec.ofInt k.bits y).toNat
  | .or => k.wrap (BitVec.ofInt k.bits x ||| BitVec.ofInt k.bits y).toNat
  | .andNot => k.wrap (BitVec.ofInt k.bits x &&& ~~~BitVec.ofInt k.bits y).toNat
  | _ => k.wrap (BitVec.ofInt k.bits x ^^^ BitVec.ofInt k.bits y).toNat
def ibin (op : BinOp) (k : IntKind) (a b : Int) : Option Value :=
  match op with
  | .add => some (.int k (k.wrap (a + b)))
  | .sub => some (.int k (k.wrap (a - b)))
  | .mul => some (.int k (k.wrap (a * b)))
  | .and => some (.int k (ib .and k a b))
  | .or => some (.int k (ib .or k a b))
  | .xor => some (.int k (ib .xor k a b))
  | .andNot => some (.int k (ib .andNot k a b))
  | .eql => some (.bool (a == b))
  | .neq => some (.bool (a != b))
  | .lss => some (.bool (decide (a < b)))
  | .leq => some (.bool (decide (a ≤ b)))
  | .gtr => some (.bool (decide (a > b)))
  | .geq => some (.bool (decide (a ≥ b)))
  | _ => .none
theorem run_ibin {op : BinOp} {k : IntKind} {a b : Int} {v : Value} (h : ibin op k a b = some v) (t : TypeId) (x y : Operand) (w : World) :
    ((do eqGuard op t x y (.int k a) (.int k b); binOp op t (.int k a) (.int k b)) : Sem Value).run P w = .ok v w := by
  cases op <;> simp [ibin] at h <;> subst h <;> simp [eqGuard, binOp, Op.intArith, Op.intBits, Op.intCmp, ib]
theorem Val.bin {op : BinOp} {t t' : TypeId} {k : IntKind} {a b : Int} (hx : ev E x = some (.int k a)) (hy : ev E y = some (.int k b)) (hv : ibin op k a b = some v) : Val P Γ E H ⟨dst, .binOp op t x y t', ty, pos, after, g⟩ v :=
  fun a w ha _ => by
    have := run_ibin (P := P) hv t x y w
    simp only [execOp, ha.eval hx, ha.eval hy]
    rw [Sem.run_bind, this]; rfl
theorem Val.quo {t t' : TypeId} {k : IntKind} {a b : Int} (hx : ev E x = some (.int k a)) (hy : ev E y = some (.int k b)) (hb : b ≠ 0) : Val P Γ E H ⟨dst, .binOp .quo t x y t', ty, pos, after, g⟩ (.int k (k.wrap (a.tdiv b))) :=
  fun a w ha _ => by simp [execOp, ha.eval hx, ha.eval hy, eqGuard, binOp, Op.intDiv, hb]
theorem Val.rem {t t' : TypeId} {k : IntKind} {a b : Int} (hx : ev E x = some (.int k a)) (hy : ev E y = some (.int k b)) (hb : b ≠ 0) : Val P Γ E H ⟨dst, .binOp .rem t x y t', ty, pos, after, g⟩ (.int k (a.tmod b)) :=
  fun a w ha _ => by simp [execOp, ha.eval hx, ha.eval hy, eqGuard, binOp, Op.intDiv, hb]
theorem Val.shl {t t' : TypeId} {k k' : IntKind} {a b : Int} (hx : ev E x = some (.int k a)) (hy : ev E y = some (.int k' b)) (hb : 0 ≤ b) : Val P Γ E H ⟨dst, .binOp .shl t x y t', ty, pos, after, g⟩ (.int k (k.wrap (a * 2 ^ min b.toNat k.bits))) :=
  fun a w ha _ => by simp [execOp, ha.eval hx, ha.eval hy, eqGuard, binOp, Op.shift, Int.not_lt.2 hb]
theorem Val.shr {t t' : TypeId} {k k' : IntKind} {a b : Int} (hx : ev E x = some (.int k a)) (hy : ev E y = some (.int k' b)) (hb : 0 ≤ b) : Val P Γ E H ⟨dst, .binOp .shr t x y t', ty, pos, after, g⟩ (.int k (a.fdiv (2 ^ min b.toNat k.bits))) :=
  fun a w ha _ => by simp [execOp, ha.eval hx, ha.eval hy, eqGuard, binOp, Op.shift, Int.not_lt.2 hb]
theorem Val.not {t : TypeId} {b : Bool} (hx : ev E x = some (.bool b)) : Val P Γ E H ⟨dst, .unOp .not t x, ty, pos, after, g⟩ (.bool (!b)) :=
  fun a w ha _ => by simp [execOp, ha.eval hx, Op.unary]
theorem Val.com {t : TypeId} {k : IntKind} {b : Int} (hx : ev E x = some (.int k b)) : Val P Γ E H ⟨dst, .unOp .xor t x, ty, pos, after, g⟩ (.int k (ib .xor k (if k.signed then -1 else k.max) b)) :=
  fun a w ha _ => by simp [execOp, ha.eval hx, Op.unary, Op.intBits, ib]
theorem Val.conv {s t : TypeId} {ds : TypeDesc} {k k' : IntKind} {b : Int} (hs : P.underlying s = some ds) (ht : P.underlying t = some (.int k)) (hx : ev E x = some (.int k' b)) : Val P Γ E H ⟨dst, .convert s t x, ty, pos, after, g⟩ (.int k (k.wrap b)) :=
  fun a w ha _ => by simp [execOp, ha.eval hx, convert, Sem.run_bind, run_underlying hs, run_underlying ht, Conv.intToInt]
theorem Val.seq_ {t t' : TypeId} {s r : ByteArray} (hx : ev E x = some (.string s)) (hy : ev E y = some (.string r)) : Val P Γ E H ⟨dst, .binOp .eql t x y t', ty, pos, after, g⟩ (.bool (s.toList == r.toList)) :=
  fun a w ha _ => by simp [execOp, ha.eval hx, ha.eval hy, eqGuard, binOp, Op.stringOp]
theorem run_equal_bool {t : TypeId} (hu : P.underlying t = some .bool) (a b : Bool) (w : World) : (Op.equal t (.bool a) (.bool b)).run P w = .ok (a == b) w := by
  have key : ∀ d : Nat, (Op.equalIn (d + 1) t (.bool a) (.bool b)).run P w = .ok (a == b) w := fun d => by
    simp [Op.equalIn, Sem.run_bind, run_underlying hu]
  exact key 9999
theorem Val.eqB {t t' : TypeId} {a b : Bool} (hu : P.underlying t = some .bool) (hx : ev E x = some (.bool a)) (hy : ev E y = some (.bool b)) : Val P Γ E H ⟨dst, .binOp .eql t x y t', ty, pos, after, g⟩ (.bool (a == b)) :=
  fun q w ha _ => by simp [execOp, ha.eval hx, ha.eval hy, eqGuard, binOp, Sem.run_bind, run_equal_bool hu]
theorem Val.extract {i : Nat} {vs : Array Value} (hx : ev E x = some (.tuple vs)) (hv : vs[i]? = some v) : Val P Γ E H ⟨dst, .extract x i, ty, pos, after, g⟩ v :=
  fun a w ha _ => by simp [execOp, ha.eval hx, Instr.extract, hv]
theorem Val.nilCheck {p : Addr} (hx : ev E x = some (.pointer (some p))) : Val P Γ E H ⟨dst, .nilCheck x, ty, pos, after, g⟩ (.pointer (some p)) :=
  fun a w ha _ => by simp [execOp, ha.eval hx]
theorem Val.field {t : TypeId} {i b o p : Nat} (q : Nat) (hq : o + p = q) (hf : ∀ (b o : Nat) (w : World), (Instr.fieldAt t (.pointer (some ⟨b, o, none⟩)) i).run P w = .ok (.pointer (some ⟨b, o + p, none⟩)) w)
    (hx : ev E x = some (.pointer (some ⟨b, o, none⟩))) : Val P Γ E H ⟨dst, .fieldAddr t x i, ty, pos, after, g⟩ (.pointer (some ⟨b, q, none⟩)) :=
  fun a w ha _ => by subst hq; simp [execOp, ha.eval hx, Sem.run_bind, hf]
theorem run_loadAt_cell {t : TypeId} {p : Addr} {w : World} (hA : ∀ w, (isAgg t).run P w = .ok false w) (hv : w.cell? p = some v) : (Instr.loadAt t (.pointer (some p))).run P w = .ok v w := by
  simp [Instr.loadAt, Instr.sureAddr, loadVar, Sem.run_bind, hA, load, Sem.run, hv]
theorem Val.load {t : TypeId} {i b o U : Nat} {cs : List Value} (hA : ∀ w, (isAgg t).run P w = .ok false w) (hx : ev E x = some (.pointer (some ⟨b, o, none⟩)))
    (hi : H[i]? = some (blk b U cs)) (hv : cs[o]? = some v) : Val P Γ E H ⟨dst, .load t x, ty, pos, after, g⟩ v :=
  fun a w ha hw => by
    have := run_loadAt_cell (P := P) hA (((hw.blk hi).cell o).trans hv)
    simp [execOp, ha.eval hx, Sem.run_bind, this]
theorem Val.loadOld {t : TypeId} {p : Addr} (hA : ∀ w, (isAgg t).run P w = .ok false w) (hx : ev E x = some (.pointer (some p)))
    (hv : Γ.w0.cell? p = some v) (hS : ¬ Γ.S p.block) : Val P Γ E H ⟨dst, .load t x, ty, pos, after, g⟩ v :=
  fun a w ha hw => by
    have := run_loadAt_cell (P := P) hA (hw.oldCell hv hS)
    simp [execOp, ha.eval hx, Sem.run_bind, this]
theorem run_loadAt_part {t : TypeId} {b o n U : Nat} {cs : List Value} {w : World} (hA : ∀ w, (isAgg t).run P w = .ok true w) (hs : ∀ w, (sizeOf t).run P w = .ok n w)
    (hb : Holds w b U cs) (ho : o + n ≤ cs.length) : (Instr.loadAt t (.pointer (some ⟨b, o, none⟩))).run P w = .ok (.agg ((cs.drop o).take n).toArray) w := by
  have hl := run_loadCells_list (P := P) w ⟨b, o, none⟩ ((cs.drop o).take n) (fun j v hv => by
    have hadd : (⟨b, o, none⟩ : Addr).add j = ⟨b, o + j, none⟩ := by unfold Addr.add; split <;> simp_all
    rw [hadd, hb.cell]
    rw [List.getElem?_take] at hv
    split at hv
    · simpa [List.getElem?_drop] using hv
    · simp at hv)
  have hlen : ((cs.drop o).take n).length = n := by simp; omega
  rw [hlen] at hl
  simp only [Instr.loadAt, Instr.sureAddr, loadVar, Sem.run_bind, Sem.run_pure, Result.andThen_ok, hA, if_true, hs, hl]
theorem Val.loadPart {t : TypeId} {i b o n U : Nat} {cs vs : List Value} (hA : ∀ w, (isAgg t).run P w = .ok true w) (hs : ∀ w, (sizeOf t).run P w = .ok n w) (hx : ev E x = some (.pointer (some ⟨b, o, none⟩)))
    (hi : H[i]? = some (blk b U cs)) (hv : (cs.drop o).take n = vs) (hl : vs.length = n) : Val P Γ E H ⟨dst, .load t x, ty, pos, after, g⟩ (.agg vs.toArray) :=
  fun a w ha hw => by
    have ho : n = 0 ∨ o + n ≤ cs.length := by rw [← hv] at hl; simp at hl; omega
    rcases ho with h0 | ho
    · subst h0
      have : vs = [] := by simpa using hl
      subst this
      simp only [execOp, ha.eval hx, Instr.loadAt, Instr.sureAddr, loadVar, Sem.run_bind, Sem.run_pure, Result.andThen_ok, hA, if_true, hs, loadCells, loadCellsFrom]
    · have := run_loadAt_part hA hs (hw.blk hi) ho
      rw [hv] at this
      simp only [execOp, ha.eval hx, Sem.run_bind, this, Result.andThen_ok, Sem.run_pure]
theorem Val.loadAll {t : TypeId} {i b n U : Nat} {cs : List Value} (hA : ∀ w, (isAgg t).run P w = .ok true w) (hs : ∀ w, (sizeOf t).run P w = .ok n w) (hx : ev E x = some (.pointer (some ⟨b, 0, none⟩)))
    (hi : H[i]? = some (blk b U cs)) (hl : cs.length = n) : Val P Γ E H ⟨dst, .load t x, ty, pos, after, g⟩ (.agg cs.toArray) :=
  Val.loadPart (n := n) hA hs hx hi (by subst hl; simp) hl
theorem Val.indexArr {t el : TypeId} {len b o n : Nat} {k : IntKind} {j : Int} (q : Nat) (hq : o + j.toNat * n = q) (hu : P.underlying t = some (.array len el)) (hs : ∀ w, (sizeOf el).run P w = .ok n w)
    (hx : ev E x = some (.pointer (some ⟨b, o, none⟩))) (hy : ev E y = some (.int k j)) (h0 : 0 ≤ j) (h1 : j < len) :
    Val P Γ E H ⟨dst, .indexAddr t x y, ty, pos, after, g⟩ (.pointer (some ⟨b, q, none⟩)) := fun a w ha _ => by
  subst hq
  have hadd : (⟨b, o, none⟩ : Addr).add (j.toNat * n) = ⟨b, o + j.toNat * n, none⟩ := by unfold Addr.add; split <;> simp_all
  simp [execOp, ha.eval hx, ha.eval hy, Sem.run_bind, Instr.indexAt, asIntOf, run_underlying hu, Instr.sureAddr, h0, h1, hs, hadd]
theorem Val.indexSl {t el : TypeId} {len c b o n : Nat} {k : IntKind} {j : Int} (q : Nat) (hq : o + j.toNat * n = q) (hu : P.underlying t = some (.slice el)) (hs : ∀ w, (sizeOf el).run P w = .ok n w)
    (hx : ev E x = some (.slice (some ⟨b, o, none⟩) len c)) (hy : ev E y = some (.int k j)) (h0 : 0 ≤ j) (h1 : j < len) :
    Val P Γ E H ⟨dst, .indexAddr t x y, ty, pos, after, g⟩ (.pointer (some ⟨b, q, none⟩)) := fun a w ha _ => by
  subst hq
  have hadd : (⟨b, o, none⟩ : Addr).add (j.toNat * n) = ⟨b, o + j.toNat * n, none⟩ := by unfold Addr.add; split <;> simp_all
  simp [execOp, ha.eval hx, ha.eval hy, Sem.run_bind, Instr.indexAt, asIntOf, run_underlying hu, h0, h1, hs, hadd]
theorem Val.indexStr {t : TypeId} {s : ByteArray} {k : IntKind} {j : Int} {c : UInt8} (hu : P.underlying t = some .string)
    (hx : ev E x = some (.string s)) (hy : ev E y = some (.int k j)) (h0 : 0 ≤ j) (h1 : s[j.toNat]? = some c) :
    Val P Γ E H ⟨dst, .index t x y, ty, pos, after, g⟩ (.int .u8 c.toNat) := fun a w ha _ => by
  simp [execOp, ha.eval hx, ha.eval hy, Sem.run_bind, Instr.index, asIntOf, run_underlying hu, h0, h1]
theorem Val.len {bt : Array TypeId} {t : TypeId} {el : TypeId} {A : Option Addr} {n c : Nat} (hu : P.underlying t = some (.slice el)) (hx : ev E x = some (.slice A n c)) :
    Val P Γ E H ⟨dst, .call { callee := .builtin .len, args := #[x], argTypes := #[t] }, ty, pos, after, g⟩ (.int .i64 n) := fun a w ha _ => by
  simp [execOp, resolve, invoke, builtin, Builtin.len_, ha.eval hx, Sem.run_bind, run_underlying hu, goInt]
theorem Val.lenStr {t : TypeId} {s : ByteArray} (hu : P.underlying t = some .string) (hx : ev E x = some (.string s)) :
    Val P Γ E H ⟨dst, .call { callee := .builtin .len, args := #[x], argTypes := #[t] }, ty, pos, after, g⟩ (.int .i64 s.size) := fun a w ha _ => by
  simp [execOp, resolve, invoke, builtin, Builtin.len_, ha.eval hx, Sem.run_bind, run_underlying hu, goInt]
def Bd (E : Env) (o : Option Operand) (dflt : Nat) (n : Nat) : Prop := match o with | .none => n = dflt | some x => ∃ k : IntKind, ∃ j : Int, ev E x = some (.int k j) ∧ 0 ≤ j ∧ j.toNat = n
theorem run_sliceBounds {E : Env} {a : Act} {n : Nat} {D : List Deferred} (ha : Agrees n D E a) {lo hi : Option Operand} {is : Bool} {len cap l h : Nat} (hl : Bd E lo 0 l) (hh : Bd E hi len h) (h1 : l ≤ h) (h2 : h ≤ cap) (w : World) :
    (Instr.sliceBounds is len cap (lo.map a.eval) (hi.map a.eval) .none).run P w = .ok (l, h, cap) w := by
  have key : ∀ (k : IntKind) (j : Int) (m : Nat) (c : BoundsCode), 0 ≤ j → j.toNat ≤ m → (Instr.sliceBound (.int k j) m c).run P w = .ok j.toNat w := fun k j m c h0 hm => by
    have : j ≤ (m : Int) := by omega
    simp [Instr.sliceBound, asIntOf, Sem.run_bind, h0, this]
  cases lo with
  | none =>
    cases hi with
    | none => simp only [Bd] at hl hh; subst hl; subst hh; simp [Instr.sliceBounds]
    | some y =>
      simp only [Bd] at hl hh
      obtain ⟨k, j, hy, h0, rfl⟩ := hh
      subst hl
      simp [Instr.sliceBounds, Sem.run_bind, ha.eval hy, key k j cap _ h0 h2]
  | some x =>
    obtain ⟨k, j, hx, h0, rfl⟩ := hl
    cases hi with
    | none =>
      simp only [Bd] at hh; subst hh
      simp [Instr.sliceBounds, Sem.run_bind, ha.eval hx, key k j h _ h0 h1]
    | some y =>
      obtain ⟨k', j', hy, h0', rfl⟩ := hh
      simp [Instr.sliceBounds, Sem.run_bind, ha.eval hx, ha.eval hy, key k' j' cap _ h0' h2, key k j _ _ h0 h1]
theorem Val.cutArr {t el : TypeId} {len b o n : Nat} (l h q m c : Nat) {lo hi : Option Operand} (hu : P.underlying t = some (.array len el)) (hs : ∀ w, (sizeOf el).run P w = .ok n w)
    (hx : ev E x = some (.pointer (some ⟨b, o, none⟩))) (hl : Bd E lo 0 l) (hh : Bd E hi len h) (h1 : l ≤ h) (h2 : h ≤ len) (hq : (if len = l then o else o + l * n) = q) (hm : h - l = m) (hc : len - l = c) :
    Val P Γ E H ⟨dst, .slice t x lo hi .none, ty, pos, after, g⟩ (.slice (some ⟨b, q, none⟩) m c) := fun a w ha _ => by
  subst hq hm hc
  have hadd : (⟨b, o, none⟩ : Addr).add (l * n) = ⟨b, o + l * n, none⟩ := by unfold Addr.add; split <;> simp_all
  have hr := run_sliceBounds (P := P) ha (is := false) hl hh h1 h2 w
  simp only [execOp, ha.eval hx, Sem.run_bind, Instr.sliceAt, run_underlying hu, Result.andThen_ok, Instr.sureAddr, Sem.run_pure, Option.map_none, hr, hs, hadd]
  split <;> rfl
theorem Val.cutSl {t el : TypeId} {len c b o n : Nat} (l h q m c' : Nat) {lo hi : Option Operand} (hu : P.underlying t = some (.slice el)) (hs : ∀ w, (sizeOf el).run P w = .ok n w)
    (hx : ev E x = some (.slice (some ⟨b, o, none⟩) len c)) (hl : Bd E lo 0 l) (hh : Bd E hi len h) (h1 : l ≤ h) (h2 : h ≤ c) (hq : (if c = l then o else o + l * n) = q) (hm : h - l = m) (hc : c - l = c') :
    Val P Γ E H ⟨dst, .slice t x lo hi .none, ty, pos, after, g⟩ (.slice (some ⟨b, q, none⟩) m c') := fun a w ha _ => by
  subst hq hm hc
  have hadd : (⟨b, o, none⟩ : Addr).add (l * n) = ⟨b, o + l * n, none⟩ := by unfold Addr.add; split <;> simp_all
  have hr := run_sliceBounds (P := P) ha (is := true) hl hh h1 h2 w
  simp only [execOp, ha.eval hx, Sem.run_bind, Instr.sliceAt, run_underlying hu, Result.andThen_ok, Instr.slice, Sem.run_pure, Option.map_none, hr, hs, hadd]
  split <;> simp [hadd]
theorem Val.build {t : TypeId} {parts : Array (Nat × Operand)} {vs : Array (Nat × Value)} (hp : ∀ a : Act, Agrees Γ.n Γ.D E a → (parts.map fun p => (p.1, a.eval p.2)) = vs)
    (hb : ∀ w, (Instr.build t vs).run P w = .ok v w) : Val P Γ E H ⟨dst, .build t parts, ty, pos, after, g⟩ v := fun a w ha _ => by
  simp only [execOp]
  have := hp a ha
  rw [show (parts.map fun (x : Nat × Operand) => (x.1, a.eval x.2)) = vs from this] at *
  simp [Sem.run_bind, hb]
theorem run_storeAt_cell {t : TypeId} {p : Addr} {w : World} {u : Value} (hs : ∀ w, (sizeOf t).run P w = .ok 1 w) (h1 : v.oneCell' = true) (hu : w.cell? p = some u) (hf : w.frozen? p = false) :
    (Instr.storeAt t (.pointer (some p)) v).run P w = .ok () (w.setCell p v) := by
  have hc : v.cells = #[v] := by cases v <;> simp_all [Value.cells, Value.oneCell']
  have ha : p.add 0 = p := by simp [Addr.add]
  cases v <;> simp_all [Instr.storeAt, Instr.sureAddr, storeVar, Sem.run_bind, storeCells, store, Sem.run, Value.oneCell']
theorem At.store {t : TypeId} {i b o U : Nat} {cs : List Value} (hs : ∀ w, (sizeOf t).run P w = .ok 1 w) (hx : ev E x = some (.pointer (some ⟨b, o, none⟩))) (hy : ev E y = some v) (h1 : v.oneCell' = true)
    (hi : H[i]? = some (blk b U cs)) (ho : o < cs.length) (k : At Γ E (H.set i (blk b U (cs.set o v))) (wpList P ops Q rest)) :
    At Γ E H (wpList P ops Q ({ dst := .none, op := .store t x y, type := ty, pos, after, guard := none } :: rest)) :=
  At.skip rfl rfl fun a w ha hw => by
    have hb := hw.blk hi
    have hr := run_storeAt_cell (P := P) (p := ⟨b, o, none⟩) hs h1 ((hb.cell o).trans (List.getElem?_eq_getElem ho)) (hb.frozen o ho)
    exact ⟨w.setCell ⟨b, o, none⟩ v, _, by simp [execOp, ha.eval hx, ha.eval hy, Sem.run_bind, hr], hw.set hi o v, k⟩
def putAt (cs : List Value) (o : Nat) (vs : List Value) : List Value := cs.take o ++ vs ++ cs.drop (o + vs.length)
theorem storeCells_list {S : Nat → Prop} {w0 : World} {i b U : Nat} : ∀ (vs : List Value) (o j : Nat) (cs : List Value) (H : List Res) (w : World), Rep w0 S H w → H[i]? = some (blk b U cs) → o + j + vs.length ≤ cs.length → (∀ v ∈ vs, v.oneCell' = true) →
    ∃ w', (storeCells ⟨b, o, none⟩ vs j).run P w = .ok () w' ∧ Rep w0 S (H.set i (blk b U (putAt cs (o + j) vs))) w' := by
  intro vs
  induction vs with
  | nil =>
    intro o j cs H w hw hi ho _
    refine ⟨w, by simp [storeCells], ?_⟩
    have e : putAt cs (o + j) [] = cs := by simp [putAt]
    have e2 : H.set i (blk b U cs) = H := by
      apply List.ext_getElem?
      intro q
      rw [List.getElem?_set]
      split
      · rename_i e; subst e
        split
        · rw [hi]
        · rename_i hn; rw [List.getElem?_eq_none (by omega)]
      · rfl
    rw [e, e2]; exact hw
  | cons v vs ih =>
    intro o j cs H w hw hi ho h1
    simp only [List.length_cons] at ho
    have hb := hw.blk hi
    have hadd : (⟨b, o, none⟩ : Addr).add j = ⟨b, o + j, none⟩ := by unfold Addr.add; split <;> simp_all
    have hlt : o + j < cs.length := by omega
    have hc := (hb.cell (o + j)).trans (List.getElem?_eq_getElem hlt)
    have hf := hb.frozen (o + j) hlt
    have hset := hw.set hi (o + j) v
    have hi' : (H.set i (blk b U (cs.set (o + j) v)))[i]? = some (blk b U (cs.set (o + j) v)) := by
      rw [List.getElem?_set]; simp; exact (List.getElem?_eq_some_iff.1 hi).1
    obtain ⟨w', hr, hw'⟩ := ih o (j + 1) _ _ _ hset hi' (by simp; omega) (fun u hu => h1 u (List.mem_cons_of_mem _ hu))
    refine ⟨w', ?_, ?_⟩
    · have h1v := h1 v (List.mem_cons_self ..)
      simp only [storeCells, Sem.run_bind, hadd]
      have : (store ⟨b, o + j, none⟩ v).run P w = .ok () (w.setCell ⟨b, o + j, none⟩ v) := by
        cases v <;> simp_all [store, Sem.run, Value.oneCell']
      rw [this, Result.andThen_ok, hr]
    · rw [List.set_set] at hw'
      have e : putAt (cs.set (o + j) v) (o + (j + 1)) vs = putAt cs (o + j) (v :: vs) := by
        unfold putAt
        apply List.ext_getElem?
        intro q
        simp only [List.append_assoc, List.getElem?_append, List.length_take, List.length_set, List.getElem?_take, List.getElem?_set, List.getElem?_drop, List.length_cons, List.getElem?_cons]
        by_cases hq : q < o + j
        · simp [show q < min (o + (j + 1)) cs.length by omega, show q < min (o + j) cs.length by omega, hq, show q < o + (j + 1) by omega, show ¬ (o + j = q) by omega]
        · by_cases hq2 : q = o + j
          · subst hq2
            simp [show o + j < min (o + (j + 1)) cs.length by omega, show ¬ (o + j < min (o + j) cs.length) by omega, show o + j < o + (j + 1) by omega, hlt, show o + j - min (o + j) cs.length = 0 by omega]
          · obtain ⟨r, rfl⟩ : ∃ r, q = o + j + 1 + r := ⟨q - (o + j + 1), by omega⟩
            have e1 : ¬ o + j + 1 + r < min (o + (j + 1)) cs.length := by omega
            have e2 : ¬ o + j + 1 + r < min (o + j) cs.length := by omega
            have e3 : min (o + (j + 1)) cs.length = o + j + 1 := by omega
            have e4 : min (o + j) cs.length = o + j := by omega
            have e5 : o + j + 1 + r - (o + j) = r + 1 := by omega
            have e6 : o + j + 1 + r - (o + j + 1) = r := by omega
            simp only [e1, e2, e3, e4, e5, e6, if_false]
            have e7 : ¬ o + j + 1 + r < o + j + 1 := by omega
            have e8 : r + 1 ≠ 0 := by omega
            have e9 : ¬ o + j + 1 + r < o + (j + 1) := by omega
            by_cases hq3 : r < vs.length
            · simp [hq, hq2, hq3, e7, e8, e9]
            · have e10 : o + (j + 1) + vs.length + (r - vs.length) = o + j + (vs.length + 1) + (r - vs.length) := by omega
              simp [hq, hq2, hq3, e7, e8, e9, e10]
              intro h; omega
      rw [e] at hw'
      exact hw'
theorem At.storePart {t : TypeId} {i b o n U : Nat} {cs vs : List Value} (hs : ∀ w, (sizeOf t).run P w = .ok n w) (hx : ev E x = some (.pointer (some ⟨b, o, none⟩))) (hy : ev E y = some (.agg vs.toArray)) (hl : vs.length = n)
    (h1 : ∀ v ∈ vs, v.oneCell' = true) (hi : H[i]? = some (blk b U cs)) (ho : o + n ≤ cs.length) (k : At Γ E (H.set i (blk b U (putAt cs o vs))) (wpList P ops Q rest)) :
    At Γ E H (wpList P ops Q ({ dst := .none, op := .store t x y, type := ty, pos, after, guard := none } :: rest)) :=
  At.skip rfl rfl fun a w ha hw => by
    obtain ⟨w', hr, hw'⟩ := storeCells_list (P := P) vs o 0 cs H w hw hi (by omega) h1
    refine ⟨w', _, ?_, hw', k⟩
    simp [execOp, ha.eval hx, ha.eval hy, Sem.run_bind, Instr.storeAt, Instr.sureAddr, storeVar, hs, Value.cells, hl, hr]
theorem At.storeAll {t : TypeId} {i b n U : Nat} {cs vs : List Value} (hs : ∀ w, (sizeOf t).run P w = .ok n w) (hx : ev E x = some (.pointer (some ⟨b, 0, none⟩))) (hy : ev E y = some (.agg vs.toArray)) (hl : vs.length = n)
    (h1 : ∀ v ∈ vs, v.oneCell' = true) (hi : H[i]? = some (blk b U cs)) (ho : cs.length = n) (k : At Γ E (H.set i (blk b U vs)) (wpList P ops Q rest)) :
    At Γ E H (wpList P ops Q ({ dst := .none, op := .store t x y, type := ty, pos, after, guard := none } :: rest)) := by
  have e : putAt cs 0 vs = vs := by simp [putAt]; omega
  exact At.storePart (n := n) hs hx hy hl h1 hi (by omega) (by rw [e]; exact k)
theorem At.alloc {t : TypeId} {z : Value} {zs : List Value} (hz : ∀ w, (zeroValue t).run P w = .ok z w) (hc : z.cells = zs.toArray) (hn : Nat.blt d Γ.n = true)
    (k : ∀ b, At Γ ((d, .pointer (some ⟨b, 0, none⟩)) :: E) (blk b t zs :: H) (wpList P ops Q rest)) :
    At Γ E H (wpList P ops Q ({ dst := some d, op := .alloc t, type := ty, pos, after, guard := none } :: rest)) :=
  At.run rfl rfl hn fun a w ha hw => ⟨_, w.alloc (.cells zs.toArray t), _, by simp [execOp, Instr.alloc, Sem.run_bind, hz, newVar, newRow, newObj, Sem.run, hc], hw.alloc t zs, k _⟩
theorem At.box {t : TypeId} {vs : List Value} (hx : ev E x = some v) (hc : v.cells = vs.toArray) (hn : Nat.blt d Γ.n = true)
    (k : ∀ b, At Γ ((d, .pointer (some ⟨b, 0, none⟩)) :: E) (blk b t vs :: H) (wpList P ops Q rest)) :
    At Γ E H (wpList P ops Q ({ dst := some d, op := .box t x, type := ty, pos, after, guard := none } :: rest)) :=
  At.run rfl rfl hn fun a w ha hw => ⟨_, w.alloc (.cells vs.toArray t), _, by simp [execOp, Instr.box, Sem.run_bind, ha.eval hx, newVar, newRow, newObj, Sem.run, hc], hw.alloc t vs, k _⟩
end
end Go.Wk
namespace Go.Wk
open Go
section
variable {P : Program} {Γ : Ctx} {E : Env} {H : List Res} {ops : Array Oper} {Q : Exit → Act → World → Prop} {rest : List Oper} {K : Act → World → Prop}
  {d : Nat} {ty : TypeId} {pos : String} {after : Array Edge} {v u : Value}
theorem At.seq {x y : Code} (k : At Γ E H (x.wp P (Exit.then (y.wp P Q) Q))) : At Γ E H ((Code.seq x y).wp P Q) := fun a w ha hw => wp_seq (k a w ha hw)
theorem At.region {id : Nat} {l : List Oper} (k : At Γ E H (wpList P l.toArray Q l)) : At Γ E H ((Code.region id l.toArray false).wp P Q) := fun a w ha hw => wp_region_lit (k a w ha hw)
theorem At.block {id : Nat} {c : Code} (k : At Γ E H (c.wp P (Exit.inBlock id Q))) : At Γ E H ((Code.block id c).wp P Q) := fun a w ha hw => wp_block (k a w ha hw)
theorem At.skipC (k : At Γ E H (Q .normal)) : At Γ E H (Code.skip.wp P Q) := fun a w ha hw => wp_skip (k a w ha hw)
theorem At.retC (k : At Γ E H (Q .ret)) : At Γ E H (Code.ret.wp P Q) := fun a w ha hw => wp_ret (k a w ha hw)
theorem At.exitC {id : Nat} (k : At Γ E H (Q (.exit id))) : At Γ E H ((Code.exit id).wp P Q) := fun a w ha hw => wp_exit (k a w ha hw)
theorem At.condT {c : Operand} {x y : Code} (hc : ev E c = some (.bool true)) (k : At Γ E H (x.wp P Q)) : At Γ E H ((Code.cond c x y).wp P Q) := fun a w ha hw => wp_cond_true (ha.eval hc) (k a w ha hw)
theorem At.condF {c : Operand} {x y : Code} (hc : ev E c = some (.bool false)) (k : At Γ E H (y.wp P Q)) : At Γ E H ((Code.cond c x y).wp P Q) := fun a w ha hw => wp_cond_false (ha.eval hc) (k a w ha hw)
theorem At.cond {c : Operand} {x y : Code} {b : Bool} (hc : ev E c = some (.bool b)) (k1 : b = true → At Γ E H (x.wp P Q)) (k2 : b = false → At Γ E H (y.wp P Q)) : At Γ E H ((Code.cond c x y).wp P Q) := by
  cases b
  · exact At.condF hc (k2 rfl)
  · exact At.condT hc (k1 rfl)
theorem At.thenN (k : At Γ E H K) : At Γ E H (Exit.then K Q .normal) := k
theorem At.thenR (k : At Γ E H (Q .ret)) : At Γ E H (Exit.then K Q .ret) := k
theorem At.thenX {id : Nat} (k : At Γ E H (Q (.exit id))) : At Γ E H (Exit.then K Q (.exit id)) := k
theorem At.blkN {id : Nat} (k : At Γ E H (Q .normal)) : At Γ E H (Exit.inBlock id Q .normal) := k
theorem At.blkR {id : Nat} (k : At Γ E H (Q .ret)) : At Γ E H (Exit.inBlock id Q .ret) := k
theorem At.blkX {id : Nat} (k : At Γ E H (Q .normal)) : At Γ E H (Exit.inBlock id Q (.exit id)) := fun a w ha hw => by
  have := k a w ha hw
  simpa [Exit.inBlock] using this
def Inv (Γ : Ctx) {σ : Type} (inv : σ → Prop) (I : σ → Env) (J : σ → List Res) (m : σ → Nat) (n : Nat) (a : Act) (w : World) : Prop := ∃ s, inv s ∧ m s = n ∧ Agrees Γ.n Γ.D (I s) a ∧ Rep Γ.w0 Γ.S (J s) w
theorem At.loop {σ : Type} (inv : σ → Prop) (I : σ → Env) (J : σ → List Res) (m : σ → Nat) {c : Code} (s0 : σ) (h0 : inv s0) (hE : Sub E (I s0)) (hH : H.Perm (J s0))
    (round : ∀ s, inv s → At Γ (I s) (J s) (c.wp P (Exit.then (fun a w => ∃ n', n' < m s ∧ Inv Γ inv I J m n' a w) Q))) : At Γ E H ((Code.loop c).wp P Q) := fun a w ha hw =>
  wp_loop_ghost (Inv Γ inv I J m) (m s0) ⟨s0, h0, rfl, ha.weaken hE, hw.perm hH⟩ fun n a w ⟨s, hs, hm, ha, hw⟩ => by
    subst hm
    exact round s hs a w ha hw
theorem At.again {σ : Type} {inv : σ → Prop} {I : σ → Env} {J : σ → List Res} {m : σ → Nat} {n : Nat} (s' : σ) (h : inv s') (hm : m s' < n) (hE : Sub E (I s')) (hH : H.Perm (J s')) :
    At Γ E H (fun a w => ∃ n', n' < n ∧ Inv Γ inv I J m n' a w) := fun a w ha hw => ⟨m s', hm, s', h, rfl, ha.weaken hE, hw.perm hH⟩
def evs (E : Env) : List Operand → Option (List Value)
  | [] => some []
  | x :: l => match ev E x, evs E l with | some v, some vs => some (v :: vs) | _, _ => none
theorem Agrees.evals {n D E} {a : Act} (h : Agrees n D E a) : ∀ {l : List Operand} {vs : List Value}, evs E l = some vs → l.map a.eval = vs
  | [], vs, hv => by simp [evs] at hv; simp [hv]
  | x :: l, vs, hv => by
    simp only [evs] at hv
    split at hv
    · rename_i v us h1 h2
      simp at hv
      subst hv
      simp [h.eval h1, h.evals h2]
    · simp at hv
theorem run_call {n : Nat} {D : List Deferred} {E : Env} {a : Act} (ha : Agrees n D E a) {f : FuncId} {l : List Operand} {vs : List Value} {dst : Option Tmp} {at_ : Array TypeId} {g : Option (Nat × Bool)}
    (hc : ∀ args w, (callFunc f args).run P w = .ok (.enter f args) w) (hv : evs E l = some vs) (w : World) :
    (execOp a.eval ⟨dst, .call { callee := .value (.func f), args := l.toArray, argTypes := at_ }, ty, pos, after, g⟩).run P w = .ok (.enter f vs.toArray) w := by
  have := ha.evals hv
  simp [execOp, resolve, Act.eval, Deferred.ofValue, invoke, Sem.run_bind, this, hc]
theorem At.call {f : FuncId} {l : List Operand} {vs : List Value} {at_ : Array TypeId} (hc : ∀ args w, (callFunc f args).run P w = .ok (.enter f args) w) (hv : evs E l = some vs) (hn : Nat.blt d Γ.n = true)
    (h : ∀ w, Rep Γ.w0 Γ.S H w → Calls P f vs.toArray w fun e w' => ∃ v H', e = .returned v ∧ Rep Γ.w0 Γ.S H' w' ∧ At Γ ((d, v) :: E) H' (wpList P ops Q rest)) :
    At Γ E H (wpList P ops Q ({ dst := some d, op := .call { callee := .value (.func f), args := l.toArray, argTypes := at_ }, type := ty, pos, after, guard := none } :: rest)) := fun a w ha hw => by
  refine wpList_plain rfl fun K hK => ?_
  unfold Oper.wp
  rw [run_call ha hc hv w, Oper.upon_enter]
  refine (h w hw).mono ?_
  rintro e w' ⟨v, H', rfl, hw', k⟩
  exact hK _ _ (k _ _ (ha.put d v hn) hw')
def PureC (P : Program) (f : FuncId) (vs : List Value) (v : Value) (w : World) : Prop := Calls P f vs.toArray w fun e w' => e = .returned v ∧ Mod (fun _ => False) w w'
theorem Rep.garbage {w0 S H w w'} (h : Rep w0 S H w) (hm : Mod (fun _ => False) w w') : Rep w0 S H w' :=
  h.mono ⟨by simp, by simp, by simp, hm.mono fun b hb => hb.elim⟩
theorem At.callP {f : FuncId} {l : List Operand} {vs : List Value} {at_ : Array TypeId} (h : ∀ w, Rep Γ.w0 Γ.S H w → PureC P f vs v w) (hc : ∀ args w, (callFunc f args).run P w = .ok (.enter f args) w) (hv : evs E l = some vs) (hn : Nat.blt d Γ.n = true)
    (k : At Γ ((d, v) :: E) H (wpList P ops Q rest)) :
    At Γ E H (wpList P ops Q ({ dst := some d, op := .call { callee := .value (.func f), args := l.toArray, argTypes := at_ }, type := ty, pos, after, guard := none } :: rest)) :=
  At.call hc hv hn fun w hw => (h w hw).mono fun e w' ⟨he, hm⟩ => ⟨v, H, he, hw.garbage hm, k⟩
def Upd (P : Program) (f : FuncId) (vs : List Value) (r : Res) (v : Value) (r' : Res) (w : World) : Prop := Calls P f vs.toArray w fun e w' => e = .returned v ∧ Rep w (feet [r]) [r'] w'
theorem At.call1 (i : Nat) {r r' : Res} {f : FuncId} {l : List Operand} {vs : List Value} {at_ : Array TypeId} (hi : H[i]? = some r) (h : ∀ w, Rep Γ.w0 Γ.S H w → r.holds w → Upd P f vs r v r' w) (hc : ∀ args w, (callFunc f args).run P w = .ok (.enter f args) w) (hv : evs E l = some vs) (hn : Nat.blt d Γ.n = true)
    (k : At Γ ((d, v) :: E) (H.set i r') (wpList P ops Q rest)) :
    At Γ E H (wpList P ops Q ({ dst := some d, op := .call { callee := .value (.func f), args := l.toArray, argTypes := at_ }, type := ty, pos, after, guard := none } :: rest)) :=
  At.call hc hv hn fun w hw => (h w hw (hw.all _ (List.mem_of_getElem? hi))).mono fun e w' ⟨he, hr⟩ => ⟨v, _, he, Rep.frame1 (X := []) hi hw hr, k⟩
def envOf : Nat → List Value → Env
  | _, [] => []
  | i, v :: vs => (i, v) :: envOf (i + 1) vs
theorem look_envOf : ∀ (vs : List Value) (i t : Nat) (v : Value), look (envOf i vs) t = some v → i ≤ t ∧ vs[t - i]? = some v
  | [], i, t, v, h => by simp [envOf, look] at h
  | x :: vs, i, t, v, h => by
    simp only [envOf, look] at h
    by_cases e : i = t
    · subst e
      simp only [Nat.beq_refl] at h
      exact ⟨Nat.le_refl _, by simpa using h⟩
    · have hb : Nat.beq i t = false := Bool.eq_false_iff.2 fun h => e (Nat.eq_of_beq_eq_true h)
      rw [hb] at h
      obtain ⟨h1, h2⟩ := look_envOf vs (i + 1) t v h
      refine ⟨by omega, ?_⟩
      rw [show t - i = (t - (i + 1)) + 1 by omega]
      simpa using h2
theorem Rep.start {H : List Res} {w : World} (hs : H.Pairwise Apart) (ha : ∀ r ∈ H, r.holds w) : Rep w (feet H) H w :=
  ⟨hs, ha, fun r hr b hb => .inr ⟨r, hr, hb⟩, Mod.refl _ _⟩
theorem enter {f : FuncId} {fn : Func} {c : Code} {vs : List Value} {w : World} {R : Ending → World → Prop} {n : Nat} (S : Nat → Prop) (H : List Res) (hf : P.funcs[f]? = some fn) (hb : fn.body = some c) (hn : fn.ntmps = n) (hl : Nat.ble vs.length n = true)
    (hw : Rep w S H w) (k : At ⟨w, S, n, []⟩ (envOf 0 vs) H (c.wp P (bodyPost P fn R))) : Calls P f vs.toArray w R := by
  refine calls_of_wp hf hb (k _ _ ⟨?_, rfl, fun t v ht => ?_⟩ hw)
  · have : vs.length ≤ n := by simpa using hl
    simp [hn]; omega
  · obtain ⟨_, h2⟩ := look_envOf vs 0 t v ht
    simp only [Nat.sub_zero] at h2
    have : t < vs.length := (List.getElem?_eq_some_iff.1 h2).1
    simp [Array.getElem?_append, this]
    simpa [this] using h2
theorem enter0 {f : FuncId} {fn : Func} {c : Code} {vs : List Value} {w : World} {R : Ending → World → Prop} {n : Nat} (hf : P.funcs[f]? = some fn) (hb : fn.body = some c) (hn : fn.ntmps = n) (hl : Nat.ble vs.length n = true)
    (k : At ⟨w, fun _ => False, n, []⟩ (envOf 0 vs) [] (c.wp P (bodyPost P fn R))) : Calls P f vs.toArray w R :=
  enter (fun _ => False) [] hf hb hn hl ⟨by simp, by simp, by simp, Mod.refl _ _⟩ k
def ResOf (P : Program) (Γ : Ctx) (E : Env) (H : List Res) : ResultVar → Value → Prop
  | .tmp t, v => look E t = some v
  | .cell p T, v => ∃ a, look E p = some (.pointer (some a)) ∧ ∀ w, Rep Γ.w0 Γ.S H w → (loadVar T a).run P w = .ok v w
theorem ResOf.all {p T i b n U : Nat} {cs : List Value} (hA : ∀ w, (isAgg T).run P w = .ok true w) (hs : ∀ w, (sizeOf T).run P w = .ok n w) (hx : look E p = some (.pointer (some ⟨b, 0, none⟩)))
    (hi : H[i]? = some (blk b U cs)) (hl : cs.length = n) : ResOf P Γ E H (.cell p T) (.agg cs.toArray) := ⟨_, hx, fun w hw => by
  have := run_loadAt_part (P := P) hA hs (hw.blk hi) (show 0 + n ≤ cs.length by omega)
  simp only [Instr.loadAt, Instr.sureAddr, Sem.run_bind, Sem.run_pure, Result.andThen_ok] at this
  rw [this, List.drop_zero, ← hl, List.take_length]⟩
theorem ResOf.one {p T i b U : Nat} {cs : List Value} (hA : ∀ w, (isAgg T).run P w = .ok false w) (hx : look E p = some (.pointer (some ⟨b, 0, none⟩)))
    (hi : H[i]? = some (blk b U cs)) (hv : cs[0]? = some v) : ResOf P Γ E H (.cell p T) v := ⟨_, hx, fun w hw => by
  have := run_loadAt_cell (P := P) hA (((hw.blk hi).cell 0).trans hv)
  simpa only [Instr.loadAt, Instr.sureAddr, Sem.run_bind, Sem.run_pure, Result.andThen_ok] using this⟩
def ResAt (P : Program) (tmps : Array Value) (w : World) : ResultVar → Value → Prop
  | .tmp t, v => tmps[t]?.getD undef = v
  | .cell p T, v => ∃ a, tmps[p]?.getD undef = .pointer (some a) ∧ (loadVar T a).run P w = .ok v w
theorem resOne_run {r : ResultVar} (h : ResOf P Γ E H r v) {a : Act} {w : World} (ha : Agrees Γ.n Γ.D E a) (hw : Rep Γ.w0 Γ.S H w) : ResAt P a.tmps w r v := by
  cases r with
  | tmp t => have := ha.get t v h; simp [ResAt, this]
  | cell p T =>
    obtain ⟨ad, h1, h2⟩ := h
    exact ⟨ad, by simp [ha.get p _ h1], h2 w hw⟩
theorem results_one {fn : Func} {r : ResultVar} (hr : fn.results = #[r]) (tmps : Array Value) (w : World) (h : ResAt P tmps w r v) : (results fn tmps).run P w = .ok v w := by
  cases r with
  | tmp t => simp only [ResAt] at h; simp [results, hr, h]
  | cell p T => obtain ⟨a, h1, h2⟩ := h; simp [results, hr, h1, h2, asAddr, Sem.run_bind]
theorem results_two {fn : Func} {r s : ResultVar} (hr : fn.results = #[r, s]) (tmps : Array Value) (w : World) (h : ResAt P tmps w r v) (h' : ResAt P tmps w s u) :
    (results fn tmps).run P w = .ok (.tuple #[v, u]) w := by
  cases r with
  | tmp t =>
    simp only [ResAt] at h
    cases s with
    | tmp t' => simp only [ResAt] at h'; simp [results, hr, h, h']
    | cell p T => obtain ⟨a, h1, h2⟩ := h'; simp [results, hr, h, h1, h2, asAddr, Sem.run_bind]
  | cell p T =>
    obtain ⟨a, h1, h2⟩ := h
    cases s with
    | tmp t' => simp only [ResAt] at h'; simp [results, hr, h1, h2, h', asAddr, Sem.run_bind]
    | cell p' T' => obtain ⟨a', h1', h2'⟩ := h'; simp [results, hr, h1, h2, h1', h2', asAddr, Sem.run_bind]
theorem At.ret0 {fn : Func} {R : Ending → World → Prop} {e : Exit} (he : e = .ret ∨ e = .normal) (hr : fn.results = #[]) (hD : Γ.D = []) (k : ∀ w, Rep Γ.w0 Γ.S H w → R (.returned (.tuple #[])) w) : At Γ E H (bodyPost P fn R e) := fun a w ha hw => by
  have : a.defers = [] ∧ ∃ v, (results fn a.tmps).run P w = .ok v w ∧ R (.returned v) w := ⟨ha.defers.trans hD, _, results_none hr _ _ _, k w hw⟩
  rcases he with rfl | rfl <;> exact this
theorem At.ret1 {fn : Func} {R : Ending → World → Prop} {e : Exit} {r : ResultVar} (he : e = .ret ∨ e = .normal) (hr : fn.results = #[r]) (hD : Γ.D = []) (h : ResOf P Γ E H r v) (k : ∀ w, Rep Γ.w0 Γ.S H w → R (.returned v) w) : At Γ E H (bodyPost P fn R e) := fun a w ha hw => by
  have : a.defers = [] ∧ ∃ v, (results fn a.tmps).run P w = .ok v w ∧ R (.returned v) w := ⟨ha.defers.trans hD, v, results_one hr _ _ (resOne_run h ha hw), k w hw⟩
  rcases he with rfl | rfl <;> exact this
theorem At.ret2 {fn : Func} {R : Ending → World → Prop} {e : Exit} {r s : ResultVar} (he : e = .ret ∨ e = .normal) (hr : fn.results = #[r, s]) (hD : Γ.D = []) (h : ResOf P Γ E H r v) (h' : ResOf P Γ E H s u) (k : ∀ w, Rep Γ.w0 Γ.S H w → R (.returned (.tuple #[v, u])) w) : At Γ E H (bodyPost P fn R e) := fun a w ha hw => by
  have : a.defers = [] ∧ ∃ v, (results fn a.tmps).run P w = .ok v w ∧ R (.returned v) w := ⟨ha.defers.trans hD, _, results_two hr _ _ (resOne_run h ha hw) (resOne_run h' ha hw), k w hw⟩
  rcases he with rfl | rfl <;> exact this
end
end Go.Wk
namespace Go
section
variable {P : Program} {ops : Array Oper} {md : Region.Mode} {C : World → Prop}
def wpAnyLC (P : Program) (md : Region.Mode) (ops : Array Oper) (C : World → Prop) (n : Nat) (L : Array Bool → Act → Prop) : Nat → Array Bool → Act → Prop
  | 0, listed, a => L listed a
  | f + 1, listed, a =>
    Region.ready md ops listed ≠ [] ∧ ∀ i ∈ Region.ready md ops listed, i < n ∧ qOp P ops C i (wpAnyLC P md ops C n L f (listed.setIfInBounds i true)) a
theorem wpAny_of_headC {n g : Nat} {L : Array Bool → Act → Prop} {Q' : Exit → Act → World → Prop} (hL : ∀ listed a w, C w → L listed a → wpAny P md ops Q' g listed a w) :
    ∀ (f : Nat) (listed : Array Bool) (a : Act) (w : World), C w → wpAnyLC P md ops C n L f listed a → wpAny P md ops Q' (f + g) listed a w
  | 0, listed, a, w, hw, h => by rw [Nat.zero_add]; exact hL _ _ _ hw h
  | f + 1, listed, a, w, hw, h => by
    rw [show f + 1 + g = (f + g) + 1 by omega]
    exact ⟨fun h0 => absurd h0 h.1, fun i hi => wpOp_of_qOp hw (fun a' w' hw' h' => wpAny_of_headC hL f _ a' w' hw' h') (h.2 i hi).2⟩
theorem wpAnyLC_first {n i : Nat} {oi : Oper} {v : Value} {L : Array Bool → Act → Prop} (hi : ops[i]? = some oi) (hsel : ∀ (j : Nat) (o : Oper) cs b, ops[j]? = some o → o.op ≠ .select cs b)
    (hs : Region.sinkB md ops n = true) (hc : Region.chainB md ops n = true) (hn : n < ops.size) (hin : i < n)
    (hdone : ∀ listed a, L listed a → ∀ j ∈ Region.ready md ops listed, n ≤ j) :
    ∀ (f : Nat) (listed : Array Bool) (a : Act), HeadInv md ops n listed →
      (∀ j oj, ops[j]? = some oj → j ≠ i → listed.getD j true = false → (∀ e ∈ oj.after, Region.binds md e = true → e.on ≠ i) → oi.apart ops oj = true) →
      i ∈ Region.ready md ops listed → YieldsIn P ops C oi v a →
      wpAnyLC P md ops C n L f (listed.setIfInBounds i true) (a.put oi.dst v) → wpAnyLC P md ops C n L (f + 1) listed a := by
  intro f
  induction f with
  | zero =>
    intro listed a inv _ hr hy H
    have hun := (mem_ready.1 hr).1
    refine ⟨fun h => (by rw [h] at hr; cases hr), fun j hj => ?_⟩
    have hjn : j < n := by
      rcases Nat.lt_or_ge j n with h | h
      · exact h
      · exact absurd hj (tail_waits hs hc hn inv _ i rfl hin hun j h)
    refine ⟨hjn, ?_⟩
    by_cases hji : j = i
    · subst hji; exact hy.qOp hi H
    · have := hdone _ _ H j (ready_mono hj hji)
      omega
  | succ f ih =>
    intro listed a inv hfree hr hy H
    have hun := (mem_ready.1 hr).1
    refine ⟨fun h => (by rw [h] at hr; cases hr), fun j hj => ?_⟩
    have hjn : j < n := by
      rcases Nat.lt_or_ge j n with h | h
      · exact h
      · exact absurd hj (tail_waits hs hc hn inv _ i rfl hin hun j h)
    refine ⟨hjn, ?_⟩
    by_cases hji : j = i
    · subst hji; exact hy.qOp hi H
    · have h1 := (H.2 j (ready_mono hj hji)).2
      obtain ⟨hjun, oj, hoj, hall⟩ := mem_ready.1 hj
      have hnot : ∀ e ∈ oj.after, Region.binds md e = true → e.on ≠ i := fun e he hb heq => by
        have h1 := hall e he hb
        rw [heq, getD_both hun] at h1
        cases h1
      have h2 := qOp_put hoj (hfree j oj hoj hji hjun hnot) (fun cs b => hsel i oi cs b hi) (fun cs b => hsel j oj cs b hoj) hy h1
      have hfree' : ∀ k ok, ops[k]? = some ok → k ≠ i → (listed.setIfInBounds j true).getD k true = false →
          (∀ e ∈ ok.after, Region.binds md e = true → e.on ≠ i) → oi.apart ops ok = true := fun k ok hk hki hun hno => by
        refine hfree k ok hk hki ?_ hno
        by_cases hjk : j = k
        · subst hjk; exact hjun
        · rw [getD_set_ne true hjk] at hun; exact hun
      refine qOp_mono (fun a' h3 => ih (listed.setIfInBounds j true) a' (inv.set hj hjn) hfree' (ready_mono hr (Ne.symm hji)) h3.1 ?_) h2
      rw [Array.setIfInBounds_comm _ _ hji]
      exact h3.2
theorem wpAnyLC_lex {n g : Nat} {Lq : Act → Prop} (hsel : Region.noSelect ops = true) (hs : Region.sinkB md ops n = true) (hc : Region.chainB md ops n = true) (hn : n < ops.size) :
    ∀ (l : List Oper) (k : Nat) (listed : Array Bool) (a : Act), (∀ j, j < l.length → l[j]? = ops[k + j]?) → k + l.length = n → HeadInv md ops n listed →
    Region.lexHead md ops g l.length k listed = true → wpQuiet P ops C Lq l a →
    wpAnyLC P md ops C n (fun listed' a' => Region.seqB md ops g n listed' = true ∧ Lq a') l.length listed a
  | [], k, listed, a, _, hk, _, hB, h => by
    have : k = n := by simpa using hk
    subst this
    exact ⟨by simpa [Region.lexHead] using hB, h⟩
  | o :: l, k, listed, a, hl, hk, inv, hB, h => by
    have h0 : ops[k]? = some o := by simpa using (hl 0 (by simp)).symm
    simp only [List.length_cons, Region.lexHead, Bool.and_eq_true] at hB
    obtain ⟨⟨hr, hf⟩, hB'⟩ := hB
    have hkn : k < n := by simp only [List.length_cons] at hk; omega
    have hr' : k ∈ Region.ready md ops listed := by simpa using hr
    have hst : qOp P ops C k (wpQuiet P ops C Lq l) a := by unfold qOp; simp only [h0]; exact h
    obtain ⟨v, hy, hK⟩ := yieldsIn_of_qOp h0 hst
    exact wpAnyLC_first h0 (Region.noSelect_spec hsel) hs hc hn hkn (fun listed' a' hL => seqB_ready hL.1) l.length listed a inv (Region.free_spec h0 hf) hr' hy
      (wpAnyLC_lex hsel hs hc hn l (k + 1) _ _ (fun j hj => by have := hl (j + 1) (by simp; omega); simpa [Nat.add_assoc, Nat.add_comm 1 j] using this) (by simp only [List.length_cons] at hk; omega) (inv.set hr' hkn) hB' hK)
theorem wp_region_quiet_tail {id : Nat} {Q : Exit → Act → World → Prop} {a : Act} {w : World} {l : List Oper} (n : Nat) (hm : P.follows .mixedOrders = true) (hB : Region.lexTailB .any l.toArray n = true) (hC : C { w with drawn := w.drawn + 1 })
    (h : wpQuiet P l.toArray C (fun a' => ∀ w', C w' → wpList P l.toArray Q (l.drop n) a' w') (l.take n) a) : (Code.region id l.toArray true).wp P Q a w := by
  simp only [Region.lexTailB, Bool.and_eq_true, decide_eq_true_eq] at hB
  obtain ⟨⟨⟨⟨hsel, hn⟩, hs⟩, hc⟩, hlex⟩ := hB
  have hn' : n < l.length := by simpa using hn
  have htl : (l.take n).length = n := by simp; omega
  have hdl : (l.drop n).length = l.toArray.size - n := by simp
  have inv0 : HeadInv .any l.toArray n (Array.replicate l.toArray.size false) :=
    ⟨by simp, fun j oj _ hl => (by rw [getD_replicate_false] at hl; cases hl), fun t _ ht => getD_in (by simpa using ht) (getD_replicate_false _ _)⟩
  have H := wpAnyLC_lex (C := C) (md := .any) (g := l.toArray.size - n) hsel hs hc hn (l.take n) 0 _ a (fun j hj => by
    have hj' : j < n := by rw [htl] at hj; exact hj
    simp [hj']) (by simpa using htl) inv0 (by rw [htl]; exact hlex) h
  refine wp_region_any hm ?_
  have := wpAny_of_headC (Q' := Q) (g := l.toArray.size - n) (fun listed a' w' hw' hL => by
    have := wpAny_of_seq (md := .any) (Q' := Q) (l.drop n) n listed a' w' (fun j => by simp [List.getElem?_drop]) (by rw [hdl]; exact hL.1) (hL.2 w' hw')
    rwa [hdl] at this) _ _ _ _ hC H
  rw [htl, show n + (l.toArray.size - n) = l.toArray.size by omega] at this
  exact this
end
namespace Wk
section
variable {P : Program} {Γ : Ctx} {E : Env} {H : List Res} {ops : Array Oper} {Q : Exit → Act → World → Prop} {rest : List Oper} {o : Oper} {ψ : Act → Prop}
  {d : Nat} {ty : TypeId} {pos : String} {after : Array Edge} {v u : Value}
def QAt (P : Program) (Γ : Ctx) (ops : Array Oper) (E : Env) (H : List Res) (l : List Oper) (ψ : Act → Prop) : Prop := ∀ a, Agrees Γ.n Γ.D E a → wpQuiet P ops (Rep Γ.w0 Γ.S H) ψ l a
theorem At.quiet {id : Nat} {l : List Oper} (hm : P.follows .mixedOrders = true) (hB : Region.lexB .any l.toArray = true)
    (k : QAt P Γ l.toArray E H l (fun a' => ∀ w', Rep Γ.w0 Γ.S H w' → Q .normal a' w')) : At Γ E H ((Code.region id l.toArray true).wp P Q) := fun a w ha hw =>
  wp_region_quiet (C := Rep Γ.w0 Γ.S H) hm hB hw.drew (by simpa using k a ha)
theorem At.tail {id : Nat} {l : List Oper} (n : Nat) (hm : P.follows .mixedOrders = true) (hB : Region.lexTailB .any l.toArray n = true)
    (k : QAt P Γ l.toArray E H (l.take n) (fun a' => ∀ w', Rep Γ.w0 Γ.S H w' → wpList P l.toArray Q (l.drop n) a' w')) : At Γ E H ((Code.region id l.toArray true).wp P Q) := fun a w ha hw =>
  wp_region_quiet_tail (C := Rep Γ.w0 Γ.S H) n hm hB hw.drew (k a ha)
theorem QAt.fin {φ : Act → World → Prop} (k : At Γ E H φ) : QAt P Γ ops E H [] (fun a' => ∀ w', Rep Γ.w0 Γ.S H w' → φ a' w') := fun a ha w' hw' => k a w' ha hw'
theorem QAt.val (h : Val P Γ E H o v) (hg : o.guard = none) (hd : o.dst = some d) (hn : Nat.blt d Γ.n = true) (k : QAt P Γ ops ((d, v) :: E) H rest ψ) : QAt P Γ ops E H (o :: rest) ψ := fun a ha => by
  unfold wpQuiet
  rw [if_pos (by simp [Region.wanted, hg])]
  refine ⟨v, fun w hw => ?_, ?_⟩
  · unfold Oper.quietAt
    rw [h a w ha hw]
    exact ⟨rfl, rfl⟩
  · rw [hd]; exact k _ (ha.put d v hn)
theorem QAt.callP {f : FuncId} {l : List Operand} {vs : List Value} {at_ : Array TypeId} (h : ∀ w, Rep Γ.w0 Γ.S H w → PureC P f vs v w) (hc : ∀ args w, (callFunc f args).run P w = .ok (.enter f args) w) (hv : evs E l = some vs) (hn : Nat.blt d Γ.n = true)
    (k : QAt P Γ ops ((d, v) :: E) H rest ψ) : QAt P Γ ops E H ({ dst := some d, op := .call { callee := .value (.func f), args := l.toArray, argTypes := at_ }, type := ty, pos, after, guard := none } :: rest) ψ := fun a ha => by
  unfold wpQuiet
  rw [if_pos (by simp [Region.wanted])]
  refine ⟨v, fun w hw => ?_, k _ (ha.put d v hn)⟩
  unfold Oper.quietAt
  rw [run_call ha hc hv w]
  exact ⟨rfl, (h w hw).mono fun e w' ⟨he, hm⟩ => ⟨he, hw.garbage hm⟩⟩
theorem QAt.yes {j t : Nat} {b : Bool} {dst : Option Tmp} {op : Op} (hj : (ops[j]?).bind (·.dst) = some t) (hl : look E t = some (.bool b))
    (k : QAt P Γ ops E H ({ dst, op, type := ty, pos, after, guard := none } :: rest) ψ) : QAt P Γ ops E H ({ dst, op, type := ty, pos, after, guard := some (j, b) } :: rest) ψ := fun a ha => by
  have hk := k a ha
  have hy : yielded ops a.tmps j = some b := by simp [yielded, hj, ha.get t _ hl]
  unfold wpQuiet at hk ⊢
  rw [if_pos (by simp [Region.wanted])] at hk
  rw [if_pos (by simp [Region.wanted, hy])]
  exact hk
theorem QAt.no {j t : Nat} {b c : Bool} {op : Op} (hj : (ops[j]?).bind (·.dst) = some t) (hl : look E t = some (.bool c)) (hc : (c == b) = false) (hn : Nat.blt d Γ.n = true)
    (k : QAt P Γ ops ((d, undef) :: E) H rest ψ) : QAt P Γ ops E H ({ dst := some d, op, type := ty, pos, after, guard := some (j, b) } :: rest) ψ := fun a ha => by
  have hy : yielded ops a.tmps j = some c := by simp [yielded, hj, ha.get t _ hl]
  unfold wpQuiet
  rw [if_neg (by simp [Region.wanted, hy]; simpa using hc)]
  exact k _ (ha.put d undef hn)
theorem QAt.split {t : Nat} {b : Bool} {l : List Oper} (hl : look E t = some (.bool b)) (k1 : b = true → QAt P Γ ops ((t, .bool true) :: E) H l ψ) (k2 : b = false → QAt P Γ ops ((t, .bool false) :: E) H l ψ) : QAt P Γ ops E H l ψ := fun a ha => by
  cases b
  · exact k2 rfl a (ha.cons hl)
  · exact k1 rfl a (ha.cons hl)
end
end Wk
end Go
namespace Go.Wk
open Go
abbrev bv (c : UInt8) : Value := .int .u8 (c.toNat : Int)
abbrev b32 (x : BitVec 32) : Value := .int .u32 (x.toNat : Int)
abbrev b64 (x : BitVec 64) : Value := .int .u64 (x.toNat : Int)
def Bytes (w : World) (A : Option Addr) (l : List UInt8) : Prop := ∀ k c, l[k]? = some c → ∃ b o, A = some ⟨b, o, none⟩ ∧ w.cell? ⟨b, o + k, none⟩ = some (bv c)
theorem Bytes.nil (w : World) (A : Option Addr) : Bytes w A [] := fun k c h => by simp at h
theorem Bytes.mod {w w' : World} {A l} (h : Bytes w A l) (hm : Mod (fun _ => False) w w') : Bytes w' A l := fun k c hk => by
  obtain ⟨b, o, hA, hc⟩ := h k c hk
  refine ⟨b, o, hA, ?_⟩
  have := hm.old b (block_lt_of_cell hc) (fun h => h)
  unfold World.cell? at *
  rw [this]; exact hc
theorem Bytes.take {w A l} (h : Bytes w A l) (n : Nat) : Bytes w A (l.take n) := fun k c hk => h k c (by
  rw [List.getElem?_take] at hk; split at hk
  · exact hk
  · simp at hk)
theorem wrap_id {k : IntKind} {n : Int} (h0 : k.min ≤ n) (h1 : n ≤ k.max) : k.wrap n = n := by
  cases k <;> simp [IntKind.wrap, IntKind.min, IntKind.max, IntKind.signed, IntKind.bits] at * <;> omega
theorem wrap_i64 {n : Int} (h0 : -9223372036854775808 ≤ n) (h1 : n ≤ 9223372036854775807) : IntKind.i64.wrap n = n := wrap_id (by simpa [IntKind.min, IntKind.signed, IntKind.bits] using h0) (by simpa [IntKind.max, IntKind.signed, IntKind.bits] using h1)
theorem wrap_u64 {n : Int} (h0 : 0 ≤ n) (h1 : n < 18446744073709551616) : IntKind.u64.wrap n = n := wrap_id (by simpa [IntKind.min, IntKind.signed, IntKind.bits] using h0) (by simp [IntKind.max, IntKind.signed, IntKind.bits]; omega)
theorem wrap_u32 {n : Int} (h0 : 0 ≤ n) (h1 : n < 4294967296) : IntKind.u32.wrap n = n := wrap_id (by simpa [IntKind.min, IntKind.signed, IntKind.bits] using h0) (by simp [IntKind.max, IntKind.signed, IntKind.bits]; omega)
theorem wrap_u8_nat (n : Nat) : IntKind.u8.wrap (n : Int) = ((UInt8.ofNat n).toNat : Int) := by
  simp [IntKind.wrap, IntKind.signed, IntKind.bits, UInt8.toNat_ofNat']
theorem wrap_u32_nat (n : Nat) : IntKind.u32.wrap (n : Int) = ((BitVec.ofNat 32 n).toNat : Int) := by
  simp [IntKind.wrap, IntKind.signed, IntKind.bits, BitVec.toNat_ofNat]
theorem wrap_u64_nat (n : Nat) : IntKind.u64.wrap (n : Int) = ((BitVec.ofNat 64 n).toNat : Int) := by
  simp [IntKind.wrap, IntKind.signed, IntKind.bits, BitVec.toNat_ofNat]
theorem ofInt_toNat {n : Nat} (x : BitVec n) : BitVec.ofInt n (x.toNat : Int) = x := by
  apply BitVec.eq_of_toNat_eq
  simp
theorem wrap_toNat32 (x : BitVec 32) : IntKind.u32.wrap (x.toNat : Int) = (x.toNat : Int) := wrap_u32 (by omega) (by have := x.isLt; omega)
theorem wrap_toNat64 (x : BitVec 64) : IntKind.u64.wrap (x.toNat : Int) = (x.toNat : Int) := wrap_u64 (by omega) (by have := x.isLt; omega)
theorem xor32 (x y : BitVec 32) : ib .xor .u32 (x.toNat : Int) (y.toNat : Int) = ((x ^^^ y).toNat : Int) := by
  show IntKind.u32.wrap ((BitVec.ofInt 32 (x.toNat : Int) ^^^ BitVec.ofInt 32 (y.toNat : Int)).toNat : Int) = _
  rw [ofInt_toNat, ofInt_toNat, wrap_toNat32]
theorem and32 (x y : BitVec 32) : ib .and .u32 (x.toNat : Int) (y.toNat : Int) = ((x &&& y).toNat : Int) := by
  show IntKind.u32.wrap ((BitVec.ofInt 32 (x.toNat : Int) &&& BitVec.ofInt 32 (y.toNat : Int)).toNat : Int) = _
  rw [ofInt_toNat, ofInt_toNat, wrap_toNat32]
theorem or64 (x y : BitVec 64) : ib .or .u64 (x.toNat : Int) (y.toNat : Int) = ((x ||| y).toNat : Int) := by
  show IntKind.u64.wrap ((BitVec.ofInt 64 (x.toNat : Int) ||| BitVec.ofInt 64 (y.toNat : Int)).toNat : Int) = _
  rw [ofInt_toNat, ofInt_toNat, wrap_toNat64]
theorem com32 (x : BitVec 32) : ib .xor .u32 (if IntKind.u32.signed then -1 else IntKind.u32.max) (x.toNat : Int) = ((~~~x).toNat : Int) := by
  show IntKind.u32.wrap ((BitVec.ofInt 32 (4294967295 : Int) ^^^ BitVec.ofInt 32 (x.toNat : Int)).toNat : Int) = _
  rw [ofInt_toNat, wrap_toNat32, show BitVec.ofInt 32 (4294967295 : Int) = BitVec.allOnes 32 from rfl, BitVec.allOnes_xor]
theorem shr32 (x : BitVec 32) (n : Nat) (h : n ≤ 32) : (x.toNat : Int).fdiv (2 ^ min n 32) = ((x >>> n).toNat : Int) := by
  rw [Nat.min_eq_left h, BitVec.toNat_ushiftRight, Nat.shiftRight_eq_div_pow, Int.fdiv_eq_ediv_of_nonneg _ (by exact Int.pow_nonneg (by decide))]
  norm_cast
theorem shr64 (x : BitVec 64) (n : Nat) (h : n ≤ 64) : (x.toNat : Int).fdiv (2 ^ min n 64) = ((x >>> n).toNat : Int) := by
  rw [Nat.min_eq_left h, BitVec.toNat_ushiftRight, Nat.shiftRight_eq_div_pow, Int.fdiv_eq_ediv_of_nonneg _ (by exact Int.pow_nonneg (by decide))]
  norm_cast
theorem shl64 (x : BitVec 64) (n : Nat) (h : n ≤ 64) : IntKind.u64.wrap ((x.toNat : Int) * 2 ^ min n 64) = ((x <<< n).toNat : Int) := by
  rw [Nat.min_eq_left h, show (x.toNat : Int) * 2 ^ n = ((x.toNat * 2 ^ n : Nat) : Int) by push_cast; rfl, wrap_u64_nat]
  congr 1
  rw [BitVec.toNat_ofNat, BitVec.toNat_shiftLeft, Nat.shiftLeft_eq]
end Go.Wk
namespace Go.Wk
open Go
def tab : List (BitVec 32) := [0x00000000, 0x1db71064, 0x3b6e20c8, 0x26d930ac, 0x76dc4190, 0x6b6b51f4, 0x4db26158, 0x5005713c, 0xedb88320, 0xf00f9344, 0xd6d6a3e8, 0xcb61b38c, 0x9b64c2b0, 0x86d3d2d4, 0xa00ae278, 0xbdbdf21c]
def tabv (i : Nat) : BitVec 32 := tab.getD i 0
def step4 (r : BitVec 32) : BitVec 32 := tabv (r &&& 15).toNat ^^^ (r >>> 4)
def crcByte (r : BitVec 32) (c : UInt8) : BitVec 32 := step4 (step4 (r ^^^ BitVec.ofNat 32 c.toNat))
def crc (r : BitVec 32) (l : List UInt8) : BitVec 32 := l.foldl crcByte r
def sumOn (s : BitVec 32) (l : List UInt8) : BitVec 32 := ~~~ crc (~~~ s) l
def Tab (w : World) : Prop := ∀ i, i < 16 → w.cell? ⟨0, i, none⟩ = some (b32 (tabv i))
theorem Tab.mod {w w' : World} (h : Tab w) (hm : Mod (fun _ => False) w w') : Tab w' := fun i hi => by
  have hc := h i hi
  have := hm.old 0 (block_lt_of_cell hc) (fun h => h)
  unfold World.cell? at *
  rw [this]; exact hc
theorem and15_lt (r : BitVec 32) : (r &&& 15).toNat < 16 := by
  have h1 : (r &&& 15).toNat = r.toNat % 16 := by
    rw [BitVec.toNat_and]
    exact Nat.and_two_pow_sub_one_eq_mod r.toNat 4
  omega
theorem and15 (x : BitVec 32) : ib .and .u32 (x.toNat : Int) 15 = ((x &&& 15).toNat : Int) := and32 x 15
theorem crc_take_succ (r : BitVec 32) (l : List UInt8) (k : Nat) (c : UInt8) (h : l[k]? = some c) : crc r (l.take (k + 1)) = crcByte (crc r (l.take k)) c := by
  obtain ⟨hk, rfl⟩ := List.getElem?_eq_some_iff.1 h
  rw [List.take_succ_eq_append_getElem hk, crc, List.foldl_append]; rfl
theorem crc_append (r : BitVec 32) (l m : List UInt8) : crc r (l ++ m) = crc (crc r l) m := List.foldl_append
theorem sumOn_append (s : BitVec 32) (l m : List UInt8) : sumOn (sumOn s l) m = sumOn s (l ++ m) := by
  simp [sumOn, crc_append]
end Go.Wk
namespace Go.Wk
open Go
def rowR (v : Value) (e sz n : Nat) (xs : List Value) : Res where
  foot := fun b => v.ownBlock = some b
  holds := fun w => w.ownsRow 0 e sz v n xs
  stable := fun {w w'} h hw => by
    refine ⟨hw.1, ?_⟩
    rcases hw.2 with hn | ⟨g, cap, cur, rfl, hb, hg, rest⟩
    · exact .inl hn
    · exact .inr ⟨g, cap, cur, rfl, hb, by rw [h g rfl]; exact hg, rest⟩
  low := fun {w} hw b hb => (hw.lt b hb).2
section
variable {P : Program} {Γ : Ctx} {E : Env} {H : List Res} {ops : Array Oper} {Q : Exit → Act → World → Prop} {rest : List Oper}
  {d : Nat} {dst : Option Tmp} {g : Option (Nat × Bool)} {ty : TypeId} {pos : String} {after : Array Edge} {x y z : Operand} {v u : Value} {φ : Act → World → Prop}
theorem At.rowNil (e sz : Nat) (k : At Γ E (rowR (.slice none 0 0) e sz 0 [] :: H) φ) : At Γ E H φ := fun a w ha hw =>
  k a w ha (hw.new (Mod.refl _ _) (World.ownsRow_nil w 0 e sz) (fun b hb => by simp [rowR, Value.ownBlock] at hb))
theorem Val.lenRow {i t el e sz n : Nat} {xs : List Value} (hu : P.underlying t = some (.slice el)) (hx : ev E x = some v) (hi : H[i]? = some (rowR v e sz n xs)) :
    Val P Γ E H ⟨dst, .call { callee := .builtin .len, args := #[x], argTypes := #[t] }, ty, pos, after, g⟩ (.int .i64 n) := fun a w ha hw => by
  have h : w.ownsRow 0 e sz v n xs := hw.all _ (List.mem_of_getElem? hi)
  rcases h.2 with ⟨rfl, rfl⟩ | ⟨b, cap, cur, rfl, _⟩ <;>
  simp [execOp, resolve, invoke, builtin, Builtin.len_, ha.eval hx, Sem.run_bind, run_underlying hu, goInt]
def rowB (v : Value) : Nat := (v.ownBlock).getD 0
theorem Val.indexRow {i t el e sz n : Nat} {xs : List Value} {k : IntKind} {j : Int} (q : Nat) (hq : j.toNat * sz = q) (hu : P.underlying t = some (.slice el)) (hs : ∀ w, (sizeOf el).run P w = .ok sz w) (hx : ev E x = some v) (hy : ev E y = some (.int k j))
    (hi : H[i]? = some (rowR v e sz n xs)) (h0 : 0 ≤ j) (h1 : j < n) : Val P Γ E H ⟨dst, .indexAddr t x y, ty, pos, after, g⟩ (.pointer (some ⟨rowB v, q, none⟩)) := fun a w ha hw => by
  have h : w.ownsRow 0 e sz v n xs := hw.all _ (List.mem_of_getElem? hi)
  rcases h.2 with ⟨rfl, rfl⟩ | ⟨b, cap, cur, rfl, _⟩
  · omega
  · have := Val.indexSl (P := P) (Γ := Γ) (E := E) (H := H) (dst := dst) (g := g) (ty := ty) (pos := pos) (after := after) (y := y) (o := 0) q (by omega) hu hs hx hy h0 h1 a w ha hw
    simpa [rowB, Value.ownBlock] using this
theorem row_cell {w : World} {e sz n : Nat} {xs : List Value} (h : w.ownsRow 0 e sz v n xs) {q : Nat} (hv : xs[q]? = some u) : w.cell? ⟨rowB v, q, none⟩ = some u := by
  have hlt : q < xs.length := (List.getElem?_eq_some_iff.1 hv).1
  rcases h.2 with ⟨rfl, rfl⟩ | ⟨b, cap, cur, rfl, _, hg, _, _, _, ht⟩
  · have := h.1; simp at this; subst this; simp at hlt
  · simp only [rowB, Value.ownBlock, Option.getD_some]
    rw [cell_of_row w b q cur e (0, 0) hg]
    rw [← ht, List.getElem?_take] at hv
    split at hv
    · simpa using hv
    · cases hv
theorem row_frozen {w : World} {e sz n : Nat} {xs : List Value} (h : w.ownsRow 0 e sz v n xs) {q : Nat} (hv : xs[q]? = some u) : w.frozen? ⟨rowB v, q, none⟩ = false := by
  have hlt : q < xs.length := (List.getElem?_eq_some_iff.1 hv).1
  rcases h.2 with ⟨rfl, rfl⟩ | ⟨b, cap, cur, rfl, _, hg, _, _, _, ht⟩
  · have := h.1; simp at this; subst this; simp at hlt
  · exact frozen_of_row w b q cur e hg
theorem Val.loadRow {i t e sz n q : Nat} {xs : List Value} (hA : ∀ w, (isAgg t).run P w = .ok false w) (hx : ev E x = some (.pointer (some ⟨rowB v, q, none⟩))) (hi : H[i]? = some (rowR v e sz n xs)) (hv : xs[q]? = some u) :
    Val P Γ E H ⟨dst, .load t x, ty, pos, after, g⟩ u := fun a w ha hw => by
  have := run_loadAt_cell (P := P) hA (row_cell (hw.all _ (List.mem_of_getElem? hi)) hv)
  simp [execOp, ha.eval hx, Sem.run_bind, this]
theorem row_set {w : World} {e sz n : Nat} {xs : List Value} (h : w.ownsRow 0 e sz v n xs) {q : Nat} (hq : q < xs.length) (u : Value) : (w.setCell ⟨rowB v, q, none⟩ u).ownsRow 0 e sz v n (xs.set q u) := by
  rcases h.2 with ⟨rfl, rfl⟩ | ⟨b, cap, cur, rfl, hb, hg, hn, hm, hs, ht⟩
  · have := h.1; simp at this; subst this; simp at hq
  · refine ⟨by simpa using h.1, .inr ⟨b, cap, cur.setIfInBounds q u, rfl, hb, ?_, hn, hm, by simpa using hs, ?_⟩⟩
    · simp only [rowB, Value.ownBlock, Option.getD_some]
      exact heap_setCell_same w b q cur e u hg
    · rw [← ht]
      simp [List.take_set]
theorem At.storeRow {i t e sz n q : Nat} {xs : List Value} (hs : ∀ w, (sizeOf t).run P w = .ok 1 w) (hx : ev E x = some (.pointer (some ⟨rowB v, q, none⟩))) (hy : ev E y = some u) (h1 : u.oneCell' = true) (hi : H[i]? = some (rowR v e sz n xs)) (hq : q < xs.length)
    (k : At Γ E (H.set i (rowR v e sz n (xs.set q u))) (wpList P ops Q rest)) : At Γ E H (wpList P ops Q ({ dst := .none, op := .store t x y, type := ty, pos, after, guard := none } :: rest)) :=
  At.skip rfl rfl fun a w ha hw => by
    have h : w.ownsRow 0 e sz v n xs := hw.all _ (List.mem_of_getElem? hi)
    have hc := row_cell h (List.getElem?_eq_getElem hq)
    have hr := run_storeAt_cell (P := P) hs h1 hc (row_frozen h (List.getElem?_eq_getElem hq))
    refine ⟨_, _, by simp [execOp, ha.eval hx, ha.eval hy, Sem.run_bind, hr], hw.change (r' := rowR v e sz n (xs.set q u)) hi ((Mod.setCell w _ _).mono fun b hb => ?_) (row_set h hq u) (fun b hb => .inl hb), k⟩
    rcases h.2 with ⟨rfl, rfl⟩ | ⟨c, cap, cur, rfl, _⟩
    · have := h.1; simp at this; subst this; simp at hq
    · subst hb; rfl
theorem At.rowIs {i e sz n : Nat} {xs : List Value} (hi : H[i]? = some (rowR v e sz n xs)) (k : ∀ A c, v = .slice A n c → At Γ E H φ) : At Γ E H φ := fun a w ha hw => by
  have h : w.ownsRow 0 e sz v n xs := hw.all _ (List.mem_of_getElem? hi)
  rcases h.2 with ⟨rfl, rfl⟩ | ⟨b, cap, cur, rfl, _⟩
  · exact k _ _ rfl a w ha hw
  · exact k _ _ rfl a w ha hw
theorem row_bytes {w : World} {A : Option Addr} {e n c : Nat} {l : List UInt8} (h : w.ownsRow 0 e 1 (.slice A n c) n (l.map bv)) : Bytes w A l := fun k u hk => by
  have hc := row_cell (u := bv u) h (q := k) (by simp [hk])
  rcases h.2 with ⟨h1, rfl⟩ | ⟨b, cap, cur, h1, _⟩
  · have := h.1; simp at this; subst this; simp at hk
  · simp only [Value.slice.injEq] at h1
    obtain ⟨rfl, _, _⟩ := h1
    exact ⟨b, 0, rfl, by simpa [rowB, Value.ownBlock] using hc⟩
theorem Rep.row {w0 S H w} (h : Rep w0 S H w) {i e sz n : Nat} {v : Value} {xs : List Value} (hi : H[i]? = some (rowR v e sz n xs)) : w.ownsRow 0 e sz v n xs := h.all _ (List.mem_of_getElem? hi)
theorem grown_mod {w w' : World} {v : Value} (h : w.grownBy w' v.ownBlock) : Mod (fun b => v.ownBlock = some b) w w' :=
  ⟨h.size, fun b hb hn => h.block b hb (fun e => hn e.symm), h.os, h.tape, h.output⟩
theorem run_append_row {w : World} {t ty e : TypeId} {i : TypeInfo} {z : Value} {size bytes : Nat} (ht : P.underlying t = some (.slice e)) (hi : P.info? e = some i) (hz : i.zero = some z)
    (hsize : i.size = size) (hby : i.bytes = bytes) (hzs : z.cells.size = size) (hsz : 0 < size)
    {v : Value} {n : Nat} {xs : List Value} (hown : w.ownsRow 0 e size v n xs)
    {a : Addr} {m c : Nat} {news : List Value} (hl : news.length = m * size) (hnews : ∀ j u, news[j]? = some u → w.cell? (a.add j) = some u) (h1 : ∀ u ∈ news, u.oneCell' = true)
    (h63 : n + m ≤ maxLen) (hbytes : (n + m) * bytes ≤ 140737488355328) :
    ∃ v' w', (Builtin.append_ #[t, t] ty #[v, .slice (some a) m c]).run P w = .ok v' w' ∧ w'.ownsRow 0 e size v' (n + m) (xs ++ news) ∧ w.grownBy w' v.ownBlock ∧ (∀ b, v'.ownBlock = some b → v.ownBlock = some b ∨ w.heap.size ≤ b) := by
  obtain ⟨v', w', hr, ho, hg, _⟩ := run_append_own (P := P) w 0 t ty e i z size bytes ht hi hz hsize hby hzs hsz v n xs hown a m c news hl hnews h1 h63 hbytes (Nat.zero_le _)
  refine ⟨v', w', hr, ho, hg, fun b hb => ?_⟩
  -- in place, or new
  rcases hown.2 with ⟨rfl, rfl⟩ | ⟨g, cap, cur, rfl, hbg, hgg, hnc, hcm, hcs, htake⟩
  · obtain ⟨v2, w2, hr2, ho2, _, _⟩ := run_append_own (P := P) w w.heap.size t ty e i z size bytes ht hi hz hsize hby hzs hsz (.slice none 0 0) 0 xs ⟨hown.1, .inl ⟨rfl, rfl⟩⟩ a m c news hl hnews h1 h63 hbytes (Nat.le_refl _)
    rw [hr] at hr2
    injection hr2 with e1 e2
    subst e1 e2
    exact .inr (ho2.lt b hb).1
  · by_cases hroom : n + m ≤ cap
    · have hfit : n * i.size + news.length ≤ cur.size := by rw [hl, hcs, hsize, ← Nat.add_mul]; exact Nat.mul_le_mul_right _ hroom
      have hr3 := run_append_room (P := P) w t ty e i ht hi g n cap cur hgg a m c news (by rw [hsize]; exact hl) hnews h1 hroom hfit
      rw [hr] at hr3
      injection hr3 with e1 e2
      subst e1
      exact .inl (by simpa [Value.ownBlock] using hb)
    · have holds : ∀ j u, xs[j]? = some u → w.cell? ((⟨g, 0, none⟩ : Addr).add j) = some u := hown.cells (g := g) rfl
      have hr3 := run_append_grow (P := P) w t ty e i z ht hi hz ⟨g, 0, none⟩ n cap xs (by rw [hsize]; exact hown.1) holds a m c news (by rw [hsize]; exact hl) hnews (by omega) (by have := h63; simp only [maxLen] at this; omega) (growslice_fits (by omega) (by rw [hby]; exact hbytes))
      rw [hr] at hr3
      injection hr3 with e1 e2
      subst e1
      simp only [Value.ownBlock, Option.some.injEq] at hb
      exact .inr (by omega)
theorem Addr.add_off (b o j : Nat) : (⟨b, o, none⟩ : Addr).add j = ⟨b, o + j, none⟩ := by unfold Addr.add; split <;> simp_all
theorem At.append {i t e sz by_ n m c o b : Nat} {ti : TypeInfo} {z : Value} {xs ys : List Value} (ht : P.underlying t = some (.slice e)) (hti : P.info? e = some ti) (hz : ti.zero = some z) (hsize : ti.size = sz) (hby : ti.bytes = by_) (hzs : z.cells.size = sz) (hsz : Nat.blt 0 sz = true)
    (hx : ev E x = some v) (hy : ev E y = some (.slice (some ⟨b, o, none⟩) m c)) (hi : H[i]? = some (rowR v e sz n xs)) (hl : ys.length = m * sz)
    (hsrc : ∀ w, Rep Γ.w0 Γ.S H w → ∀ j u, ys[j]? = some u → w.cell? ⟨b, o + j, none⟩ = some u) (h1 : ∀ u ∈ ys, u.oneCell' = true) (h63 : (n + m) * by_ ≤ 140737488355328) (h64 : n + m ≤ 140737488355328) (hn : Nat.blt d Γ.n = true)
    (k : ∀ v', At Γ ((d, v') :: E) (H.set i (rowR v' e sz (n + m) (xs ++ ys))) (wpList P ops Q rest)) :
    At Γ E H (wpList P ops Q ({ dst := some d, op := .call { callee := .builtin .append, args := #[x, y], argTypes := #[t, t] }, type := ty, pos, after, guard := none } :: rest)) :=
  At.run rfl rfl hn fun a w ha hw => by
    have h : w.ownsRow 0 e sz v n xs := hw.row hi
    obtain ⟨v', w', hr, ho, hg, hf⟩ := run_append_row (P := P) (ty := ty) ht hti hz hsize hby hzs (by simpa [Nat.blt_eq] using hsz) h (a := ⟨b, o, none⟩) (m := m) (c := c) hl
      (fun j u hj => by rw [Addr.add_off]; exact hsrc w hw j u hj) h1 (by simp only [maxLen]; omega) h63
    exact ⟨v', w', _, by simp [execOp, resolve, invoke, builtin, ha.eval hx, ha.eval hy, Sem.run_bind, hr], hw.change hi (grown_mod hg) ho hf, k v'⟩
theorem Rep.drop {w0 S H H' w} (h : Rep w0 S H w) (hs : H'.Sublist H) : Rep w0 S H' w :=
  ⟨h.sep.sublist hs, fun r hr => h.all r (hs.subset hr), fun r hr => h.mine r (hs.subset hr), h.mod⟩
theorem At.drop (i : Nat) (k : At Γ E (H.eraseIdx i) φ) : At Γ E H φ := fun a w ha hw => k a w ha (hw.drop (List.eraseIdx_sublist ..))
theorem Holds.bytes {w : World} {b T : Nat} {l : List UInt8} {sp : List Value} (h : Holds w b T (l.map bv ++ sp)) : Bytes w (some ⟨b, 0, none⟩) l := fun k c hk => ⟨b, 0, rfl, by
  have hlt : k < l.length := (List.getElem?_eq_some_iff.1 hk).1
  rw [Nat.zero_add, h.cell, List.getElem?_append_left (by simpa using hlt), List.getElem?_map, hk]; rfl⟩
theorem Holds.bytes' {w : World} {b T : Nat} {l : List UInt8} (h : Holds w b T (l.map bv)) : Bytes w (some ⟨b, 0, none⟩) l := Holds.bytes (sp := []) (by simpa using h)
theorem Rep.one {r : Res} {w : World} (h : r.holds w) : Rep w (feet [r]) [r] w := Rep.start (by simp) (by simpa using h)
def RowUpd (P : Program) (f : FuncId) (vs : List Value) (v : Value) (e sz n : Nat) (xs : List Value) (n' : Nat) (xs' : List Value) (w : World) : Prop :=
  Calls P f vs.toArray w fun r w' => ∃ v', r = .returned v' ∧ Rep w (feet [rowR v e sz n xs]) [rowR v' e sz n' xs'] w'
def NewRow (P : Program) (f : FuncId) (vs : List Value) (e sz n : Nat) (xs : List Value) (w : World) : Prop :=
  Calls P f vs.toArray w fun r w' => ∃ v', r = .returned v' ∧ Rep w (feet []) [rowR v' e sz n xs] w'
theorem At.callR (i : Nat) {e sz n n' : Nat} {xs xs' : List Value} {f : FuncId} {l : List Operand} {vs : List Value} {at_ : Array TypeId} (hi : H[i]? = some (rowR v e sz n xs)) (h : ∀ w, Rep Γ.w0 Γ.S H w → w.ownsRow 0 e sz v n xs → RowUpd P f vs v e sz n xs n' xs' w)
    (hc : ∀ args w, (callFunc f args).run P w = .ok (.enter f args) w) (hv : evs E l = some vs) (hn : Nat.blt d Γ.n = true)
    (k : ∀ v', At Γ ((d, v') :: E) (H.set i (rowR v' e sz n' xs')) (wpList P ops Q rest)) :
    At Γ E H (wpList P ops Q ({ dst := some d, op := .call { callee := .value (.func f), args := l.toArray, argTypes := at_ }, type := ty, pos, after, guard := none } :: rest)) :=
  At.call hc hv hn fun w hw => (h w hw (hw.row hi)).mono fun e w' ⟨v', he, hr⟩ => ⟨v', _, he, Rep.frame1 (X := []) hi hw hr, k v'⟩
theorem At.callN {e sz n : Nat} {xs : List Value} {f : FuncId} {l : List Operand} {vs : List Value} {at_ : Array TypeId} (h : ∀ w, Rep Γ.w0 Γ.S H w → NewRow P f vs e sz n xs w)
    (hc : ∀ args w, (callFunc f args).run P w = .ok (.enter f args) w) (hv : evs E l = some vs) (hn : Nat.blt d Γ.n = true)
    (k : ∀ v', At Γ ((d, v') :: E) (rowR v' e sz n xs :: H) (wpList P ops Q rest)) :
    At Γ E H (wpList P ops Q ({ dst := some d, op := .call { callee := .value (.func f), args := l.toArray, argTypes := at_ }, type := ty, pos, after, guard := none } :: rest)) :=
  At.call hc hv hn fun w hw => (h w hw).mono fun e w' ⟨v', he, hr⟩ => ⟨v', _, he, by
    have := Rep.frame (H0 := []) (F := H) (by simpa using hw) hr
    simpa using this, k v'⟩
theorem At.buildSl {t e n : Nat} {parts : Array (Nat × Operand)} {vs : Array (Nat × Value)} {cs : List Value} (hp : ∀ a : Act, Agrees Γ.n Γ.D E a → (parts.map fun p => (p.1, a.eval p.2)) = vs)
    (hb : ∀ w, (Instr.buildSlice t n vs).run P w = .ok (.slice (some ⟨w.heap.size, 0, none⟩) n n) (w.alloc (.cells cs.toArray e))) (hn : Nat.blt d Γ.n = true)
    (k : ∀ b, At Γ ((d, .slice (some ⟨b, 0, none⟩) n n) :: E) (blk b e cs :: H) (wpList P ops Q rest)) :
    At Γ E H (wpList P ops Q ({ dst := some d, op := .buildSlice t n parts, type := ty, pos, after, guard := none } :: rest)) :=
  At.run rfl rfl hn fun a w ha hw => by
    refine ⟨_, _, _, ?_, hw.alloc e cs, k _⟩
    have := hp a ha
    simp only [execOp]
    rw [show (parts.map fun (x : Nat × Operand) => (x.1, a.eval x.2)) = vs from this]
    simp [Sem.run_bind, hb]
theorem At.strBytes {s t e : Nat} {st : ByteArray} {us : TypeDesc} (hs : P.underlying s = some .string) (ht : P.underlying t = some (.slice e)) (he : P.underlying e = some (.int .u8)) (hx : ev E x = some (.string st)) (hn : Nat.blt d Γ.n = true)
    (k : ∀ b c sp, At Γ ((d, .slice (some ⟨b, 0, none⟩) st.size c) :: E) (blk b e (st.data.toList.map bv ++ sp) :: H) (wpList P ops Q rest)) :
    At Γ E H (wpList P ops Q ({ dst := some d, op := .convert s t x, type := ty, pos, after, guard := none } :: rest)) :=
  At.run rfl rfl hn fun a w ha hw => by
    have hr := Lib.run_convert_string_bytes (P := P) w s t e st hs ht he
    have h0 : (execOp a.eval { dst := some d, op := .convert s t x, type := ty, pos, after, guard := none }).run P w = .ok (.value (.slice (some ⟨w.heap.size, 0, none⟩) st.size (grownCap w st.size 0 e))) (Lib.bytesWorld w e st) := by
      simp [execOp, ha.eval hx, Sem.run_bind, hr]
    have hm : Mod (fun _ => False) w (Lib.bytesWorld w e st) := ⟨by rw [Lib.bytesWorld_size]; omega, fun b hb _ => Lib.bytesWorld_at_old w e st b hb, by unfold Lib.bytesWorld World.freeze; split <;> rfl, by unfold Lib.bytesWorld World.freeze; split <;> rfl, by unfold Lib.bytesWorld World.freeze; split <;> rfl⟩
    have hh : Holds (Lib.bytesWorld w e st) w.heap.size e (st.data.toList.map bv ++ List.replicate (grownCap w st.size 0 e - st.size) (Value.int IntKind.u8 0)) := by
      have ec : Lib.bytesCells w e st = (st.data.toList.map bv ++ List.replicate (grownCap w st.size 0 e - st.size) (Value.int IntKind.u8 0)).toArray := by
        apply Array.ext'
        simp [Lib.bytesCells]
      have := Lib.bytesWorld_at_new w e st
      rw [ec] at this
      exact ⟨_, this, .inr (by simp)⟩
    exact ⟨_, _, _, h0, hw.new (r' := blk w.heap.size e _) hm hh (fun b hb => by simp only [blk] at hb; omega), k _ _ _⟩
end
end Go.Wk
namespace Go.Wk
open Go
section
variable {P : Program} {Γ : Ctx} {E : Env} {H : List Res} {ops : Array Oper} {Q : Exit → Act → World → Prop} {rest : List Oper}
  {d : Nat} {dst : Option Tmp} {g : Option (Nat × Bool)} {ty : TypeId} {pos : String} {after : Array Edge} {x y z : Operand} {v u : Value}
theorem run_arr_loop {e : TypeId} {k : IntKind} (he : P.underlying e = some (.int k)) (hA : ∀ w, (isAgg e).run P w = .ok false w) (dd : Nat) (xs ys : Array Value) (w : World) : ∀ (n i : Nat) (az bs : List Int),
    az.length = n → bs.length = n → (∀ j, j < n → xs[i + j]? = (az.map (Value.int k))[j]?) → (∀ j, j < n → ys[i + j]? = (bs.map (Value.int k))[j]?) →
    ((forIn (List.range' i n) ((none : Option Bool), PUnit.unit) fun (q : Nat) (r : Option Bool × PUnit) =>
      (do if !(← Op.equalIn (dd + 1) e (← part e xs (q * 1)) (← part e ys (q * 1))) then pure (ForInStep.done (some false, PUnit.unit)) else pure (ForInStep.yield (none, PUnit.unit)) : Sem (ForInStep (Option Bool × PUnit)))).run P w) = .ok (if az = bs then none else some false, PUnit.unit) w := by
  intro n
  induction n with
  | zero => intro i az bs ha hb _ _; simp at ha hb; subst ha; subst hb; simp
  | succ n ih =>
    intro i az bs ha hb hx hy
    match az, bs, ha, hb with
    | a :: az, b :: bs, ha, hb =>
      have h0 := hx 0 (by omega)
      have h1 := hy 0 (by omega)
      simp at h0 h1
      have p0 : (part e xs i).run P w = .ok (.int k a) w := by simp [part, Sem.run_bind, hA, h0]
      have p1 : (part e ys i).run P w = .ok (.int k b) w := by simp [part, Sem.run_bind, hA, h1]
      have he1 := run_equalIn_int (P := P) w dd e k k a b he
      rw [List.range'_succ]
      simp only [List.forIn_cons, Sem.run_bind, Nat.mul_one, p0, p1, Result.andThen_ok, he1]
      by_cases hab : a = b
      · subst hab
        simp only [beq_self_eq_true, Bool.not_true, Bool.false_eq_true, if_false, Sem.run_pure, Result.andThen_ok]
        have := ih (i + 1) az bs (by simpa using ha) (by simpa using hb) (fun j hj => by have := hx (j + 1) (by omega); simpa [Nat.add_assoc, Nat.add_comm 1 j] using this) (fun j hj => by have := hy (j + 1) (by omega); simpa [Nat.add_assoc, Nat.add_comm 1 j] using this)
        simp only [Nat.mul_one] at this
        rw [this]
        simp
      · have : (a == b) = false := by simpa using hab
        simp [this, hab]
theorem run_equal_arr {t e : TypeId} {n : Nat} {k : IntKind} (ht : P.underlying t = some (.array n e)) (he : P.underlying e = some (.int k)) (hA : ∀ w, (isAgg e).run P w = .ok false w) (hs : ∀ w, (sizeOf e).run P w = .ok 1 w)
    (az bs : List Int) (ha : az.length = n) (hb : bs.length = n) (w : World) : (Op.equal t (.agg (az.map (Value.int k)).toArray) (.agg (bs.map (Value.int k)).toArray)).run P w = .ok (decide (az = bs)) w := by
  have key : ∀ dd : Nat, (Op.equalIn (dd + 2) t (.agg (az.map (Value.int k)).toArray) (.agg (bs.map (Value.int k)).toArray)).run P w = .ok (decide (az = bs)) w := fun dd => by
    have hl := run_arr_loop (P := P) he hA dd (az.map (Value.int k)).toArray (bs.map (Value.int k)).toArray w n 0 az bs ha hb (fun j _ => by simp) (fun j _ => by simp)
    rw [Op.equalIn]
    simp only [Sem.run_bind, run_underlying ht, Result.andThen_ok, hs]
    simp only [Std.Legacy.Range.forIn_eq_forIn_range', Std.Legacy.Range.size, Nat.sub_zero, Nat.add_sub_cancel, Nat.div_one]
    rw [hl]
    by_cases h : az = bs
    · simp [h]
    · simp [h]
  exact key 9998
theorem bytes_eq {az bs : List UInt8} : decide ((az.map fun c => (c.toNat : Int)) = bs.map fun c => (c.toNat : Int)) = decide (az = bs) := by
  rw [decide_eq_decide]
  constructor
  · intro h
    induction az generalizing bs with
    | nil => cases bs <;> simp_all
    | cons a az ih =>
      cases bs with
      | nil => simp at h
      | cons b bs =>
        simp only [List.map_cons, List.cons.injEq] at h
        rw [UInt8.toNat_inj.1 (by omega : a.toNat = b.toNat), ih h.2]
  · intro h; rw [h]
theorem run_equal_bytes {t e : TypeId} {n : Nat} (ht : P.underlying t = some (.array n e)) (he : P.underlying e = some (.int .u8)) (hA : ∀ w, (isAgg e).run P w = .ok false w) (hs : ∀ w, (sizeOf e).run P w = .ok 1 w)
    (az bs : List UInt8) (ha : az.length = n) (hb : bs.length = n) (w : World) : (Op.equal t (.agg (az.map bv).toArray) (.agg (bs.map bv).toArray)).run P w = .ok (decide (az = bs)) w := by
  have := run_equal_arr (P := P) ht he hA hs (az.map fun c => (c.toNat : Int)) (bs.map fun c => (c.toNat : Int)) (by simpa using ha) (by simpa using hb) w
  rw [bytes_eq] at this
  simpa [List.map_map, Function.comp_def] using this
theorem Val.eqAgg {t t' : TypeId} {xs ys : Array Value} {b : Bool} (hm : P.eqGuardType P.depth t = false) (hr : ∀ w, (Op.equal t (.agg xs) (.agg ys)).run P w = .ok b w) (hx : ev E x = some (.agg xs)) (hy : ev E y = some (.agg ys)) :
    Val P Γ E H ⟨dst, .binOp .eql t x y t', ty, pos, after, g⟩ (.bool b) := fun a w ha _ => by
  have hg := run_eqGuard_agg (P := P) w .eql t x y xs ys hm
  simp only [execOp, ha.eval hx, ha.eval hy, Sem.run_bind, hg, Result.andThen_ok, binOp, hr, Sem.run_pure]
theorem Val.neAgg {t t' : TypeId} {xs ys : Array Value} {b : Bool} (hm : P.eqGuardType P.depth t = false) (hr : ∀ w, (Op.equal t (.agg xs) (.agg ys)).run P w = .ok b w) (hx : ev E x = some (.agg xs)) (hy : ev E y = some (.agg ys)) :
    Val P Γ E H ⟨dst, .binOp .neq t x y t', ty, pos, after, g⟩ (.bool (!b)) := fun a w ha _ => by
  have hg := run_eqGuard_agg (P := P) w .neq t x y xs ys hm
  simp only [execOp, ha.eval hx, ha.eval hy, Sem.run_bind, hg, Result.andThen_ok, binOp, hr, Sem.run_pure]
end
end Go.Wk
namespace Go.Wk
open Go
def le : Nat → Nat → List UInt8
  | 0, _ => []
  | n + 1, v => UInt8.ofNat v :: le n (v / 256)
theorem le_length : ∀ n v, (le n v).length = n
  | 0, _ => rfl
  | n + 1, v => by simp [le, le_length n]
theorem le_get : ∀ (n v i : Nat), i < n → (le n v)[i]? = some (UInt8.ofNat (v / 256 ^ i))
  | 0, _, i, h => by omega
  | n + 1, v, 0, _ => by simp [le]
  | n + 1, v, i + 1, h => by
    simp only [le, List.getElem?_cons_succ]
    rw [le_get n (v / 256) i (by omega), Nat.div_div_eq_div_mul, Nat.pow_succ, Nat.mul_comm 256]
theorem le_take_succ (n v k : Nat) (h : k < n) : (le n v).take (k + 1) = (le n v).take k ++ [UInt8.ofNat (v / 256 ^ k)] := by
  have hk : k < (le n v).length := by rw [le_length]; exact h
  rw [List.take_succ_eq_append_getElem hk]
  congr 2
  have := le_get n v k h
  rw [List.getElem?_eq_getElem hk] at this
  exact Option.some.inj this
theorem le_take_all (n v : Nat) : (le n v).take n = le n v := by rw [List.take_of_length_le (by rw [le_length]; exact Nat.le_refl _)]
theorem ofNat_mod (n : Nat) : UInt8.ofNat (n % 256) = UInt8.ofNat n := by
  apply UInt8.toNat_inj.1
  simp [UInt8.toNat_ofNat']
theorem bit_shift_div (x : BitVec 64) (n : Nat) : (x >>> n).toNat = x.toNat / 2 ^ n := by
  rw [BitVec.toNat_ushiftRight, Nat.shiftRight_eq_div_pow]
theorem pow_256 (k : Nat) : 2 ^ (8 * k) = 256 ^ k := by rw [Nat.pow_mul]
def fillTo (l m : List UInt8) (k : Nat) : List UInt8 := l.take k ++ m.drop k
theorem fillTo_zero (l m : List UInt8) : fillTo l m 0 = m := by simp [fillTo]
theorem fillTo_all {l m : List UInt8} {n : Nat} (h : l.length = n) (h' : m.length = n) : fillTo l m n = l := by
  subst h
  simp only [fillTo]
  rw [List.take_length, List.drop_of_length_le (by omega), List.append_nil]
theorem fillTo_length {l m : List UInt8} (h : l.length = m.length) (k : Nat) : (fillTo l m k).length = l.length := by
  simp [fillTo, h]; omega
theorem fill_step {l m : List UInt8} {k : Nat} {c : UInt8} (hc : l[k]? = some c) (h : l.length = m.length) : ((fillTo l m k).map bv).set k (bv c) = (fillTo l m (k + 1)).map bv := by
  obtain ⟨hk, rfl⟩ := List.getElem?_eq_some_iff.1 hc
  rw [← List.map_set]
  congr 1
  unfold fillTo
  rw [List.set_append]
  simp only [List.length_take]
  rw [if_neg (by omega), show k - min k l.length = 0 by omega]
  rw [List.take_succ_eq_append_getElem hk, List.append_assoc]
  congr 1
  rw [List.drop_eq_getElem_cons (show k < m.length by omega)]
  rfl
theorem fill_len {l m : List UInt8} {k : Nat} (h : l.length = m.length) : ((fillTo l m k).map bv).length = l.length := by rw [List.length_map, fillTo_length h]
def zs (n : Nat) : List UInt8 := List.replicate n 0
theorem zs_bv (n : Nat) : (zs n).map bv = List.replicate n (Value.int IntKind.u8 0) := by simp [zs]
theorem zs_length (n : Nat) : (zs n).length = n := by simp [zs]
def checkW (at_ : BitVec 64) (v : BitVec 32) : BitVec 32 := sumOn 0 (le 8 at_.toNat ++ le 4 v.toNat)
def sealW (at_ : BitVec 64) (v : BitVec 32) : BitVec 64 := if v = 0 then 0 else ((checkW at_ v).setWidth 64 <<< 32) ||| v.setWidth 64
theorem wrap_u64_int (n : Int) : IntKind.u64.wrap n = ((BitVec.ofInt 64 n).toNat : Int) := by
  simp [IntKind.wrap, IntKind.signed, IntKind.bits, BitVec.toNat_ofInt]
  omega
theorem wrap_u32_int (n : Int) : IntKind.u32.wrap n = ((BitVec.ofInt 32 n).toNat : Int) := by
  simp [IntKind.wrap, IntKind.signed, IntKind.bits, BitVec.toNat_ofInt]
  omega
theorem u64_of32 (v : BitVec 32) : IntKind.u64.wrap (v.toNat : Int) = ((v.setWidth 64).toNat : Int) := by
  rw [wrap_u64 (by omega) (by have := v.isLt; omega)]
  simp [BitVec.toNat_setWidth]
  have := v.isLt; omega
theorem le_take {n m : Nat} : ∀ {v : Nat}, n ≤ m → (le m v).take n = le n v := by
  induction n generalizing m with
  | zero => intro v h; simp [le]
  | succ n ih =>
    intro v h
    obtain ⟨m, rfl⟩ : ∃ k, m = k + 1 := ⟨m - 1, by omega⟩
    simp only [le, List.take_succ_cons]
    rw [ih (by omega)]
theorem bv_ne64 {x y : BitVec 64} (h : ((x.toNat : Int) != (y.toNat : Int)) = true) : x ≠ y := by
  intro e; subst e; simp at h
theorem bv_eq64 {x y : BitVec 64} (h : ((x.toNat : Int) != (y.toNat : Int)) = false) : x = y := by
  apply BitVec.eq_of_toNat_eq
  have : (x.toNat : Int) = (y.toNat : Int) := by simpa using h
  omega
theorem conv_u32_64 (x : BitVec 64) : IntKind.u32.wrap (x.toNat : Int) = ((x.setWidth 32).toNat : Int) := by
  rw [wrap_u32_nat]
  congr 1
def unsealV (a x : BitVec 64) : Value := if sealW a (x.setWidth 32) = x then .tuple #[b32 (x.setWidth 32), .int .i64 0] else .tuple #[.int .u32 0, .int .i64 21]
theorem unseal_yes {a x : BitVec 64} (h : sealW a (x.setWidth 32) = x) : unsealV a x = .tuple #[b32 (x.setWidth 32), .int .i64 0] := by simp [unsealV, h]
theorem unseal_no {a x : BitVec 64} (h : sealW a (x.setWidth 32) ≠ x) : unsealV a x = .tuple #[.int .u32 0, .int .i64 21] := by simp [unsealV, h]
theorem seal_zero {a : BitVec 64} {v : BitVec 32} (h : v = 0) : sealW a v = 0 := by simp [sealW, h]
theorem seal_some {a : BitVec 64} {v : BitVec 32} (h : v ≠ 0) : sealW a v = ((checkW a v).setWidth 64 <<< 32) ||| v.setWidth 64 := by unfold sealW; rw [if_neg h]
def closeL (l : List UInt8) : List UInt8 := l.take 60 ++ le 4 (sumOn 0 (l.take 60)).toNat
theorem closeL_length {l : List UInt8} (h : l.length = 64) : (closeL l).length = 64 := by simp [closeL, le_length, h]
theorem closeL_get {l : List UInt8} {k : Nat} (h : l.length = 64) (hk : k < 4) : (closeL l)[60 + k]? = some (UInt8.ofNat ((sumOn 0 (l.take 60)).toNat / 256 ^ k)) := by
  unfold closeL
  rw [List.getElem?_append_right (by simp [h]), show 60 + k - (l.take 60).length = k by simp [h]]
  exact le_get 4 _ k hk
theorem closeL_fill {l : List UInt8} (h : l.length = 64) : fillTo (closeL l) l 60 = l := by
  have e : (closeL l).take 60 = l.take 60 := by
    unfold closeL
    rw [List.take_append_of_le_length (by simp [h]), List.take_of_length_le (by simp; omega)]
  rw [fillTo, e, List.take_append_drop]
theorem fill_done {l : List UInt8} (h : l.length = 64) : fillTo (closeL l) l 64 = closeL l := fillTo_all (closeL_length h) h
def wholeB (l : List UInt8) : Bool := decide (closeL l = l)
theorem shr32_div (x : BitVec 32) (n : Nat) : (x >>> n).toNat = x.toNat / 2 ^ n := by
  rw [BitVec.toNat_ushiftRight, Nat.shiftRight_eq_div_pow]
end Go.Wk
namespace Go.Wk
open Go
abbrev brow (e : Nat) (v : Value) (l : List UInt8) : Res := rowR v e 1 l.length (l.map bv)
theorem brow_snoc (e : Nat) (v : Value) (l : List UInt8) (c : UInt8) : rowR v e 1 (l.length + 1) (l.map bv ++ [bv c]) = brow e v (l ++ [c]) := by simp [brow]
def poly : BitVec 32 := 0xEDB88320
def bit (r : BitVec 32) : BitVec 32 := if (r &&& 1) = 1 then (r >>> 1) ^^^ poly else r >>> 1
def bitN : Nat → BitVec 32 → BitVec 32
  | 0, r => r
  | k + 1, r => bit (bitN k r)
theorem and_one (r : BitVec 32) : (r &&& 1) = if r.getLsbD 0 then 1 else 0 := by
  apply BitVec.eq_of_toNat_eq
  have h1 : (r &&& 1).toNat = r.toNat % 2 := by rw [BitVec.toNat_and]; exact Nat.and_one_is_mod _
  have h2 : r.getLsbD 0 = decide (r.toNat % 2 = 1) := by rw [BitVec.getLsbD, Nat.testBit_zero]
  rw [h1, h2]
  by_cases h : r.toNat % 2 = 1
  · simp [h]
  · have : r.toNat % 2 = 0 := by omega
    simp [this]
theorem bit_eq (r : BitVec 32) : bit r = (r >>> 1) ^^^ (if r.getLsbD 0 then poly else 0) := by
  unfold bit
  rw [and_one]
  cases r.getLsbD 0 <;> simp
theorem bit_xor (x y : BitVec 32) : bit (x ^^^ y) = bit x ^^^ bit y := by
  rw [bit_eq, bit_eq, bit_eq, BitVec.ushiftRight_xor_distrib, BitVec.getLsbD_xor]
  cases x.getLsbD 0 <;> cases y.getLsbD 0 <;> simp [BitVec.xor_assoc]
  · rw [BitVec.xor_comm]
  · rw [← BitVec.xor_assoc poly, BitVec.xor_comm poly (y >>> 1), BitVec.xor_assoc, BitVec.xor_self, BitVec.xor_zero]
theorem bitN_xor (k : Nat) (x y : BitVec 32) : bitN k (x ^^^ y) = bitN k x ^^^ bitN k y := by
  induction k with
  | zero => rfl
  | succ k ih => simp only [bitN, ih, bit_xor]
theorem bit_even (q : BitVec 32) (k : Nat) (hq : q.toNat < 2 ^ 28) (hk : k < 4) : bit (q <<< (k + 1)) = q <<< k := by
  have hp : (2 : Nat) ^ k ≤ 8 := by
    have : k = 0 ∨ k = 1 ∨ k = 2 ∨ k = 3 := by omega
    rcases this with h | h | h | h <;> subst h <;> decide
  have hlt : q.toNat * 2 ^ (k + 1) < 2 ^ 32 := by
    rw [Nat.pow_succ]
    have : q.toNat * (2 ^ k * 2) ≤ q.toNat * 16 := Nat.mul_le_mul_left _ (by omega)
    omega
  have hlt' : q.toNat * 2 ^ k < 2 ^ 32 := by
    have : q.toNat * 2 ^ k ≤ q.toNat * 8 := Nat.mul_le_mul_left _ hp
    omega
  have e1 : (q <<< (k + 1)).toNat = q.toNat * 2 ^ (k + 1) := by rw [BitVec.toNat_shiftLeft, Nat.shiftLeft_eq, Nat.mod_eq_of_lt hlt]
  have h0 : (q <<< (k + 1)).getLsbD 0 = false := by simp
  rw [bit_eq, h0]
  simp only [Bool.false_eq_true, if_false]
  rw [show ∀ x : BitVec 32, x ^^^ 0 = x from fun x => BitVec.xor_zero]
  apply BitVec.eq_of_toNat_eq
  rw [BitVec.toNat_ushiftRight, e1, BitVec.toNat_shiftLeft, Nat.shiftLeft_eq, Nat.mod_eq_of_lt hlt', Nat.shiftRight_eq_div_pow, Nat.pow_succ, ← Nat.mul_assoc]
  simp
theorem bitN_shl (q : BitVec 32) (hq : q.toNat < 2 ^ 28) : bitN 4 (q <<< 4) = q := by
  show bit (bit (bit (bit (q <<< 4)))) = q
  rw [bit_even q 3 hq (by decide), bit_even q 2 hq (by decide), bit_even q 1 hq (by decide), bit_even q 0 hq (by decide)]
  simp
theorem tab_bits : ∀ i, i < 16 → bitN 4 (BitVec.ofNat 32 i) = tabv i := by decide
theorem split4 (r : BitVec 32) : r = ((r >>> 4) <<< 4) ^^^ (r &&& 15) := by
  apply BitVec.eq_of_getLsbD_eq
  intro i hi
  rw [BitVec.getLsbD_xor, BitVec.getLsbD_and, BitVec.getLsbD_shiftLeft, BitVec.getLsbD_ushiftRight]
  have h15 : (15 : BitVec 32).getLsbD i = decide (i < 4) := by
    have : ∀ j, j < 32 → (15 : BitVec 32).getLsbD j = decide (j < 4) := by decide
    exact this i hi
  rw [h15]
  by_cases h : i < 4
  · simp [h]
  · simp [h, hi, show 4 + (i - 4) = i by omega]
theorem bitN_four (r : BitVec 32) : bitN 4 r = step4 r := by
  have hq : (r >>> 4).toNat < 2 ^ 28 := by
    rw [BitVec.toNat_ushiftRight, Nat.shiftRight_eq_div_pow]
    have := r.isLt
    omega
  have hl := and15_lt r
  have e : r &&& 15 = BitVec.ofNat 32 (r &&& 15).toNat := by simp
  calc bitN 4 r = bitN 4 (((r >>> 4) <<< 4) ^^^ (r &&& 15)) := by rw [← split4]
    _ = bitN 4 ((r >>> 4) <<< 4) ^^^ bitN 4 (r &&& 15) := bitN_xor 4 _ _
    _ = (r >>> 4) ^^^ tabv (r &&& 15).toNat := by rw [bitN_shl _ hq, e, tab_bits _ hl, ← e]
    _ = step4 r := by rw [BitVec.xor_comm]; rfl
theorem bitN_eight (r : BitVec 32) : bitN 8 r = step4 (step4 r) := by
  show bitN 4 (bitN 4 r) = _
  rw [bitN_four, bitN_four]
theorem crcByte_bits (r : BitVec 32) (c : UInt8) : bitN 8 (r ^^^ BitVec.ofNat 32 c.toNat) = crcByte r c := bitN_eight _
def fromLe : List UInt8 → Nat
  | [] => 0
  | c :: l => c.toNat + 256 * fromLe l
theorem fromLe_lt : ∀ l, fromLe l < 256 ^ l.length
  | [] => by simp [fromLe]
  | c :: l => by
    have := fromLe_lt l
    have hc := c.toNat_lt
    simp only [fromLe, List.length_cons, Nat.pow_succ]
    omega
theorem fromLe_le : ∀ n v, v < 256 ^ n → fromLe (le n v) = v
  | 0, v, h => by simp at h; simp [le, fromLe, h]
  | n + 1, v, h => by
    simp only [le, fromLe]
    rw [fromLe_le n (v / 256) (by rw [Nat.pow_succ] at h; exact Nat.div_lt_of_lt_mul (by rw [Nat.mul_comm]; exact h)), UInt8.toNat_ofNat']
    have := Nat.div_add_mod v 256
    simp
    omega
theorem le_fromLe : ∀ l, le l.length (fromLe l) = l
  | [] => rfl
  | c :: l => by
    simp only [fromLe, List.length_cons, le]
    have hc := c.toNat_lt
    rw [show (c.toNat + 256 * fromLe l) / 256 = fromLe l by omega, le_fromLe l]
    congr 1
    apply UInt8.toNat_inj.1
    rw [UInt8.toNat_ofNat']
    omega
end Go.Wk
namespace Go.Wk
open Go
section
variable {P : Program} {Γ : Ctx} {E : Env} {H : List Res} {ops : Array Oper} {Q : Exit → Act → World → Prop} {rest : List Oper}
  {d : Nat} {dst : Option Tmp} {g : Option (Nat × Bool)} {ty : TypeId} {pos : String} {after : Array Edge} {x y z : Operand} {v u : Value}
theorem copyStr_step {i dT sT e m c o b U : Nat} {s : ByteArray} {cs : List Value} (ht : P.underlying dT = some (.slice e)) (hz : ∀ w, (sizeOf e).run P w = .ok 1 w)
    (hx : ev E x = some (.slice (some ⟨b, o, none⟩) m c)) (hy : ev E y = some (.string s)) (hi : H[i]? = some (blk b U cs)) (hm : s.size ≤ m) (ho : o + s.size ≤ cs.length) (a : Act) (w : World) (ha : Agrees Γ.n Γ.D E a) (hw : Rep Γ.w0 Γ.S H w) :
    ∃ w', (execOp a.eval { dst := some d, op := .call { callee := .builtin .copy, args := #[x, y], argTypes := #[dT, sT] }, type := ty, pos, after, guard := none }).run P w = .ok (.value (.int .i64 s.size)) w' ∧
      Rep Γ.w0 Γ.S (H.set i (blk b U (putAt cs o (s.data.toList.map bv)))) w' := by
  have hl : (s.data.toList.map bv).length = s.size := by rw [List.length_map]; exact Array.length_toList
  obtain ⟨w', hr, hw'⟩ := storeCells_list (P := P) (s.data.toList.map bv) o 0 cs H w hw hi (by rw [hl]; omega) (by intro v hv; obtain ⟨q, _, rfl⟩ := List.mem_map.1 hv; rfl)
  refine ⟨w', ?_, hw'⟩
  have hmin : Nat.min s.size m = s.size := Nat.min_eq_left hm
  have h0 : (Builtin.copy_ #[dT, sT] ty #[.slice (some ⟨b, o, none⟩) m c, .string s]).run P w = .ok (goInt s.size) w' := by
    simp [Builtin.copy_, run_underlying ht, Builtin.lenOf, Builtin.firstCells, hz, hmin]
    rw [List.take_of_length_le (by rw [List.length_map]; exact Nat.le_of_eq Array.length_toList)]
    rw [show (s.data.toList.map fun b : UInt8 => Value.int IntKind.u8 (b.toNat : Int)) = s.data.toList.map bv from rfl, hr]
    rfl
  simp [execOp, resolve, invoke, builtin, ha.eval hx, ha.eval hy, Sem.run_bind, h0, goInt]
end
def Use (P : Program) (f : FuncId) (vs : List Value) (r : Res) (v : Value) (w : World) : Prop := Calls P f vs.toArray w fun e w' => e = .returned v ∧ Rep w (feet [r]) [] w'
theorem At.callU {P : Program} {Γ : Ctx} {E : Env} {H : List Res} {ops : Array Oper} {Q : Exit → Act → World → Prop} {rest : List Oper} {d : Nat} {ty : TypeId} {pos : String} {after : Array Edge} {v : Value}
    (i : Nat) {r : Res} {f : FuncId} {l : List Operand} {vs : List Value} {at_ : Array TypeId} (hi : H[i]? = some r) (h : ∀ w, Rep Γ.w0 Γ.S H w → r.holds w → Use P f vs r v w)
    (hc : ∀ args w, (callFunc f args).run P w = .ok (.enter f args) w) (hv : evs E l = some vs) (hn : Nat.blt d Γ.n = true)
    (k : At Γ ((d, v) :: E) (H.eraseIdx i) (wpList P ops Q rest)) :
    At Γ E H (wpList P ops Q ({ dst := some d, op := .call { callee := .value (.func f), args := l.toArray, argTypes := at_ }, type := ty, pos, after, guard := none } :: rest)) :=
  At.call hc hv hn fun w hw => (h w hw (hw.all _ (List.mem_of_getElem? hi))).mono fun e w' ⟨he, hr⟩ => ⟨v, _, he, Rep.frame (H0 := [r]) (H0' := []) (hw.perm (erase_perm H i r hi)) hr, k⟩
def penC (a : List UInt8) : List Value := (a ++ zs (64 - a.length)).map bv ++ [.int .i64 (a.length : Nat)]
theorem penC_len {a : List UInt8} (h : a.length ≤ 64) : (penC a).length = 65 := by simp [penC, zs]; omega
theorem penC_at {a : List UInt8} (h : a.length ≤ 64) : (penC a)[64]? = some (.int .i64 (a.length : Nat)) := by
  have e : ((a ++ zs (64 - a.length)).map bv).length = 64 := by simp [zs]; omega
  unfold penC
  rw [List.getElem?_append_right (by omega), e]; rfl
theorem penC_at' {a : List UInt8} {v : Value} (h : a.length < 64) : ((penC a).set a.length v)[64]? = some (.int .i64 (a.length : Nat)) := by
  rw [List.getElem?_set_ne (by omega)]; exact penC_at (by omega)
theorem penC_line {a : List UInt8} (h : a.length ≤ 64) : ((penC a).drop 0).take 64 = (a ++ zs (64 - a.length)).map bv := by
  have e : ((a ++ zs (64 - a.length)).map bv).length = 64 := by simp [zs]; omega
  unfold penC
  rw [List.drop_zero, List.take_append_of_le_length (by omega), List.take_of_length_le (by omega)]
theorem penC_put {a s : List UInt8} (h : a.length + s.length ≤ 64) : (putAt (penC a) a.length (s.map bv)).set 64 (.int .i64 ((a.length + s.length : Nat) : Int)) = penC (a ++ s) := by
  have e1 : (penC a).take a.length = a.map bv := by unfold penC; rw [List.map_append, List.append_assoc, List.take_append_of_le_length (by simp), List.take_of_length_le (by simp)]
  have e2 : (penC a).drop (a.length + s.length) = (zs (64 - a.length - s.length)).map bv ++ [.int .i64 (a.length : Nat)] := by
    unfold penC
    rw [List.map_append, List.append_assoc, ← List.drop_drop, List.drop_append_of_le_length (by simp), List.drop_of_length_le (l := a.map bv) (by simp), List.nil_append,
      List.drop_append_of_le_length (by simp [zs]; omega)]
    congr 1
    simp [zs]
  unfold putAt
  rw [e1, List.length_map, e2]
  unfold penC
  rw [List.length_append, ← Nat.sub_sub, List.map_append, List.map_append]
  rw [show a.map bv ++ s.map bv ++ ((zs (64 - a.length - s.length)).map bv ++ [Value.int .i64 (a.length : Nat)]) = (a.map bv ++ s.map bv ++ (zs (64 - a.length - s.length)).map bv) ++ [Value.int .i64 (a.length : Nat)] from by simp]
  have e3 : (a.map bv ++ s.map bv ++ (zs (64 - a.length - s.length)).map bv).length = 64 := by simp [zs]; omega
  rw [List.set_append_right _ _ (by omega), e3]
  rfl
theorem penC_step {a : List UInt8} {c : UInt8} (h : a.length < 64) : ((penC a).set a.length (bv c)).set 64 (.int .i64 ((a.length + 1 : Nat) : Int)) = penC (a ++ [c]) := by
  have := penC_put (a := a) (s := [c]) (by simp; omega)
  rw [← this]
  congr 1
  unfold putAt
  rw [List.set_eq_take_append_cons_drop, if_pos (by rw [penC_len (by omega)]; omega)]
  simp
theorem penC_nil : penC [] = List.replicate 64 (Value.int .u8 0) ++ [Value.int .i64 0] := by simp [penC, zs]
end Go.Wk
namespace Go.Wk
open Go
section
variable {P : Program} {Γ : Ctx} {E : Env} {H : List Res} {ops : Array Oper} {Q : Exit → Act → World → Prop} {K : Act → World → Prop} {rest : List Oper} {ψ : Act → Prop}
  {d : Nat} {ty : TypeId} {pos : String} {after : Array Edge} {x : Operand} {v : Value}
theorem tM (hx : ev E x = some v) (hn : Nat.blt d Γ.n = true) (k : At Γ ((d, v) :: E) H (wpList P ops Q rest)) : At Γ E H (wpList P ops Q (({ dst := some d, op := .move x, type := ty, pos, after, guard := none } : Oper) :: rest)) := At.val (Val.move hx) rfl rfl hn k
theorem tA (hx : ev E x = some v) (hn : Nat.blt d Γ.n = true) (k : At Γ ((d, v) :: E) H (wpList P ops Q rest)) : At Γ E H (wpList P ops Q (({ dst := some d, op := .assign x, type := ty, pos, after, guard := none } : Oper) :: rest)) := At.val (Val.assign hx) rfl rfl hn k
theorem qM (hx : ev E x = some v) (hn : Nat.blt d Γ.n = true) (k : QAt P Γ ops ((d, v) :: E) H rest ψ) : QAt P Γ ops E H (({ dst := some d, op := .move x, type := ty, pos, after, guard := none } : Oper) :: rest) ψ := QAt.val (Val.move hx) rfl rfl hn k
theorem tE (k : At Γ E H K) : At Γ E H (wpList P ops (Exit.then K Q) []) := At.nil (At.thenN k)
theorem tR {id : Nat} {l : List Oper} {y : Code} (k : At Γ E H (wpList P l.toArray (Exit.then (y.wp P Q) Q) l)) : At Γ E H ((Code.seq (Code.region id l.toArray false) y).wp P Q) := At.seq (At.region k)
theorem tV {op : Op} (h : Val P Γ E H ⟨some d, op, ty, pos, after, none⟩ v) (hn : Nat.blt d Γ.n = true) (k : At Γ ((d, v) :: E) H (wpList P ops Q rest)) : At Γ E H (wpList P ops Q ((⟨some d, op, ty, pos, after, none⟩ : Oper) :: rest)) := At.val h rfl rfl hn k
theorem qV {op : Op} (h : Val P Γ E H ⟨some d, op, ty, pos, after, none⟩ v) (hn : Nat.blt d Γ.n = true) (k : QAt P Γ ops ((d, v) :: E) H rest ψ) : QAt P Γ ops E H ((⟨some d, op, ty, pos, after, none⟩ : Oper) :: rest) ψ := QAt.val h rfl rfl hn k
theorem sB : (∀ b : Bool, ((!b) = true) = (b = false)) ∧ (∀ b : Bool, ((!b) = false) = (b = true)) ∧ (∀ {α : Type} [BEq α] [LawfulBEq α] {a b : α}, (a != b) = true ↔ a ≠ b) ∧ (∀ {α : Type} {a b : α}, (a ≠ b) = ¬ a = b) ∧ (∀ {α : Type} [BEq α] [LawfulBEq α] {a b : α}, (a != b) = false ↔ a = b) ∧ (∀ {α : Type} [BEq α] [LawfulBEq α] {a b : α}, (a == b) = true ↔ a = b) ∧ (∀ {α : Type} [BEq α] [LawfulBEq α] {a b : α}, (a == b) = false ↔ a ≠ b) ∧ (∀ {p : Prop} [Decidable p], (decide p = true) = p) ∧ (∀ {p : Prop} [Decidable p], (decide p = false) ↔ ¬ p) ∧ (∀ {a b : Int}, a > b ↔ b < a) ∧ (∀ {a b : Int}, a ≥ b ↔ b ≤ a) ∧ (∀ {a b : Nat}, a > b ↔ b < a) ∧ (∀ {a b : Nat}, a ≥ b ↔ b ≤ a) :=
  ⟨fun b => Bool.not_eq_true' b, fun b => Bool.not_eq_false' b, bne_iff_ne, rfl, bne_eq_false_iff_eq, beq_iff_eq, beq_eq_false_iff_ne, decide_eq_true_eq, decide_eq_false_iff_not, Iff.rfl, Iff.rfl, Iff.rfl, Iff.rfl⟩
theorem sc0 {α : Type} {a b : α} {l : List α} : (a :: l).set 0 b = b :: l := rfl
theorem scS {α : Type} {a b : α} {l : List α} {n : Nat} : (a :: l).set (n + 1) b = a :: l.set n b := rfl
theorem ec0 {α : Type} {a : α} {l : List α} : (a :: l).eraseIdx 0 = l := rfl
theorem ecS {α : Type} {a : α} {l : List α} {n : Nat} : (a :: l).eraseIdx (n + 1) = a :: l.eraseIdx n := rfl
end
end Go.Wk
namespace Go.Wk
open Go Go.ChangeShapes Go.WideShapes Go.ChangeAt Go.RowKit
theorem Mod.below {w w' : World} (h : Mod (fun _ => False) w w') : Below w.heap.size w w' := ⟨h.os, h.tape, h.output, h.size, fun k hk => h.old k hk (fun h => h)⟩
section
variable {H : Type} {enc : TypeId × Value → H} {P : Program}
theorem trodAll_stays (hl : laidOutB P = true) {W W' : World} {sp' : Nat → Bool} (hm : Mod (fun _ => False) W W') : ∀ {ts : List TypeId} {vs : List Value} {ds : List (DataW H)} {ps : List MemPlace}, (∀ t ∈ ts, P.readableRec t = true ∧ t < P.types.size) →
    DataW.TrodAll enc P W 0 (fun _ => true) true ts vs ds ps → (∀ p ∈ ps, p.block < W.heap.size) → (∀ p ∈ ps, sp' p.block = true) → DataW.TrodAll enc P W' 0 sp' true ts vs ds ps
  | [], vs, ds, ps, _, h, _, _ => by
    obtain ⟨rfl, rfl, rfl⟩ := trodAll_nil h
    exact rfl
  | t :: ts, vs, ds, ps, ht, h, hlt, hs => by
    obtain ⟨v, vs', d, ds', p, q, rfl, rfl, rfl, h1, h2⟩ := trodAll_cons h
    have h0 := ht t (List.mem_cons_self ..)
    exact ⟨p, q, WideElems.Trod_stays hl h0.1 h0.2 h1 (fun x hx => hm.below.same (hlt x (List.mem_append_left _ hx))) (fun x hx => hs x (List.mem_append_left _ hx)),
      trodAll_stays hl hm (fun t ht' => ht t (List.mem_cons_of_mem _ ht')) h2 (fun x hx => hlt x (List.mem_append_right _ hx)) (fun x hx => hs x (List.mem_append_right _ hx)), rfl⟩
theorem law_post (hl : laidOutB P = true) {f : Func} {s : ChangeSpec} {W W' : World} {args : Array Value} {ds gs : List (DataW H)} {before : List MemPlace} {bt : TypeId}
    (hrd : ∀ t ∈ f.params.toList, P.readableRec t = true ∧ t < P.types.size) (hv : s.vars = [])
    (hW : DataW.Whole enc P f.params.toList s.vars false W args.toList ds gs before) (hs : s.fn H (ds ++ gs) = { results := [.lit (.bool true)], args := ds })
    (hr : f.resultTypes = #[bt]) (hb : P.underlying bt = some .bool) (hm : Mod (fun _ => False) W W') : s.post enc P f false true false false W args (.bool true) W' := by
  have hW' := hW
  obtain ⟨p, q, hA, hV, rfl, hfz, hnd⟩ := hW
  have hV' := hV
  rw [hv] at hV'
  obtain ⟨rfl, rfl⟩ := trodVars_none hV'
  have hlt : ∀ x ∈ p, x.block < W.heap.size := fun x hx => hW'.lt x (by simpa using hx)
  have hargs : ∀ sp : Nat → Bool, (∀ x ∈ p, sp x.block = true) → DataW.TrodAll enc P W' 0 sp true f.params.toList args.toList ds p := fun sp hsp => trodAll_stays hl hm hrd hA hlt hsp
  have hres : ∀ (b : Nat) (sp : Nat → Bool) (hd : Bool), DataW.TrodAll enc P W' b sp hd f.resultTypes.toList ((Value.bool true).resultList f.resultTypes.size) [.lit (.bool true)] [] := fun b sp hd => by
    rw [hr]; exact trodAll_mk1 (shut_bool hb _)
  have hold : ∀ x ∈ p, (fun b => decide (b < W.heap.size)) x.block = true := fun x hx => by simpa using hlt x hx
  refine ⟨ds, [], p ++ [], [], p, [], hW', by rw [hs]; exact hres _ _ _, by rw [hs]; exact hargs _ hold, by rw [hs, hv]; rfl, hm.below.frame _, fun _ => ⟨ok_one hr rfl (okWide_bool_mk hb _), _, [], ([] ++ p) ++ [], ⟨[] ++ p, [], trodAll_append (hargs _ (fun _ _ => rfl)) (hres _ _ _), by rw [hv]; exact (show DataW.TrodVars enc P W' (fun _ => true) [] [] [] from rfl), rfl, ?_, fun h => by cases h⟩, ?_⟩⟩
  · intro b off hp
    have hp' : MemPlace.cell b off ∈ p := by simpa using hp
    have h1 := hm.below.frozen (p := ⟨b, off, none⟩) (hlt _ hp')
    rw [h1]
    exact hfz b off (by simpa using hp')
  · intro x hx _
    simpa using hx
end
end Go.Wk
namespace Go.Wk
open Go Go.ChangeShapes Go.WideShapes Go.ChangeAt Go.RowKit
section
variable {P : Program} {w : World} {r : Reach} {base : Nat}
theorem has64 {n : Int} (h : IntKind.i64.has n) : -9223372036854775808 ≤ n ∧ n ≤ 9223372036854775807 := by
  simpa [IntKind.has, IntKind.min, IntKind.max, IntKind.signed, IntKind.bits] using h
theorem hasU64 {n : Int} (h : IntKind.u64.has n) : ∃ x : BitVec 64, n = (x.toNat : Int) := by
  have h' : 0 ≤ n ∧ n ≤ 18446744073709551615 := by simpa [IntKind.has, IntKind.min, IntKind.max, IntKind.signed, IntKind.bits] using h
  exact ⟨BitVec.ofNat 64 n.toNat, by simp only [BitVec.toNat_ofNat]; omega⟩
theorem hasU32 {n : Int} (h : IntKind.u32.has n) : ∃ x : BitVec 32, n = (x.toNat : Int) := by
  have h' : 0 ≤ n ∧ n ≤ 4294967295 := by simpa [IntKind.has, IntKind.min, IntKind.max, IntKind.signed, IntKind.bits] using h
  exact ⟨BitVec.ofNat 32 n.toNat, by simp only [BitVec.toNat_ofNat]; omega⟩
theorem hasU8 {n : Int} (h : IntKind.u8.has n) : ∃ x : UInt8, n = (x.toNat : Int) := by
  have h' : 0 ≤ n ∧ n ≤ 255 := by simpa [IntKind.has, IntKind.min, IntKind.max, IntKind.signed, IntKind.bits] using h
  exact ⟨UInt8.ofNat n.toNat, by rw [UInt8.toNat_ofNat']; omega⟩
theorem list_bytes : ∀ {cs : List Value}, (∀ v ∈ cs, ∃ n, v = .int .u8 n ∧ IntKind.u8.has n) → ∃ l : List UInt8, cs = l.map bv
  | [], _ => ⟨[], rfl⟩
  | v :: cs, h => by
    obtain ⟨n, rfl, hn⟩ := h v (List.mem_cons_self ..)
    obtain ⟨x, rfl⟩ := hasU8 hn
    obtain ⟨l, rfl⟩ := list_bytes (cs := cs) (fun v hv => h v (List.mem_cons_of_mem _ hv))
    exact ⟨x :: l, rfl⟩
end
end Go.Wk
namespace Go.Proofs.YthdmlpjhcalliaaGreatDoor
open Go Go.Wk Go.ChangeShapes Go.WideShapes Go.ChangeAt Go.RowKit
theorem law_own : ownKnob Tryz.prog.godebug = none := by kernel_rfl
theorem law_laidOut : laidOutB Tryz.prog = true := by kernel_rfl
theorem gTab : Tryz.prog.globalNamed "furrow/codec.steps" = some 0 := by kernel_rfl
theorem gTabType : (Tryz.prog.globals[0]?).map (·.type) = some 167 := by kernel_rfl
theorem cellsTab : Tryz.prog.cellsOf 167 = 16 := by kernel_rfl
theorem cells32 : Tryz.prog.cellsOf 41 = 1 := by kernel_rfl
def steps : List Int := [0, 498536548, 997073096, 651767980, 1994146192, 1802195444, 1303535960, 1342533948, 3988292384, 4027552580, 3604390888, 3412177804, 2607071920, 2262029012, 2685067896, 3183342108]
theorem tab_of {W : World} (h : laidMetH Tryz.prog [("furrow/codec.steps", Rows.laid_furrow_codec_steps)] W) : Tab W := fun i hi => by
  have ht : Lib.TabIs Tryz.prog W "furrow/codec.steps" .u32 steps := Lib.tabIs_of_head (rest := []) gTab gTabType Tryz.underlying167 Tryz.underlying41 cells32 cellsTab h
  have hc := ht.cell gTab i (by simpa [steps] using hi)
  rw [hc]
  have h2 : ∀ i, i < 16 → steps.getD i 0 = ((tabv i).toNat : Int) := by decide
  rw [h2 i hi]
noncomputable def laidWorld (os : Os) : World :=
  { World.holding Tryz.prog os ⟨#[], #[], []⟩ with heap := (World.holding Tryz.prog os ⟨#[], #[], []⟩).heap.modify 0 fun
      | .cells _ t frozen => .cells #[.int .u32 0, .int .u32 498536548, .int .u32 997073096, .int .u32 651767980, .int .u32 1994146192, .int .u32 1802195444, .int .u32 1303535960, .int .u32 1342533948, .int .u32 3988292384, .int .u32 4027552580, .int .u32 3604390888, .int .u32 3412177804, .int .u32 2607071920, .int .u32 2262029012, .int .u32 2685067896, .int .u32 3183342108] t frozen
      | o => o }
end Go.Proofs.YthdmlpjhcalliaaGreatDoor
namespace Go
section
variable {P : Program} {ops : Array Oper} {md : Region.Mode} {G : Nat → Sem Next → Value → Prop}
def GY (ops : Array Oper) (gi : Sem Next → Value → Prop) (o : Oper) (v : Value) (a : Act) : Prop :=
  (Region.wanted o (yielded ops a.tmps) = true ∧ gi (execOp a.eval o) v) ∨ (Region.wanted o (yielded ops a.tmps) = false ∧ v = undef)
def gOp (ops : Array Oper) (G : Nat → Sem Next → Value → Prop) (i : Nat) (K : Act → Prop) (a : Act) : Prop :=
  match ops[i]? with
  | none => K a
  | some o => ∃ v, GY ops (G i) o v a ∧ K (a.put o.dst v)
theorem gOp_mono {i : Nat} {a : Act} {K K' : Act → Prop} (h : ∀ a, K a → K' a) (hh : gOp ops G i K a) : gOp ops G i K' a := by
  unfold gOp at *
  split
  · exact h _ (by simpa [*] using hh)
  · rename_i o ho
    simp only [ho] at hh
    obtain ⟨v, h1, h2⟩ := hh
    exact ⟨v, h1, h _ h2⟩
theorem GY.gOp {i : Nat} {o : Oper} {v : Value} {a : Act} (hi : ops[i]? = some o) (hy : GY ops (G i) o v a) {K : Act → Prop} (h : K (a.put o.dst v)) : gOp ops G i K a := by
  unfold Go.gOp
  simp only [hi]
  exact ⟨v, hy, h⟩
theorem gOp_put {i j : Nat} {oi oj : Oper} {v : Value} (hj : ops[j]? = some oj) (hap : oi.apart ops oj = true)
    (hsi : ∀ cs b, oi.op ≠ .select cs b) (hsj : ∀ cs b, oj.op ≠ .select cs b) {K : Act → Prop} {a : Act}
    (hy : GY ops (G i) oi v a) (h : gOp ops G j K (a.put oi.dst v)) : gOp ops G j (fun a' => GY ops (G i) oi v a' ∧ K (a'.put oi.dst v)) a := by
  obtain ⟨h1, h2, h3⟩ := Oper.apart_spec hap
  unfold gOp at *
  simp only [hj] at *
  obtain ⟨u, hu, hn⟩ := h
  refine ⟨u, ?_, ?_, by rw [← Act.put_comm a v u h2]; exact hn⟩
  · unfold GY at *
    rw [wanted_put oj a oi.dst v h1, execOp_put oj hsj a oi.dst v h1] at hu
    exact hu
  · unfold GY at *
    rw [wanted_put oi a oj.dst u h3, execOp_put oi hsi a oj.dst u h3]
    exact hy
def wpAnyG (md : Region.Mode) (ops : Array Oper) (G : Nat → Sem Next → Value → Prop) (n : Nat) (L : Array Bool → Act → Prop) : Nat → Array Bool → Act → Prop
  | 0, listed, a => L listed a
  | f + 1, listed, a => Region.ready md ops listed ≠ [] ∧ ∀ i ∈ Region.ready md ops listed, i < n ∧ gOp ops G i (wpAnyG md ops G n L f (listed.setIfInBounds i true)) a
theorem wpAnyG_first {n i : Nat} {oi : Oper} {v : Value} {L : Array Bool → Act → Prop} (hi : ops[i]? = some oi) (hsel : ∀ (j : Nat) (o : Oper) cs b, ops[j]? = some o → o.op ≠ .select cs b)
    (hs : Region.sinkB md ops n = true) (hc : Region.chainB md ops n = true) (hn : n < ops.size) (hin : i < n)
    (hdone : ∀ listed a, L listed a → ∀ j ∈ Region.ready md ops listed, n ≤ j) :
    ∀ (f : Nat) (listed : Array Bool) (a : Act), HeadInv md ops n listed →
      (∀ j oj, ops[j]? = some oj → j ≠ i → listed.getD j true = false → (∀ e ∈ oj.after, Region.binds md e = true → e.on ≠ i) → oi.apart ops oj = true) →
      i ∈ Region.ready md ops listed → GY ops (G i) oi v a →
      wpAnyG md ops G n L f (listed.setIfInBounds i true) (a.put oi.dst v) → wpAnyG md ops G n L (f + 1) listed a := by
  intro f
  induction f with
  | zero =>
    intro listed a inv _ hr hy H
    have hun := (mem_ready.1 hr).1
    refine ⟨fun h => (by rw [h] at hr; cases hr), fun j hj => ?_⟩
    have hjn : j < n := by
      rcases Nat.lt_or_ge j n with h | h
      · exact h
      · exact absurd hj (tail_waits hs hc hn inv _ i rfl hin hun j h)
    refine ⟨hjn, ?_⟩
    by_cases hji : j = i
    · subst hji; exact hy.gOp hi H
    · have := hdone _ _ H j (ready_mono hj hji)
      omega
  | succ f ih =>
    intro listed a inv hfree hr hy H
    have hun := (mem_ready.1 hr).1
    refine ⟨fun h => (by rw [h] at hr; cases hr), fun j hj => ?_⟩
    have hjn : j < n := by
      rcases Nat.lt_or_ge j n with h | h
      · exact h
      · exact absurd hj (tail_waits hs hc hn inv _ i rfl hin hun j h)
    refine ⟨hjn, ?_⟩
    by_cases hji : j = i
    · subst hji; exact hy.gOp hi H
    · have h1 := (H.2 j (ready_mono hj hji)).2
      obtain ⟨hjun, oj, hoj, hall⟩ := mem_ready.1 hj
      have hnot : ∀ e ∈ oj.after, Region.binds md e = true → e.on ≠ i := fun e he hb heq => by
        have h1 := hall e he hb
        rw [heq, getD_both hun] at h1
        cases h1
      have h2 := gOp_put hoj (hfree j oj hoj hji hjun hnot) (fun cs b => hsel i oi cs b hi) (fun cs b => hsel j oj cs b hoj) hy h1
      have hfree' : ∀ k ok, ops[k]? = some ok → k ≠ i → (listed.setIfInBounds j true).getD k true = false →
          (∀ e ∈ ok.after, Region.binds md e = true → e.on ≠ i) → oi.apart ops ok = true := fun k ok hk hki hun hno => by
        refine hfree k ok hk hki ?_ hno
        by_cases hjk : j = k
        · subst hjk; exact hjun
        · rw [getD_set_ne true hjk] at hun; exact hun
      refine gOp_mono (fun a' h3 => ih (listed.setIfInBounds j true) a' (inv.set hj hjn) hfree' (ready_mono hr (Ne.symm hji)) h3.1 ?_) h2
      rw [Array.setIfInBounds_comm _ _ hji]
      exact h3.2
def wpG (ops : Array Oper) (G : Nat → Sem Next → Value → Prop) (Q : Act → Prop) : Nat → List Oper → Act → Prop
  | _, [], a => Q a
  | k, o :: rest, a => ∃ v, GY ops (G k) o v a ∧ wpG ops G Q (k + 1) rest (a.put o.dst v)
theorem wpAnyG_lex {n g : Nat} {Lq : Act → Prop} (hsel : Region.noSelect ops = true) (hs : Region.sinkB md ops n = true) (hc : Region.chainB md ops n = true) (hn : n < ops.size) :
    ∀ (l : List Oper) (k : Nat) (listed : Array Bool) (a : Act), (∀ j, j < l.length → l[j]? = ops[k + j]?) → k + l.length = n → HeadInv md ops n listed →
    Region.lexHead md ops g l.length k listed = true → wpG ops G Lq k l a →
    wpAnyG md ops G n (fun listed' a' => HeadInv md ops n listed' ∧ Region.seqB md ops g n listed' = true ∧ Lq a') l.length listed a
  | [], k, listed, a, _, hk, inv, hB, h => by
    have : k = n := by simpa using hk
    subst this
    exact ⟨inv, by simpa [Region.lexHead] using hB, h⟩
  | o :: l, k, listed, a, hl, hk, inv, hB, h => by
    have h0 : ops[k]? = some o := by simpa using (hl 0 (by simp)).symm
    simp only [List.length_cons, Region.lexHead, Bool.and_eq_true] at hB
    obtain ⟨⟨hr, hf⟩, hB'⟩ := hB
    have hkn : k < n := by simp only [List.length_cons] at hk; omega
    have hr' : k ∈ Region.ready md ops listed := by simpa using hr
    obtain ⟨v, hy, hK⟩ := h
    exact wpAnyG_first h0 (Region.noSelect_spec hsel) hs hc hn hkn (fun listed' a' hL => seqB_ready hL.2.1) l.length listed a inv (Region.free_spec h0 hf) hr' hy
      (wpAnyG_lex hsel hs hc hn l (k + 1) _ _ (fun j hj => by have := hl (j + 1) (by simp; omega); simpa [Nat.add_assoc, Nat.add_comm 1 j] using this) (by simp only [List.length_cons] at hk; omega) (inv.set hr' hkn) hB' hK)
def midG (P : Program) (S R R' : World → Prop) (p : Nat) (i : Nat) (s : Sem Next) (v : Value) : Prop :=
  if i = p then ∀ w, R w → ∃ w', (s.run P w = .ok (.value v) w' ∨ (s.run P w = .ok .skip w' ∧ v = undef)) ∧ R' w' else ∀ w, S w → s.run P w = .ok (.value v) w
theorem wpAny_of_mid {S R R' : World → Prop} {p n g : Nat} {o : Oper} {L : Array Bool → Act → Prop} {Q : Exit → Act → World → Prop} (hp : ops[p]? = some o) (hg : o.guard = none) (hRS : ∀ w, R w → S w) (hRS' : ∀ w, R' w → S w)
    (hL : ∀ listed a w, L listed a → (listed.getD p true = true → R' w) → (listed.getD p true = false → False) ∧ wpAny P md ops Q g listed a w) :
    ∀ (f : Nat) (listed : Array Bool) (a : Act) (w : World), (listed.getD p true = false → R w) → (listed.getD p true = true → R' w) → p < listed.size →
    wpAnyG md ops (midG P S R R' p) n L f listed a → wpAny P md ops Q (f + g) listed a w
  | 0, listed, a, w, h1, h2, hsz, h => by rw [Nat.zero_add]; exact (hL _ _ _ h h2).2
  | f + 1, listed, a, w, h1, h2, hsz, h => by
    have hS : S w := by cases hb : listed.getD p true with
      | false => exact hRS _ (h1 hb)
      | true => exact hRS' _ (h2 hb)
    rw [show f + 1 + g = (f + g) + 1 by omega]
    refine ⟨fun h0 => absurd h0 h.1, fun i hi => ?_⟩
    have hq := (h.2 i hi).2
    obtain ⟨hun, oi, hoi, _⟩ := mem_ready.1 hi
    unfold gOp at hq
    unfold wpOp
    simp only [hoi] at hq ⊢
    obtain ⟨v, hy, hK⟩ := hq
    by_cases hip : i = p
    · subst hip
      have : oi = o := Option.some.inj (hoi.symm.trans hp)
      subst this
      have hw : Region.wanted oi (yielded ops a.tmps) = true := by simp [Region.wanted, hg]
      rcases hy with ⟨_, hy⟩ | ⟨hy, _⟩
      · simp only [midG, if_true] at hy
        obtain ⟨w', hr, hR'⟩ := hy w (h1 hun)
        rw [if_pos hw]
        have hset : (listed.setIfInBounds i true).getD i true = true := by simp [Array.getD_eq_getD_getElem?, Array.getElem?_setIfInBounds]; split <;> simp
        refine .inl ?_
        rcases hr with hr | ⟨hr, rfl⟩
        · simp only [Oper.wp, hr, Oper.upon]
          exact wpAny_of_mid hp hg hRS hRS' hL f _ _ w' (fun hf => by rw [hset] at hf; cases hf) (fun _ => hR') (by simpa using hsz) hK
        · simp only [Oper.wp, hr, Oper.upon]
          exact wpAny_of_mid hp hg hRS hRS' hL f _ _ w' (fun hf => by rw [hset] at hf; cases hf) (fun _ => hR') (by simpa using hsz) hK
      · rw [hw] at hy; cases hy
    · have hne : (listed.setIfInBounds i true).getD p true = listed.getD p true := getD_set_ne true hip
      rcases hy with ⟨hw, hy⟩ | ⟨hw, rfl⟩
      · simp only [midG, if_neg hip] at hy
        rw [if_pos hw]
        refine .inl ?_
        simp only [Oper.wp, hy w hS, Oper.upon]
        exact wpAny_of_mid hp hg hRS hRS' hL f _ _ w (by rw [hne]; exact h1) (by rw [hne]; exact h2) (by simpa using hsz) hK
      · rw [if_neg (by rw [hw]; simp)]
        exact wpAny_of_mid hp hg hRS hRS' hL f _ _ w (by rw [hne]; exact h1) (by rw [hne]; exact h2) (by simpa using hsz) hK
theorem wp_region_mid {id : Nat} {Q : Exit → Act → World → Prop} {a : Act} {w : World} {l : List Oper} {S R R' : World → Prop} {o : Oper} (n p : Nat) (hm : P.follows .mixedOrders = true) (hB : Region.lexTailB .any l.toArray n = true) (hpn : p < n)
    (ho : l[p]? = some o) (hg : o.guard = none) (hRS : ∀ w, R w → S w) (hRS' : ∀ w, R' w → S w) (hR : R { w with drawn := w.drawn + 1 })
    (h : wpG l.toArray (midG P S R R' p) (fun a' => ∀ w', R' w' → wpList P l.toArray Q (l.drop n) a' w') 0 (l.take n) a) : (Code.region id l.toArray true).wp P Q a w := by
  simp only [Region.lexTailB, Bool.and_eq_true, decide_eq_true_eq] at hB
  obtain ⟨⟨⟨⟨hsel, hn⟩, hs⟩, hc⟩, hlex⟩ := hB
  have hn' : n < l.length := by simpa using hn
  have htl : (l.take n).length = n := by simp; omega
  have hdl : (l.drop n).length = l.toArray.size - n := by simp
  have inv0 : HeadInv .any l.toArray n (Array.replicate l.toArray.size false) :=
    ⟨by simp, fun j oj _ hl => (by rw [getD_replicate_false] at hl; cases hl), fun t _ ht => getD_in (by simpa using ht) (getD_replicate_false _ _)⟩
  have H := wpAnyG_lex (md := .any) (g := l.toArray.size - n) hsel hs hc hn (l.take n) 0 _ a (fun j hj => by
    have hj' : j < n := by rw [htl] at hj; exact hj
    simp [hj']) (by simpa using htl) inv0 (by rw [htl]; exact hlex) h
  refine wp_region_any hm ?_
  have := wpAny_of_mid (Q := Q) (g := l.toArray.size - n) (p := p) (o := o) (by simpa using ho) hg hRS hRS' (fun listed a' w' hL h2 => by
    have hlp : listed.getD p true = true := by
      cases hb : listed.getD p true with
      | true => rfl
      | false =>
        have hsq := hL.2.1
        obtain ⟨g, hg⟩ : ∃ g, l.toArray.size - n = g + 1 := ⟨l.toArray.size - n - 1, by omega⟩
        rw [hg] at hsq
        simp only [Region.seqB, Bool.and_eq_true, decide_eq_true_eq] at hsq
        exact absurd (by rw [hsq.1]; simp) (tail_waits hs hc hn hL.1 _ p rfl hpn hb n (Nat.le_refl n))
    refine ⟨fun hf => (by rw [hlp] at hf; cases hf), ?_⟩
    have := wpAny_of_seq (md := .any) (Q' := Q) (l.drop n) n listed a' w' (fun j => by simp [List.getElem?_drop]) (by rw [hdl]; exact hL.2.1) (hL.2.2 w' (h2 hlp))
    rwa [hdl] at this) _ _ a { w with drawn := w.drawn + 1 } (fun _ => hR) (fun hf => (by
      rw [getD_in (by simp; omega) (getD_replicate_false _ _)] at hf; cases hf)) (by simp; omega) H
  rw [htl, show n + (l.toArray.size - n) = l.toArray.size by omega] at this
  exact this
end
namespace Wk
section
variable {P : Program} {Γ : Ctx} {E : Env} {H H' HS : List Res} {ops : Array Oper} {Q : Exit → Act → World → Prop} {rest : List Oper} {o : Oper} {ψ : Act → Prop}
  {d : Nat} {ty : TypeId} {pos : String} {after : Array Edge} {v u : Value} {x y z : Operand} {dst : Option Tmp} {g : Option (Nat × Bool)} {p j : Nat}
def PAt (P : Program) (Γ : Ctx) (ops : Array Oper) (HS H H' : List Res) (p k : Nat) (E : Env) (l : List Oper) (ψ : Act → Prop) : Prop := ∀ a, Agrees Γ.n Γ.D E a → wpG ops (midG P (Rep Γ.w0 Γ.S HS) (Rep Γ.w0 Γ.S H) (Rep Γ.w0 Γ.S H') p) ψ k l a
theorem At.mid {id : Nat} {l : List Oper} (n p : Nat) (HS H' : List Res) (hm : P.follows .mixedOrders = true) (hB : Region.lexTailB .any l.toArray n = true) (hpn : p < n) (ho : l[p]? = some o) (hg : o.guard = none)
    (h1 : ∀ w, Rep Γ.w0 Γ.S H w → Rep Γ.w0 Γ.S HS w) (h2 : ∀ w, Rep Γ.w0 Γ.S H' w → Rep Γ.w0 Γ.S HS w)
    (k : PAt P Γ l.toArray HS H H' p 0 E (l.take n) (fun a' => ∀ w', Rep Γ.w0 Γ.S H' w' → wpList P l.toArray Q (l.drop n) a' w')) : At Γ E H ((Code.region id l.toArray true).wp P Q) := fun a w ha hw =>
  wp_region_mid n p hm hB hpn ho hg h1 h2 hw.drew (k a ha)
theorem PAt.fin {φ : Act → World → Prop} (k : At Γ E H' φ) : PAt P Γ ops HS H H' p j E [] (fun a' => ∀ w', Rep Γ.w0 Γ.S H' w' → φ a' w') := fun a ha w' hw' => k a w' ha hw'
theorem PAt.val (h : Val P Γ E HS o v) (hg : o.guard = none) (hd : o.dst = some d) (hn : Nat.blt d Γ.n = true) (hj : Nat.beq j p = false) (k : PAt P Γ ops HS H H' p (j + 1) ((d, v) :: E) rest ψ) : PAt P Γ ops HS H H' p j E (o :: rest) ψ := fun a ha => by
  have hne : ¬ j = p := fun e => by subst e; rw [Nat.beq_refl] at hj; cases hj
  refine ⟨v, .inl ⟨by simp [Region.wanted, hg], ?_⟩, ?_⟩
  · simp only [midG, if_neg hne]; exact fun w hw => h a w ha hw
  · rw [hd]; exact k _ (ha.put d v hn)
theorem PAt.mid (h : ∀ a w, Agrees Γ.n Γ.D E a → Rep Γ.w0 Γ.S H w → ∃ w', (execOp a.eval o).run P w = .ok (.value v) w' ∧ Rep Γ.w0 Γ.S H' w') (hg : o.guard = none) (hd : o.dst = some d) (hn : Nat.blt d Γ.n = true)
    (k : PAt P Γ ops HS H H' p (p + 1) ((d, v) :: E) rest ψ) : PAt P Γ ops HS H H' p p E (o :: rest) ψ := fun a ha => by
  refine ⟨v, .inl ⟨by simp [Region.wanted, hg], ?_⟩, ?_⟩
  · simp only [midG, if_true]; exact fun w hw => let ⟨w', h1, h2⟩ := h a w ha hw; ⟨w', .inl h1, h2⟩
  · rw [hd]; exact k _ (ha.put d v hn)
theorem PAt.midS (h : ∀ a w, Agrees Γ.n Γ.D E a → Rep Γ.w0 Γ.S H w → ∃ w', (execOp a.eval o).run P w = .ok .skip w' ∧ Rep Γ.w0 Γ.S H' w') (hg : o.guard = none) (hd : o.dst = none)
    (k : PAt P Γ ops HS H H' p (p + 1) E rest ψ) : PAt P Γ ops HS H H' p p E (o :: rest) ψ := fun a ha => by
  refine ⟨undef, .inl ⟨by simp [Region.wanted, hg], ?_⟩, ?_⟩
  · simp only [midG, if_true]; exact fun w hw => let ⟨w', h1, h2⟩ := h a w ha hw; ⟨w', .inr ⟨h1, trivial⟩, h2⟩
  · rw [hd]; exact k _ ha
theorem storeAll_step {t : TypeId} {i b n U : Nat} {cs vs : List Value} (hs : ∀ w, (sizeOf t).run P w = .ok n w) (hx : ev E x = some (.pointer (some ⟨b, 0, none⟩))) (hy : ev E y = some (.agg vs.toArray)) (hl : vs.length = n)
    (h1 : ∀ v ∈ vs, v.oneCell' = true) (hi : H[i]? = some (blk b U cs)) (ho : cs.length = n) (a : Act) (w : World) (ha : Agrees Γ.n Γ.D E a) (hw : Rep Γ.w0 Γ.S H w) :
    ∃ w', (execOp a.eval { dst := .none, op := .store t x y, type := ty, pos, after, guard := none }).run P w = .ok .skip w' ∧ Rep Γ.w0 Γ.S (H.set i (blk b U vs)) w' := by
  obtain ⟨w', hr, hw'⟩ := storeCells_list (P := P) vs 0 0 cs H w hw hi (by omega) h1
  have e : putAt cs (0 + 0) vs = vs := by simp [putAt]; omega
  rw [e] at hw'
  refine ⟨w', ?_, hw'⟩
  simp [execOp, ha.eval hx, ha.eval hy, Sem.run_bind, Instr.storeAt, Instr.sureAddr, storeVar, hs, Value.cells, hl, hr]
theorem storeOne_step {t : TypeId} {i b off U : Nat} {cs : List Value} (hs : ∀ w, (sizeOf t).run P w = .ok 1 w) (hx : ev E x = some (.pointer (some ⟨b, off, none⟩))) (hy : ev E y = some v) (h1 : v.oneCell' = true)
    (hi : H[i]? = some (blk b U cs)) (ho : off < cs.length) (a : Act) (w : World) (ha : Agrees Γ.n Γ.D E a) (hw : Rep Γ.w0 Γ.S H w) :
    ∃ w', (execOp a.eval { dst := .none, op := .store t x y, type := ty, pos, after, guard := none }).run P w = .ok .skip w' ∧ Rep Γ.w0 Γ.S (H.set i (blk b U (cs.set off v))) w' := by
  have hb := hw.blk hi
  have hr := run_storeAt_cell (P := P) (p := ⟨b, off, none⟩) hs h1 ((hb.cell off).trans (List.getElem?_eq_getElem ho)) (hb.frozen off ho)
  exact ⟨w.setCell ⟨b, off, none⟩ v, by simp [execOp, ha.eval hx, ha.eval hy, Sem.run_bind, hr], hw.set hi off v⟩
def blkP (b : Nat) (T : TypeId) (p : List Value → Prop) : Res where
  foot := fun x => x = b
  holds := fun w => ∃ cs, Holds w b T cs ∧ p cs
  stable := fun h hw => by obtain ⟨cs, h1, h2⟩ := hw; exact ⟨cs, (blk b T cs).stable h h1, h2⟩
  low := fun hw x hx => by obtain ⟨cs, h1, h2⟩ := hw; exact (blk b T cs).low h1 x hx
theorem Rep.blkP {w0 S w} (h : Rep w0 S H w) {i b T : Nat} {cs : List Value} (p : List Value → Prop) (hi : H[i]? = some (Wk.blk b T cs)) (hp : p cs) : Rep w0 S (H.set i (Wk.blkP b T p)) w :=
  Rep.change hi h (Mod.refl _ _) ⟨cs, h.blk hi, hp⟩ (fun b' hb => .inl hb)
theorem Val.loadP {t i b off U : Nat} {p : List Value → Prop} (hA : ∀ w, (isAgg t).run P w = .ok false w) (hx : ev E x = some (.pointer (some ⟨b, off, none⟩)))
    (hi : H[i]? = some (blkP b U p)) (hv : ∀ cs, p cs → cs[off]? = some v) : Val P Γ E H ⟨dst, .load t x, ty, pos, after, g⟩ v := fun a w ha hw => by
  obtain ⟨cs, h1, h2⟩ := hw.all _ (List.mem_of_getElem? hi)
  have := run_loadAt_cell (P := P) hA ((h1.cell off).trans (hv cs h2))
  simp [execOp, ha.eval hx, Sem.run_bind, this]
end
end Wk
end Go
namespace Go.Wk
open Go
section
variable {P : Program} {Γ : Ctx} {E : Env} {H H' : List Res} {ops : Array Oper} {Q : Exit → Act → World → Prop} {K : Act → World → Prop} {rest : List Oper}
  {d : Nat} {dst : Option Tmp} {g : Option (Nat × Bool)} {ty : TypeId} {pos : String} {after : Array Edge} {x y z : Operand} {v u : Value} {c : List PanicEntry}
abbrev brk (T : TypeId) (e : Int) : List PanicEntry := [{ v := .iface T (.agg #[.int .i64 e]), recovered := false }]
theorem At.panicOp {T : TypeId} (hx : ev E x = some (.iface T v)) (k : At Γ E H (Q (.panic [{ v := .iface T v, recovered := false }]))) :
    At Γ E H (wpList P ops Q ({ dst := none, op := .panic x, type := ty, pos, after, guard := none } :: rest)) := fun a w ha hw => by
  refine wpList_plain rfl fun K hK => ?_
  unfold Oper.wp
  have hr : (execOp a.eval { dst := none, op := .panic x, type := ty, pos, after, guard := none }).run P w = .halt (.panic (.iface T v)) w := by
    simp [execOp, ha.eval hx, Instr.panic, goPanic]
  rw [hr]
  simp only [Oper.upon]
  exact k a w ha hw
theorem Val.mkIface {t : TypeId} {fs : Array Field} (hu : P.underlying t = some (.struct fs)) (hx : ev E x = some v) : Val P Γ E H ⟨dst, .makeInterface t x, ty, pos, after, g⟩ (.iface t v) := fun a w ha hw => by
  simp [execOp, ha.eval hx, Instr.makeInterface, run_underlying hu, Sem.run_bind]
theorem Val.ifNilNil {t t' : TypeId} (h : P.underlying t = some (.interface (P.methodsAt t))) (hx : ev E x = some .nilIface) : Val P Γ E H ⟨dst, .binOp .eql t x (.const .nilIface) t', ty, pos, after, g⟩ (.bool true) := fun a w ha _ => by
  have hc : a.eval (.const .nilIface) = .nilIface := rfl
  simp [execOp, ha.eval hx, hc, eqGuard, run_eql_nil_nil w t h]
theorem Val.ifHeldNil {t t' T : TypeId} (h : P.underlying t = some (.interface (P.methodsAt t))) (hx : ev E x = some (.iface T v)) : Val P Γ E H ⟨dst, .binOp .eql t x (.const .nilIface) t', ty, pos, after, g⟩ (.bool false) := fun a w ha _ => by
  have hc : a.eval (.const .nilIface) = .nilIface := rfl
  simp [execOp, ha.eval hx, hc, eqGuard, run_eql_held_nil w t T v h]
theorem Val.assertIs {xt T : TypeId} {fs : Array Field} (h : P.underlying T = some (.struct fs)) (hx : ev E x = some (.iface T v)) : Val P Γ E H ⟨dst, .typeAssert x xt T true, ty, pos, after, g⟩ (.tuple #[v, .bool true]) := fun a w ha _ => by
  simp [execOp, ha.eval hx, Instr.typeAssert, run_underlying h, Sem.run_bind]
theorem Val.strOf {s t e n c b o : Nat} {l : List UInt8} (hs : P.underlying s = some (.slice e)) (he : P.underlying e = some (.int .u8)) (ht : P.underlying t = some .string) (hx : ev E x = some (.slice (some ⟨b, o, none⟩) n c)) (hl : l.length = n)
    (hc : ∀ w, Rep Γ.w0 Γ.S H w → Bytes w (some ⟨b, o, none⟩) l) : Val P Γ E H ⟨dst, .convert s t x, ty, pos, after, g⟩ (.string ⟨l.toArray⟩) := fun a w ha hw => by
  subst hl
  have := run_convert_bytes_back (P := P) w s t e ⟨b, o, none⟩ c l hs he ht
    (fun j hj => by
      obtain ⟨b', o', hb, hcell⟩ := hc w hw j l[j] (List.getElem?_eq_getElem hj)
      simp only [Option.some.injEq, Addr.mk.injEq] at hb
      obtain ⟨rfl, rfl, _⟩ := hb
      rw [Addr.add_off]
      exact hcell)
  simp [execOp, ha.eval hx, this]
theorem At.noU {j t : Nat} {b : Bool} {op : Op} (hj : (ops[j]?).bind (·.dst) = some t) (hl : look E t = some undef) (hn : Nat.blt d Γ.n = true)
    (k : At Γ ((d, undef) :: E) H (wpList P ops Q rest)) : At Γ E H (wpList P ops Q ({ dst := some d, op, type := ty, pos, after, guard := some (j, b) } :: rest)) := fun a w ha hw => by
  have hy : yielded ops a.tmps j = none := by simp [yielded, hj, ha.get t _ hl, undef]
  unfold wpList
  rw [if_neg (by simp [Region.wanted, hy])]
  exact k _ _ (ha.put d undef hn) hw
theorem QAt.noU {j t : Nat} {b : Bool} {op : Op} {ψ : Act → Prop} (hj : (ops[j]?).bind (·.dst) = some t) (hl : look E t = some undef) (hn : Nat.blt d Γ.n = true)
    (k : QAt P Γ ops ((d, undef) :: E) H rest ψ) : QAt P Γ ops E H ({ dst := some d, op, type := ty, pos, after, guard := some (j, b) } :: rest) ψ := fun a ha => by
  have hy : yielded ops a.tmps j = none := by simp [yielded, hj, ha.get t _ hl, undef]
  unfold wpQuiet
  rw [if_neg (by simp [Region.wanted, hy])]
  exact k _ (ha.put d undef hn)
theorem At.thenE (k : At Γ E H (Q (.panic c))) : At Γ E H (Exit.then K Q (.panic c)) := k
theorem At.blkE {id : Nat} (k : At Γ E H (Q (.panic c))) : At Γ E H (Exit.inBlock id Q (.panic c)) := k
def Throws0 (P : Program) (f : FuncId) (vs : List Value) (c : List PanicEntry) (w : World) : Prop := Calls P f vs.toArray w fun e w' => e = .panicked c ∧ Mod (fun _ => False) w w'
def Throws1 (P : Program) (f : FuncId) (vs : List Value) (r : Res) (c : List PanicEntry) (w : World) : Prop := Calls P f vs.toArray w fun e w' => e = .panicked c ∧ Rep w (feet [r]) [] w'
theorem At.callT {f : FuncId} {l : List Operand} {vs : List Value} {at_ : Array TypeId} {dst : Option Tmp} (hc : ∀ args w, (callFunc f args).run P w = .ok (.enter f args) w) (hv : evs E l = some vs)
    (h : ∀ w, Rep Γ.w0 Γ.S H w → Calls P f vs.toArray w fun e w' => e = .panicked c ∧ Rep Γ.w0 Γ.S H' w') (k : At Γ E H' (Q (.panic c))) :
    At Γ E H (wpList P ops Q ({ dst := dst, op := .call { callee := .value (.func f), args := l.toArray, argTypes := at_ }, type := ty, pos, after, guard := none } :: rest)) := fun a w ha hw => by
  refine wpList_plain rfl fun K hK => ?_
  unfold Oper.wp
  rw [run_call ha hc hv w, Oper.upon_enter]
  refine (h w hw).mono ?_
  rintro e w' ⟨rfl, hw'⟩
  exact k _ _ ha hw'
theorem At.callT0 {f : FuncId} {l : List Operand} {vs : List Value} {at_ : Array TypeId} {dst : Option Tmp} (h : ∀ w, Rep Γ.w0 Γ.S H w → Throws0 P f vs c w) (hc : ∀ args w, (callFunc f args).run P w = .ok (.enter f args) w) (hv : evs E l = some vs)
    (k : At Γ E H (Q (.panic c))) :
    At Γ E H (wpList P ops Q ({ dst := dst, op := .call { callee := .value (.func f), args := l.toArray, argTypes := at_ }, type := ty, pos, after, guard := none } :: rest)) :=
  At.callT hc hv (fun w hw => (h w hw).mono fun e w' ⟨he, hm⟩ => ⟨he, hw.garbage hm⟩) k
theorem At.callT1 (i : Nat) {r : Res} {f : FuncId} {l : List Operand} {vs : List Value} {at_ : Array TypeId} {dst : Option Tmp} (hi : H[i]? = some r) (h : ∀ w, Rep Γ.w0 Γ.S H w → r.holds w → Throws1 P f vs r c w)
    (hc : ∀ args w, (callFunc f args).run P w = .ok (.enter f args) w) (hv : evs E l = some vs) (k : At Γ E (H.eraseIdx i) (Q (.panic c))) :
    At Γ E H (wpList P ops Q ({ dst := dst, op := .call { callee := .value (.func f), args := l.toArray, argTypes := at_ }, type := ty, pos, after, guard := none } :: rest)) :=
  At.callT hc hv (fun w hw => (h w hw (hw.all _ (List.mem_of_getElem? hi))).mono fun e w' ⟨he, hr⟩ => ⟨he, Rep.frame (H0 := [r]) (H0' := []) (hw.perm (erase_perm H i r hi)) hr⟩) k
theorem At.fail {fn : Func} {R : Ending → World → Prop} (hD : Γ.D = []) (k : ∀ w, Rep Γ.w0 Γ.S H w → R (.panicked c) w) : At Γ E H (bodyPost P fn R (.panic c)) := fun a w ha hw => ⟨ha.defers.trans hD, k w hw⟩
theorem At.defer {f : FuncId} {l : List Operand} {vs : List Value} {at_ : Array TypeId} (hv : evs E l = some vs) (k : At { Γ with D := { target := .fn (.func f) #[], args := vs.toArray } :: Γ.D } E H (wpList P ops Q rest)) :
    At Γ E H (wpList P ops Q ({ dst := none, op := .defer { callee := .value (.func f), args := l.toArray, argTypes := at_ }, type := ty, pos, after, guard := none } :: rest)) := fun a w ha hw => by
  refine wpList_plain rfl fun K hK => ?_
  unfold Oper.wp
  have := ha.evals hv
  have hr : (execOp a.eval { dst := none, op := .defer { callee := .value (.func f), args := l.toArray, argTypes := at_ }, type := ty, pos, after, guard := none }).run P w = .ok (.defer { target := .fn (.func f) #[], args := vs.toArray }) w := by
    simp [execOp, resolve, Act.eval, Deferred.ofValue, Sem.run_bind, this]
  rw [hr, Oper.upon_defer]
  exact hK _ _ (k _ _ ⟨ha.size, by simp [Act.put, ha.defers], ha.get⟩ hw)
theorem enterD {f : FuncId} {fn : Func} {c : Code} {vs : List Value} {w : World} {R : Ending → World → Prop} {n : Nat} (S : Nat → Prop) (H : List Res) (hf : P.funcs[f]? = some fn) (hb : fn.body = some c) (hn : fn.ntmps = n) (hl : Nat.ble vs.length n = true)
    (hw : Rep w S H w) (k : At ⟨w, S, n, []⟩ (envOf 0 vs) H (c.wp P (bodyPostD P fn R))) : Calls P f vs.toArray w R := by
  refine calls_of_wp_defers hf hb (k _ _ ⟨?_, rfl, fun t v ht => ?_⟩ hw)
  · have : vs.length ≤ n := by simpa using hl
    simp [hn]; omega
  · obtain ⟨_, h2⟩ := look_envOf vs 0 t v ht
    simp only [Nat.sub_zero] at h2
    have : t < vs.length := (List.getElem?_eq_some_iff.1 h2).1
    simp [Array.getElem?_append, this]
    simpa [this] using h2
theorem enterD0 {f : FuncId} {fn : Func} {c : Code} {vs : List Value} {w : World} {R : Ending → World → Prop} {n : Nat} (hf : P.funcs[f]? = some fn) (hb : fn.body = some c) (hn : fn.ntmps = n) (hl : Nat.ble vs.length n = true)
    (k : At ⟨w, fun _ => False, n, []⟩ (envOf 0 vs) [] (c.wp P (bodyPostD P fn R))) : Calls P f vs.toArray w R :=
  enterD (fun _ => False) [] hf hb hn hl ⟨by simp, by simp, by simp, Mod.refl _ _⟩ k
def Idle (P : Program) (f : FuncId) (vs : List Value) (w : World) : Prop := CallsD P f vs.toArray .returning w fun e u' w' => e = .returned (.tuple #[]) ∧ u' = .returning ∧ Mod (fun _ => False) w w'
def Catches (P : Program) (f : FuncId) (vs : List Value) (c : List PanicEntry) (r s r' s' : Res) (w : World) : Prop :=
  CallsD P f vs.toArray (.panicking c) w fun e u' w' => e = .returned (.tuple #[]) ∧ settle u' = .returning ∧ Rep w (feet [r, s]) [r', s'] w'
theorem run_invoke {f : FuncId} {vs : List Value} (hc : ∀ args w, (callFunc f args).run P w = .ok (.enter f args) w) (w : World) : (invoke (.fn (.func f) #[]) vs.toArray).run P w = .ok (.enter f vs.toArray) w := by
  simp [invoke, hc]
theorem At.leaveN {fn : Func} {R : Ending → World → Prop} {e : Exit} {f : FuncId} {vs : List Value} {r s : ResultVar} (he : e = .ret ∨ e = .normal) (hD : Γ.D = [{ target := .fn (.func f) #[], args := vs.toArray }])
    (hc : ∀ args w, (callFunc f args).run P w = .ok (.enter f args) w) (hidle : ∀ w, Rep Γ.w0 Γ.S H w → Idle P f vs w) (hr : fn.results = #[r, s]) (h : ResOf P Γ E H r v) (h' : ResOf P Γ E H s u)
    (k : ∀ w, Rep Γ.w0 Γ.S H w → R (.returned (.tuple #[v, u])) w) : At Γ E H (bodyPostD P fn R e) := fun a w ha hw => by
  have key : Leaves P fn a.tmps R a.defers .returning w := by
    rw [ha.defers.trans hD]
    refine leaves_cons (by simp) (run_invoke hc w) ((hidle w hw).mono ?_)
    rintro e u' w' ⟨rfl, rfl, hm⟩
    have hw' := hw.garbage hm
    exact ⟨_, results_two hr _ _ (resOne_run h ha hw') (resOne_run h' ha hw'), k w' hw'⟩
  rcases he with rfl | rfl <;> exact key
theorem At.leaveP {fn : Func} {R : Ending → World → Prop} {f : FuncId} {vs : List Value} {r s : ResultVar} {p q p' q' : Res} {F : List Res} (hD : Γ.D = [{ target := .fn (.func f) #[], args := vs.toArray }])
    (hc : ∀ args w, (callFunc f args).run P w = .ok (.enter f args) w) (hH : H.Perm ([p, q] ++ F)) (hcat : ∀ w, Rep Γ.w0 Γ.S ([p, q] ++ F) w → Catches P f vs c p q p' q' w) (hr : fn.results = #[r, s])
    (h : ResOf P Γ E ([p', q'] ++ F) r v) (h' : ResOf P Γ E ([p', q'] ++ F) s u)
    (k : ∀ w, Rep Γ.w0 Γ.S ([p', q'] ++ F) w → R (.returned (.tuple #[v, u])) w) : At Γ E H (bodyPostD P fn R (.panic c)) := fun a w ha hw => by
  have key : Leaves P fn a.tmps R a.defers (.panicking c) w := by
    rw [ha.defers.trans hD]
    refine leaves_cons (by simp) (run_invoke hc w) ((hcat w (hw.perm hH)).mono ?_)
    rintro e u' w' ⟨rfl, hu, hm⟩
    have hw' := Rep.frame (hw.perm hH) hm
    simp only [hu]
    exact ⟨_, results_two hr _ _ (resOne_run h ha hw') (resOne_run h' ha hw'), k w' hw'⟩
  exact key
theorem enterC {f : FuncId} {fn : Func} {rest : Code} {vs : List Value} {w : World} {R : Ending → World → Prop} {n id : Nat} {um um' : FrameMode} (S : Nat → Prop) (H : List Res)
    (hf : P.funcs[f]? = some fn) (hb : fn.body = some (.seq (.region id #[{ dst := some d, op := .call { callee := .builtin .recover, args := #[], argTypes := #[] }, type := ty, pos, after, guard := none }] false) rest))
    (hn : fn.ntmps = n) (hl : Nat.ble vs.length n = true) (hd : Nat.blt d n = true) (hw : Rep w S H w)
    (hrec : ∀ (c₀ : Frame) (cs : List Frame), c₀.mode = um → recoverD (c₀ :: cs) = some (v, { c₀ with mode := um' } :: cs) ∨ (recoverD (c₀ :: cs) = none ∧ v = .nilIface ∧ um' = um))
    (k : At ⟨w, S, n, []⟩ ((d, v) :: envOf 0 vs) H (rest.wp P (bodyPost P fn R))) : CallsD P f vs.toArray um w (fun e u'' w' => u'' = um' ∧ R e w') := by
  refine callsD_of_wpS hf hb fun c₀ cs hu => ?_
  have ha : Agrees n [] (envOf 0 vs) { tmps := vs.toArray ++ Array.replicate (fn.ntmps - vs.toArray.size) undef, defers := [] } := by
    refine ⟨?_, rfl, fun t v ht => ?_⟩
    · have : vs.length ≤ n := by simpa using hl
      simp [hn]; omega
    · obtain ⟨_, h2⟩ := look_envOf vs 0 t v ht
      simp only [Nat.sub_zero] at h2
      have : t < vs.length := (List.getElem?_eq_some_iff.1 h2).1
      simp [Array.getElem?_append, this]
      simpa [this] using h2
  have hk := k _ w (ha.put d v hd) hw
  have hcs : ({ c₀ with mode := um } : Frame) = c₀ := by subst hu; rfl
  have hpost : ∀ e a' w', bodyPost P fn R e a' w' → bodyPostS P fn c₀ cs (fun e u'' w' => u'' = um' ∧ R e w') e a' ({ c₀ with mode := um' } :: cs) w' := by
    intro e a' w' hq
    cases e with
    | normal => obtain ⟨h1, v, h2, h3⟩ := hq; exact ⟨h1, um', rfl, v, h2, rfl, h3⟩
    | ret => obtain ⟨h1, v, h2, h3⟩ := hq; exact ⟨h1, um', rfl, v, h2, rfl, h3⟩
    | panic ch => exact ⟨hq.1, um', rfl, rfl, hq.2⟩
    | exit id => exact hq.elim
    | goto l => exact hq.elim
    | outgrown => exact ⟨um', rfl, hq⟩
  refine wpS_seq (wpS_region ?_)
  have hrun : ∀ (ρ : Act) w, (execOp ρ.eval { dst := some d, op := .call { callee := .builtin .recover, args := #[], argTypes := #[] }, type := ty, pos, after, guard := none }).run P w = .ok .recover w := fun ρ w => by
    simp [execOp, resolve, invoke, builtin, Sem.run_bind]
  have hr1 : List.range (#[({ dst := some d, op := .call { callee := .builtin .recover, args := #[], argTypes := #[] }, type := ty, pos, after, guard := none } : Oper)]).size = [0] := rfl
  rw [hr1]
  rcases hrec c₀ cs hu with h1 | ⟨h1, rfl, rfl⟩
  · simp only [wpOpsS, List.getElem?_toArray, List.getElem?_cons_zero, Region.wanted, hrun, h1, if_true, Exit.thenS]
    exact wpS_of_wp (wp_mono hk hpost)
  · rw [hcs] at hpost
    simp only [wpOpsS, List.getElem?_toArray, List.getElem?_cons_zero, Region.wanted, hrun, h1, if_true, Exit.thenS]
    exact wpS_of_wp (wp_mono hk hpost)
end
theorem Rep.ne01 {w0 : World} {S : Nat → Prop} {b b' T T' : Nat} {cs cs' : List Value} {F : List Res} {w : World} (h : Rep w0 S (Wk.blk b T cs :: Wk.blk b' T' cs' :: F) w) : b ≠ b' := fun e =>
  (List.pairwise_cons.1 h.sep).1 _ (List.mem_cons_self ..) b rfl e
theorem Rep.apart {w0 : World} {S : Nat → Prop} {b b' T T' : Nat} {cs cs' : List Value} {H : List Res} {w : World} (h : Rep w0 S H w) (i j : Nat) (hi : H[i]? = some (Wk.blk b T cs)) (hj : H[j]? = some (Wk.blk b' T' cs')) (hij : i ≠ j) : b ≠ b' := fun e => by
  obtain ⟨hi', rfl'⟩ := List.getElem?_eq_some_iff.1 hi
  obtain ⟨hj', rfl''⟩ := List.getElem?_eq_some_iff.1 hj
  have hp := List.pairwise_iff_getElem.1 h.sep
  rcases Nat.lt_or_gt_of_ne hij with hlt | hlt
  · have := hp i j hi' hj' hlt
    rw [rfl', rfl''] at this
    exact this b rfl e
  · have := hp j i hj' hi' hlt
    rw [rfl', rfl''] at this
    exact this b' rfl e.symm
end Go.Wk
namespace Go
section
variable {P : Program} {ops : Array Oper} {md : Region.Mode} {C : World → Prop} {c : List PanicEntry}
def Thr (P : Program) (C : World → Prop) (c : List PanicEntry) (s : Sem Next) : Prop := ∀ w, C w → ∃ f args, s.run P w = .ok (.enter f args) w ∧ Calls P f args w fun e w' => e = .panicked c ∧ C w'
def thrG (P : Program) (C : World → Prop) (c : List PanicEntry) (t : Nat) (i : Nat) (s : Sem Next) (v : Value) : Prop :=
  if i = t then Thr P C c s else (∀ w, C w → Oper.quietUpon P C w v (s.run P w)) ∨ Thr P C c s
theorem wpAny_of_thr {I : Act → Prop} {t n g : Nat} {ot : Oper} {L : Array Bool → Act → Prop} {Q : Exit → Act → World → Prop} (htt : ops[t]? = some ot) (hgt : ot.guard = none)
    (hI : ∀ (i : Nat) o a v, ops[i]? = some o → I a → I (a.put o.dst v)) (hQ : ∀ a w, I a → C w → Q (.panic c) a w)
    (hL : ∀ listed a, L listed a → listed.getD t true = false → False) :
    ∀ (f : Nat) (listed : Array Bool) (a : Act) (w : World), I a → C w → listed.getD t true = false →
    wpAnyG md ops (thrG P C c t) n L f listed a → wpAny P md ops Q (f + g) listed a w
  | 0, listed, a, w, ha, hw, ht, h => (hL _ _ h ht).elim
  | f + 1, listed, a, w, ha, hw, ht, h => by
    rw [show f + 1 + g = (f + g) + 1 by omega]
    refine ⟨fun h0 => absurd h0 h.1, fun i hi => ?_⟩
    have hq := (h.2 i hi).2
    obtain ⟨hun, oi, hoi, _⟩ := mem_ready.1 hi
    unfold gOp at hq
    unfold wpOp
    simp only [hoi] at hq ⊢
    obtain ⟨v, hy, hK⟩ := hq
    have thr : Region.wanted oi (yielded ops a.tmps) = true → Thr P C c (execOp a.eval oi) → (if Region.wanted oi (yielded ops a.tmps) = true then oi.wp P a w (wpAny P md ops Q (f + g) (listed.setIfInBounds i true)) Q ∨ (oi.asks P a w ∧ LetsOut Q) else wpAny P md ops Q (f + g) (listed.setIfInBounds i true) (a.put oi.dst undef) w) := fun hwt hth => by
      obtain ⟨f', args, hr, hc⟩ := hth w hw
      rw [if_pos hwt]
      refine .inl ?_
      simp only [Oper.wp, hr, Oper.upon]
      refine hc.mono ?_
      rintro e w' ⟨rfl, hw'⟩
      exact hQ _ _ ha hw'
    by_cases hit : i = t
    · subst hit
      have : oi = ot := Option.some.inj (hoi.symm.trans htt)
      subst this
      have hwt : Region.wanted oi (yielded ops a.tmps) = true := by simp [Region.wanted, hgt]
      rcases hy with ⟨_, hy⟩ | ⟨hy, _⟩
      · simp only [thrG, if_true] at hy
        exact thr hwt hy
      · rw [hwt] at hy; cases hy
    · have hne : (listed.setIfInBounds i true).getD t true = false := by rw [getD_set_ne true hit]; exact ht
      rcases hy with ⟨hwt, hy⟩ | ⟨hwt, rfl⟩
      · simp only [thrG, if_neg hit] at hy
        rcases hy with hy | hy
        · rw [if_pos hwt]
          refine .inl ?_
          have h3 := hy w hw
          unfold Oper.wp
          generalize (execOp a.eval oi).run P w = r at *
          cases r with
          | ok nx w' =>
            cases nx <;> simp only [Oper.quietUpon] at h3 <;> simp only [Oper.upon]
            case value u =>
              obtain ⟨e1, e2⟩ := h3
              rw [e1, e2]
              exact wpAny_of_thr htt hgt hI hQ hL f _ _ w (hI i oi a v hoi ha) hw hne hK
            case skip =>
              obtain ⟨e1, e2⟩ := h3
              rw [e1, ← e2]
              exact wpAny_of_thr htt hgt hI hQ hL f _ _ w (hI i oi a v hoi ha) hw hne hK
            case enter f' args =>
              obtain ⟨e1, hc⟩ := h3
              rw [e1]
              exact hc.mono fun e w'' ⟨he, hw''⟩ => by subst he; exact wpAny_of_thr htt hgt hI hQ hL f _ _ w'' (hI i oi a v hoi ha) hw'' hne hK
          | halt x w' => simp only [Oper.quietUpon] at h3
        · exact thr hwt hy
      · rw [if_neg (by rw [hwt]; simp)]
        exact wpAny_of_thr htt hgt hI hQ hL f _ _ w (hI i oi a undef hoi ha) hw hne hK
theorem wp_region_thr {id : Nat} {Q : Exit → Act → World → Prop} {a : Act} {w : World} {l : List Oper} {I : Act → Prop} {ot : Oper} (n t : Nat) (hm : P.follows .mixedOrders = true) (hB : Region.lexTailB .any l.toArray n = true) (htn : t < n)
    (ho : l[t]? = some ot) (hg : ot.guard = none) (hI : ∀ (i : Nat) o a v, l[i]? = some o → I a → I (a.put o.dst v)) (hQ : ∀ a w, I a → C w → Q (.panic c) a w) (ha : I a) (hC : C { w with drawn := w.drawn + 1 })
    (h : wpG l.toArray (thrG P C c t) (fun _ => True) 0 (l.take n) a) : (Code.region id l.toArray true).wp P Q a w := by
  simp only [Region.lexTailB, Bool.and_eq_true, decide_eq_true_eq] at hB
  obtain ⟨⟨⟨⟨hsel, hn⟩, hs⟩, hc⟩, hlex⟩ := hB
  have hn' : n < l.length := by simpa using hn
  have htl : (l.take n).length = n := by simp; omega
  have inv0 : HeadInv .any l.toArray n (Array.replicate l.toArray.size false) :=
    ⟨by simp, fun j oj _ hl => (by rw [getD_replicate_false] at hl; cases hl), fun t _ ht => getD_in (by simpa using ht) (getD_replicate_false _ _)⟩
  have H := wpAnyG_lex (md := .any) (g := l.toArray.size - n) hsel hs hc hn (l.take n) 0 _ a (fun j hj => by
    have hj' : j < n := by rw [htl] at hj; exact hj
    simp [hj']) (by simpa using htl) inv0 (by rw [htl]; exact hlex) h
  refine wp_region_any hm ?_
  have := wpAny_of_thr (Q := Q) (g := l.toArray.size - n) (t := t) (ot := ot) (I := I) (by simpa using ho) hg (fun i o a v hi => hI i o a v (by simpa using hi)) hQ (fun listed a' hL hb => by
    have hsq := hL.2.1
    obtain ⟨g, hg⟩ : ∃ g, l.toArray.size - n = g + 1 := ⟨l.toArray.size - n - 1, by omega⟩
    rw [hg] at hsq
    simp only [Region.seqB, Bool.and_eq_true, decide_eq_true_eq] at hsq
    exact absurd (by rw [hsq.1]; simp) (tail_waits hs hc hn hL.1 _ t rfl htn hb n (Nat.le_refl n))) _ _ a { w with drawn := w.drawn + 1 } ha hC (getD_in (by simp; omega) (getD_replicate_false _ _)) H
  rw [htl, show n + (l.toArray.size - n) = l.toArray.size by omega] at this
  exact this
end
namespace Wk
section
variable {P : Program} {Γ : Ctx} {E E' : Env} {H : List Res} {ops : Array Oper} {Q : Exit → Act → World → Prop} {rest : List Oper} {o : Oper} {c : List PanicEntry}
  {d : Nat} {ty : TypeId} {pos : String} {after : Array Edge} {v u : Value} {t j : Nat}
theorem Agrees.other {n D E} {a : Act} (h : Agrees n D E a) {d : Nat} (v : Value) (hd : look E d = none) : Agrees n D E (a.put (some d) v) := by
  refine ⟨by simp [Act.put, h.size], h.defers, fun s u hs => ?_⟩
  have hne : d ≠ s := fun e => by subst e; rw [hd] at hs; cases hs
  simp only [Act.put]
  rw [Array.getElem?_setIfInBounds_ne hne]
  exact h.get s u hs
def TAt (P : Program) (Γ : Ctx) (ops : Array Oper) (H : List Res) (c : List PanicEntry) (t k : Nat) (E : Env) (l : List Oper) : Prop := ∀ a, Agrees Γ.n Γ.D E a → wpG ops (thrG P (Rep Γ.w0 Γ.S H) c t) (fun _ => True) k l a
theorem At.throwR {id : Nat} {l : List Oper} (n t : Nat) (E' : Env) (hE : Sub E E') (hfree : (l.all fun o => match o.dst with | some d => (look E' d).isNone | none => true) = true) (hm : P.follows .mixedOrders = true) (hB : Region.lexTailB .any l.toArray n = true) (htn : t < n) (ho : l[t]? = some o) (hg : o.guard = none)
    (kp : At Γ E' H (Q (.panic c))) (k : TAt P Γ l.toArray H c t 0 E (l.take n)) : At Γ E H ((Code.region id l.toArray true).wp P Q) := fun a w ha hw =>
  wp_region_thr (I := Agrees Γ.n Γ.D E') (C := Rep Γ.w0 Γ.S H) n t hm hB htn ho hg (fun i o a v hi ha => by
    have h1 := List.all_eq_true.1 hfree o (List.mem_of_getElem? hi)
    cases hd : o.dst with
    | none => exact ha
    | some d => rw [hd] at h1; exact ha.other v (Option.isNone_iff_eq_none.1 h1)) (fun a w ha hw => kp a w ha hw) (ha.weaken hE) hw.drew (k a ha)
theorem TAt.fin : TAt P Γ ops H c t j E [] := fun a ha => trivial
theorem TAt.val (h : Val P Γ E H o v) (hg : o.guard = none) (hd : o.dst = some d) (hn : Nat.blt d Γ.n = true) (hj : Nat.beq j t = false) (k : TAt P Γ ops H c t (j + 1) ((d, v) :: E) rest) : TAt P Γ ops H c t j E (o :: rest) := fun a ha => by
  have hne : ¬ j = t := fun e => by subst e; rw [Nat.beq_refl] at hj; cases hj
  refine ⟨v, .inl ⟨by simp [Region.wanted, hg], ?_⟩, ?_⟩
  · simp only [thrG, if_neg hne]
    refine .inl fun w hw => ?_
    rw [h a w ha hw]
    exact ⟨rfl, rfl⟩
  · rw [hd]; exact k _ (ha.put d v hn)
theorem TAt.callP {f : FuncId} {l : List Operand} {vs : List Value} {at_ : Array TypeId} (h : ∀ w, Rep Γ.w0 Γ.S H w → PureC P f vs v w) (hc : ∀ args w, (callFunc f args).run P w = .ok (.enter f args) w) (hv : evs E l = some vs) (hn : Nat.blt d Γ.n = true) (hj : Nat.beq j t = false)
    (k : TAt P Γ ops H c t (j + 1) ((d, v) :: E) rest) : TAt P Γ ops H c t j E ({ dst := some d, op := .call { callee := .value (.func f), args := l.toArray, argTypes := at_ }, type := ty, pos, after, guard := none } :: rest) := fun a ha => by
  have hne : ¬ j = t := fun e => by subst e; rw [Nat.beq_refl] at hj; cases hj
  refine ⟨v, .inl ⟨by simp [Region.wanted], ?_⟩, k _ (ha.put d v hn)⟩
  simp only [thrG, if_neg hne]
  refine .inl fun w hw => ?_
  rw [run_call ha hc hv w]
  exact ⟨rfl, (h w hw).mono fun e w' ⟨he, hm⟩ => ⟨he, hw.garbage hm⟩⟩
theorem TAt.callT (v : Value) {f : FuncId} {l : List Operand} {vs : List Value} {at_ : Array TypeId} (h : ∀ w, Rep Γ.w0 Γ.S H w → Throws0 P f vs c w) (hc : ∀ args w, (callFunc f args).run P w = .ok (.enter f args) w) (hv : evs E l = some vs) (hn : Nat.blt d Γ.n = true)
    (k : TAt P Γ ops H c t (j + 1) ((d, v) :: E) rest) : TAt P Γ ops H c t j E ({ dst := some d, op := .call { callee := .value (.func f), args := l.toArray, argTypes := at_ }, type := ty, pos, after, guard := none } :: rest) := fun a ha => by
  have hth : Thr P (Rep Γ.w0 Γ.S H) c (execOp a.eval { dst := some d, op := .call { callee := .value (.func f), args := l.toArray, argTypes := at_ }, type := ty, pos, after, guard := none }) := fun w hw =>
    ⟨f, vs.toArray, run_call ha hc hv w, (h w hw).mono fun e w' ⟨he, hm⟩ => ⟨he, hw.garbage hm⟩⟩
  refine ⟨v, .inl ⟨by simp [Region.wanted], ?_⟩, k _ (ha.put d v hn)⟩
  unfold thrG
  split
  · exact hth
  · exact .inr hth
end
end Wk
end Go
namespace Go.Wk
open Go
section
variable {P : Program} {Γ : Ctx} {E : Env} {H : List Res} {dst : Option Tmp} {g : Option (Nat × Bool)} {ty : TypeId} {pos : String} {after : Array Edge} {x y : Operand} {v : Value}
theorem Val.indexVal {t el : TypeId} {len : Nat} {cs : Array Value} {k : IntKind} {j : Int} (hu : P.underlying t = some (.array len el)) (hs : ∀ w, (sizeOf el).run P w = .ok 1 w) (hA : ∀ w, (isAgg el).run P w = .ok false w)
    (hx : ev E x = some (.agg cs)) (hy : ev E y = some (.int k j)) (h0 : 0 ≤ j) (h1 : j < len) (hv : cs[j.toNat]? = some v) : Val P Γ E H ⟨dst, .index t x y, ty, pos, after, g⟩ v := fun a w ha _ => by
  simp [execOp, ha.eval hx, ha.eval hy, Sem.run_bind, Instr.index, asIntOf, run_underlying hu, h0, h1, hs, part, hA, hv]
end
def fillG (l m : List Value) (k : Nat) : List Value := l.take k ++ m.drop k
theorem fillG_all {l m : List Value} {n : Nat} (h : l.length = n) (h' : m.length = n) : fillG l m n = l := by
  unfold fillG; rw [List.take_of_length_le (by omega), List.drop_of_length_le (by omega), List.append_nil]
theorem fillG_length {l m : List Value} (h : l.length = m.length) (k : Nat) : (fillG l m k).length = l.length := by
  unfold fillG; simp; omega
theorem fillG_step {l m : List Value} {k : Nat} {c : Value} (hc : l[k]? = some c) (h : l.length = m.length) : (fillG l m k).set k c = fillG l m (k + 1) := by
  have hk : k < l.length := (List.getElem?_eq_some_iff.1 hc).1
  unfold fillG
  rw [List.set_append_right _ _ (by simp; omega), List.length_take, show min k l.length = k by omega, Nat.sub_self, List.drop_eq_getElem_cons (show k < m.length by omega), List.set_cons_zero, List.take_add_one, hc]
  simp
end Go.Wk
namespace Go.Wk
open Go
section
variable {P : Program} {Γ : Ctx} {E : Env} {H : List Res} {ops : Array Oper} {Q : Exit → Act → World → Prop} {rest : List Oper}
  {d : Nat} {ty : TypeId} {pos : String} {after : Array Edge}
def Meet (Γ : Ctx) {σ : Type} (inv : σ → Prop) (I : σ → Env) (J : σ → List Res) (a : Act) (w : World) : Prop := ∃ s, inv s ∧ Agrees Γ.n Γ.D (I s) a ∧ Rep Γ.w0 Γ.S (J s) w
theorem At.join {σ : Type} (inv : σ → Prop) (I : σ → Env) (J : σ → List Res) {x y : Code} (hx : At Γ E H (x.wp P (Exit.then (Meet Γ inv I J) Q))) (hy : ∀ s, inv s → At Γ (I s) (J s) (y.wp P Q)) : At Γ E H ((Code.seq x y).wp P Q) :=
  At.seq fun a w ha hw => wp_mono (hx a w ha hw) fun e a w hq => by
    cases e with
    | normal => obtain ⟨s, h1, h2, h3⟩ := hq; exact hy s h1 a w h2 h3
    | _ => exact hq
theorem At.meets {σ : Type} {inv : σ → Prop} {I : σ → Env} {J : σ → List Res} (s : σ) (h : inv s) (hE : Sub E (I s)) (hH : H.Perm (J s)) : At Γ E H (Meet Γ inv I J) := fun a w ha hw => ⟨s, h, ha.weaken hE, hw.perm hH⟩
def NewRowT (P : Program) (f : FuncId) (vs : List Value) (g : Value → Value) (e sz n : Nat) (xs : List Value) (w : World) : Prop :=
  Calls P f vs.toArray w fun r w' => ∃ v', r = .returned (g v') ∧ Rep w (feet []) [rowR v' e sz n xs] w'
theorem At.callNT {g : Value → Value} {e sz n : Nat} {xs : List Value} {f : FuncId} {l : List Operand} {vs : List Value} {at_ : Array TypeId} (h : ∀ w, Rep Γ.w0 Γ.S H w → NewRowT P f vs g e sz n xs w)
    (hc : ∀ args w, (callFunc f args).run P w = .ok (.enter f args) w) (hv : evs E l = some vs) (hn : Nat.blt d Γ.n = true)
    (k : ∀ v', At Γ ((d, g v') :: E) (rowR v' e sz n xs :: H) (wpList P ops Q rest)) :
    At Γ E H (wpList P ops Q ({ dst := some d, op := .call { callee := .value (.func f), args := l.toArray, argTypes := at_ }, type := ty, pos, after, guard := none } :: rest)) :=
  At.call hc hv hn fun w hw => (h w hw).mono fun e w' ⟨v', he, hr⟩ => ⟨g v', _, he, Rep.frame (H0 := []) (F := H) hw hr, k v'⟩
end
end Go.Wk
namespace Go.Wk
open Go
def Cells (w : World) (A : Option Addr) (l : List Value) : Prop := ∀ j u, l[j]? = some u → ∃ b o, A = some ⟨b, o, none⟩ ∧ w.cell? ⟨b, o + j, none⟩ = some u
theorem Cells.mod {w w' : World} {A : Option Addr} {l : List Value} (h : Cells w A l) (hm : Mod (fun _ => False) w w') : Cells w' A l := fun j u hj => by
  obtain ⟨b, o, e, hc⟩ := h j u hj
  refine ⟨b, o, e, ?_⟩
  have hr : Rep w (fun _ => False) [] w' := ⟨by simp, by simp, by simp, hm⟩
  exact hr.oldCell hc (fun h => h)
theorem row_cells {w : World} {A : Option Addr} {e sz n c : Nat} {xs : List Value} (h : w.ownsRow 0 e sz (.slice A n c) n xs) (hsz : 0 < sz) : Cells w A xs := fun k u hk => by
  have hc := row_cell (u := u) h (q := k) hk
  rcases h.2 with ⟨h1, rfl⟩ | ⟨b, cap, cur, h1, _⟩
  · have := h.1; simp at this; subst this; simp at hk
  · simp only [Value.slice.injEq] at h1
    obtain ⟨rfl, _, _⟩ := h1
    refine ⟨b, 0, rfl, ?_⟩
    simpa [rowB, Value.ownBlock] using hc
section
variable {P : Program} {Γ : Ctx} {E : Env} {H : List Res} {dst : Option Tmp} {g : Option (Nat × Bool)} {ty : TypeId} {pos : String} {after : Array Edge} {x y : Operand} {v : Value}
theorem Val.loadOldPart {t b o n : Nat} {vs : List Value} (hA : ∀ w, (isAgg t).run P w = .ok true w) (hs : ∀ w, (sizeOf t).run P w = .ok n w) (hx : ev E x = some (.pointer (some ⟨b, o, none⟩))) (hl : vs.length = n)
    (hc : ∀ j u, vs[j]? = some u → Γ.w0.cell? ⟨b, o + j, none⟩ = some u) (hS : ¬ Γ.S b) : Val P Γ E H ⟨dst, .load t x, ty, pos, after, g⟩ (.agg vs.toArray) := fun a w ha hw => by
  have hld := run_loadCells_list (P := P) w ⟨b, o, none⟩ vs (fun j u hj => by rw [Addr.add_off]; exact hw.oldCell (hc j u hj) hS)
  rw [hl] at hld
  simp only [execOp, ha.eval hx, Instr.loadAt, Instr.sureAddr, loadVar, Sem.run_bind, Sem.run_pure, Result.andThen_ok, hA, if_true, hs, hld]
end
end Go.Wk
namespace Go.Wk
open Go
section
variable {P : Program} {Γ : Ctx} {E : Env} {H : List Res} {ops : Array Oper} {Q : Exit → Act → World → Prop} {rest : List Oper} {d : Nat} {ty : TypeId} {pos : String} {after : Array Edge} {x y : Operand} {v : Value}
theorem At.appendSl {i t e sz by_ n m c : Nat} {A : Option Addr} {ti : TypeInfo} {z : Value} {xs ys : List Value} (ht : P.underlying t = some (.slice e)) (hti : P.info? e = some ti) (hz : ti.zero = some z) (hsize : ti.size = sz) (hby : ti.bytes = by_) (hzs : z.cells.size = sz) (hsz : Nat.blt 0 sz = true)
    (hx : ev E x = some v) (hy : ev E y = some (.slice A m c)) (hi : H[i]? = some (rowR v e sz n xs)) (hl : ys.length = m * sz) (hmc : m ≤ c) (hA : A = none → m = 0 ∧ c = 0) (hsp : 0 < c → ∀ a, A = some a → a.spot = none)
    (hsrc : ∀ w, Rep Γ.w0 Γ.S H w → Cells w A ys) (h1 : ∀ u ∈ ys, u.oneCell' = true) (h63 : (n + m) * by_ ≤ 140737488355328) (h64 : n + m ≤ 140737488355328) (hn : Nat.blt d Γ.n = true)
    (k : ∀ v', At Γ ((d, v') :: E) (H.set i (rowR v' e sz (n + m) (xs ++ ys))) (wpList P ops Q rest)) :
    At Γ E H (wpList P ops Q ({ dst := some d, op := .call { callee := .builtin .append, args := #[x, y], argTypes := #[t, t] }, type := ty, pos, after, guard := none } :: rest)) := by
  cases A with
  | none =>
    obtain ⟨rfl, rfl⟩ := hA rfl
    have hys : ys = [] := List.eq_nil_of_length_eq_zero (by omega)
    subst hys
    refine At.run rfl rfl hn fun a w ha hw => ?_
    have h : w.ownsRow 0 e sz v n xs := hw.row hi
    have hr := run_append_owned_none (P := P) (w := w) 0 t ty e ti sz ht hti v n xs h
    refine ⟨v, w, _, by simp [execOp, resolve, invoke, builtin, ha.eval hx, ha.eval hy, Sem.run_bind, hr], ?_, k v⟩
    exact Rep.change hi hw (Mod.refl _ _) (by simpa [rowR] using h) (fun b hb => .inl hb)
  | some a =>
    rcases Nat.eq_zero_or_pos c with hc0 | hc0
    · subst hc0
      obtain rfl : m = 0 := by omega
      have hys : ys = [] := List.eq_nil_of_length_eq_zero (by omega)
      subst hys
      refine At.run rfl rfl hn fun a' w ha hw => ?_
      have h : w.ownsRow 0 e sz v n xs := hw.row hi
      obtain ⟨v', w', hr, ho, hg, hf⟩ := run_append_row (P := P) (ty := ty) ht hti hz hsize hby hzs (by simpa [Nat.blt_eq] using hsz) h (a := a) (m := 0) (c := 0) hl (fun j u hj => by cases hj) h1 (by simp only [maxLen]; omega) h63
      exact ⟨v', w', _, by simp [execOp, resolve, invoke, builtin, ha.eval hx, ha.eval hy, Sem.run_bind, hr], hw.change hi (grown_mod hg) ho hf, k v'⟩
    obtain ⟨b, o, s⟩ := a
    have : s = none := hsp hc0 _ rfl
    subst this
    exact At.append ht hti hz hsize hby hzs hsz hx hy hi hl (fun w hw j u hj => by
      obtain ⟨b', o', e', hc⟩ := hsrc w hw j u hj
      simp only [Option.some.injEq, Addr.mk.injEq] at e'
      obtain ⟨rfl, rfl, _⟩ := e'
      exact hc) h1 h63 h64 hn k
end
theorem Bytes.cells {w : World} {A : Option Addr} {l : List UInt8} (h : Bytes w A l) : Cells w A (l.map bv) := fun j u hj => by
  rw [List.getElem?_map] at hj
  cases hq : l[j]? with
  | none => rw [hq] at hj; cases hj
  | some q =>
    rw [hq] at hj
    obtain ⟨b, o, e, hc⟩ := h j q hq
    exact ⟨b, o, e, by rw [hc]; exact hj⟩
end Go.Wk
