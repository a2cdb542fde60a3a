/- The calculus: a test of several parts, as one; rows that are built; bytes out of numbers. -/
import Derived.Test.YtoiebgnmknbkjaaDoorW2
import Derived.Test.YtoiebgnmknbkjaaDoorPv
set_option linter.unusedVariables false
set_option linter.unusedSimpArgs false
namespace Go.Wk
open Go
section
variable {P : Program} {ops : Array Oper} {Q : Exit → Act → World → Prop} {Mid : Act → World → Prop}
theorem Oper.wp_then {o : Oper} {a : Act} {w : World} {K K' : Act → World → Prop} (h : ∀ a w, K a w → K' a w) (hh : o.wp P a w K (Exit.then Mid Q)) : o.wp P a w K' Q := by
  unfold Oper.wp at *
  generalize (execOp a.eval o).run P w = r at *
  cases r with
  | ok n w' =>
    cases n <;> simp only [Oper.upon] at hh ⊢ <;>
      first
        | exact h _ _ hh
        | exact Calls.mono hh (fun e w'' he => by cases e <;> first | exact h _ _ he | exact he)
        | exact Rows.mono hh (fun _ _ he => h _ _ he)
  | halt x w' => cases x <;> simp only [Oper.upon] at hh ⊢ <;> exact hh
theorem wpList_cut {l2 : List Oper} (h2 : ∀ a w, Mid a w → wpList P ops Q l2 a w) : ∀ {l : List Oper} {a : Act} {w : World}, wpList P ops (Exit.then Mid Q) l a w → wpList P ops Q (l ++ l2) a w
  | [], a, w, h => h2 _ _ h
  | o :: l, a, w, h => by
    simp only [List.cons_append]
    unfold wpList at h ⊢
    by_cases hw : Region.wanted o (yielded ops a.tmps) = true
    · rw [if_pos hw] at h ⊢
      rcases h with h | ⟨h, h'⟩
      · exact .inl (Oper.wp_then (fun _ _ k => wpList_cut h2 k) h)
      · exact .inr ⟨h, h'⟩
    · rw [if_neg hw] at h ⊢
      exact wpList_cut h2 h
theorem wpQuiet_cut {C : World → Prop} {ψ ψ' : Act → Prop} {l2 : List Oper} (h2 : ∀ a, ψ' a → wpQuiet P ops C ψ l2 a) : ∀ {l : List Oper} {a : Act}, wpQuiet P ops C ψ' l a → wpQuiet P ops C ψ (l ++ l2) a
  | [], a, h => h2 _ h
  | o :: l, a, h => by
    simp only [List.cons_append]
    unfold wpQuiet at h ⊢
    by_cases hw : Region.wanted o (yielded ops a.tmps) = true
    · rw [if_pos hw] at h ⊢
      exact Go.Oper.quiet_mono (fun _ k => wpQuiet_cut h2 k) h
    · rw [if_neg hw] at h ⊢
      exact wpQuiet_cut h2 h
end
section
variable {P : Program} {Γ : Ctx} {E E' : Env} {H : List Res} {ops : Array Oper} {Q : Exit → Act → World → Prop} {rest l : List Oper}
  {d : Nat} {dst : Option Tmp} {ty : TypeId} {pos : String} {after : Array Edge} {x y z : Operand} {v u : Value} {g : Option (Nat × Bool)} {ψ : Act → Prop}
theorem QAt.weaken (E' : Env) (hE : Sub E E') (k : QAt P Γ ops E' H l ψ) : QAt P Γ ops E H l ψ := fun a ha => k a (ha.weaken hE)
/-- The ways through the next n operations meet: slot d holds b there. -/
def BoolMid (Γ : Ctx) (E : Env) (H : List Res) (d : Nat) (b : Bool) (a : Act) (w : World) : Prop := Agrees Γ.n Γ.D ((d, .bool b) :: E) a ∧ Rep Γ.w0 Γ.S H w
theorem At.boolMeet (n d : Nat) (b : Bool) (h1 : At Γ E H (wpList P ops (Exit.then (BoolMid Γ E H d b) Q) (l.take n))) (h2 : At Γ ((d, .bool b) :: E) H (wpList P ops Q (l.drop n))) : At Γ E H (wpList P ops Q l) := fun a w ha hw => by
  rw [← List.take_append_drop n l]
  exact wpList_cut (fun a w h => h2 a w h.1 h.2) (h1 a w ha hw)
theorem At.boolEnd {d : Nat} {b c : Bool} (hl : look E' d = some (.bool c)) (hc : c = b) (hE : Sub E' E) : At Γ E' H (Exit.then (BoolMid Γ E H d b) Q .normal) := fun a w ha hw => by
  subst hc
  exact ⟨ha.weaken (Sub.cons hl hE), hw⟩
theorem QAt.boolMeet (n d : Nat) (b : Bool) (h1 : QAt P Γ ops E H (l.take n) (fun a => Agrees Γ.n Γ.D ((d, .bool b) :: E) a)) (h2 : QAt P Γ ops ((d, .bool b) :: E) H (l.drop n) ψ) : QAt P Γ ops E H l ψ := fun a ha => by
  rw [← List.take_append_drop n l]
  exact wpQuiet_cut (fun a h => h2 a h) (h1 a ha)
theorem QAt.boolEnd {d : Nat} {b c : Bool} (hl : look E' d = some (.bool c)) (hc : c = b) (hE : Sub E' E) : QAt P Γ ops E' H [] (fun a => Agrees Γ.n Γ.D ((d, .bool b) :: E) a) := fun a ha => by
  subst hc
  exact wpQuiet_nil (ha.weaken (Sub.cons hl hE))
/-- A slice that is built out of values owns its row. -/
theorem At.buildRow {t e n : Nat} {parts : Array (Nat × Operand)} {vs : Array (Nat × Value)} {cs : List Value} (hp : ∀ a : Act, Agrees Γ.n Γ.D E a → (parts.map fun p => (p.1, a.eval p.2)) = vs)
    (hb : ∀ w, (Instr.buildSlice t n vs).run P w = .ok (.slice (some ⟨w.heap.size, 0, none⟩) n n) (w.alloc (.cells cs.toArray e))) (sz : Nat) (hl : cs.length = n * sz) (hm : n ≤ 140737488355328) (hn : Nat.blt d Γ.n = true)
    (k : ∀ v, At Γ ((d, v) :: E) (rowR v e sz n cs :: H) (wpList P ops Q rest)) :
    At Γ E H (wpList P ops Q ({ dst := some d, op := .buildSlice t n parts, type := ty, pos, after, guard := none } :: rest)) :=
  At.run rfl rfl hn fun a w ha hw => by
    refine ⟨_, _, _, ?_, hw.new (r' := rowR (.slice (some ⟨w.heap.size, 0, none⟩) n n) e sz n cs) (Mod.alloc w (.cells cs.toArray e)) ?_ (fun b hb => ?_), k _⟩
    · have := hp a ha
      simp only [execOp]
      rw [show (parts.map fun (x : Nat × Operand) => (x.1, a.eval x.2)) = vs from this]
      simp [Sem.run_bind, hb]
    · exact ⟨hl, .inr ⟨w.heap.size, n, cs.toArray, rfl, Nat.zero_le _, heap_alloc_new w _, Nat.le_refl _, by unfold maxLen; omega, by simpa using hl, by rw [← hl]; simp⟩⟩
    · simp only [rowR, Value.ownBlock, Option.some.injEq] at hb
      omega
theorem Val.toB {s t : TypeId} {ds : TypeDesc} {k' : IntKind} {b : Int} (hs : P.underlying s = some ds) (ht : P.underlying t = some (.int .u8)) (hx : ev E x = some (.int k' b)) (h0 : 0 ≤ b) :
    Val P Γ E H ⟨dst, .convert s t x, ty, pos, after, g⟩ (bv (UInt8.ofNat b.toNat)) := by
  have := Val.conv (P := P) (Γ := Γ) (H := H) (dst := dst) (g := g) (ty := ty) (pos := pos) (after := after) hs ht hx
  rwa [show b = ((b.toNat : Nat) : Int) by omega, wrap_u8_nat] at this
theorem or_one {o i : Int} (h : o = 0 ∨ i = 0) (ho : 0 ≤ o) (ho' : o ≤ 9223372036854775807) (hi : 0 ≤ i) (hi' : i ≤ 9223372036854775807) : ib .or .i64 o i = o + i := by
  have key : ∀ x : Int, 0 ≤ x → x ≤ 9223372036854775807 → IntKind.i64.wrap ((BitVec.ofInt 64 x).toNat : Int) = x := fun x h0 h1 => by
    rw [BitVec.toNat_ofInt, show x % ((2 ^ 64 : Nat) : Int) = x from Int.emod_eq_of_lt h0 (by omega), wrap_i64 (by omega) (by omega)]
    omega
  have z : BitVec.ofInt 64 0 = 0#64 := rfl
  rcases h with rfl | rfl
  · show IntKind.i64.wrap ((BitVec.ofInt 64 0 ||| BitVec.ofInt 64 i).toNat : Int) = 0 + i
    rw [z, BitVec.zero_or, key i hi hi', Int.zero_add]
  · show IntKind.i64.wrap ((BitVec.ofInt 64 o ||| BitVec.ofInt 64 0).toNat : Int) = o + 0
    rw [z, BitVec.or_zero, key o ho ho', Int.add_zero]
def vN (s : ByteArray) : Nat := if validB s then 1 else 0
theorem vN_T {s : ByteArray} : validB s = true ↔ vN s = 1 := by unfold vN; cases validB s <;> simp
theorem vN_F {s : ByteArray} : validB s = false ↔ vN s = 0 := by unfold vN; cases validB s <;> simp
theorem nmE_T {s : ByteArray} : (s.toList == (ByteArray.mk #[]).toList) = true ↔ s.size = 0 := by
  rw [ByteArray.toList_eq, ByteArray.toList_eq, ← size_len]
  show (s.data.toList == ([] : List UInt8)) = true ↔ s.data.toList.length = 0
  rw [beq_iff_eq, List.length_eq_zero_iff]
theorem nmE_F {s : ByteArray} : (s.toList == (ByteArray.mk #[]).toList) = false ↔ s.size ≠ 0 := by
  rw [← Bool.not_eq_true, nmE_T]
end
end Go.Wk
