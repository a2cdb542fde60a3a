/- The steps of the calculus: one rule an operation. -/
import Derived.Test.YtoiebgnmknbkjaaDoorWk
set_option linter.unusedVariables false
set_option linter.unusedSimpArgs false
namespace Go.Wk
open Go
section
variable {P : Program} {Γ : Ctx} {E : Env} {H : List Res} {ops : Array Oper} {Q : Exit → Act → World → Prop} {rest : List Oper}
  {d : Nat} {dst : Option Tmp} {g : Option (Nat × Bool)} {ty : TypeId} {pos : String} {after : Array Edge} {x y z : Operand} {v u : Value}

theorem Val.move (hx : ev E x = some v) : Val P Γ E H ⟨dst, .move x, ty, pos, after, g⟩ v :=
  fun a w ha _ => by simp [execOp, ha.eval hx]
theorem Val.assign (hx : ev E x = some v) : Val P Γ E H ⟨dst, .assign x, ty, pos, after, g⟩ v :=
  fun a w ha _ => by simp [execOp, ha.eval hx]
theorem Val.pick {c : Bool} (hx : ev E x = some (.bool c)) (hy : ev E y = some v) (hz : ev E z = some u) : Val P Γ E H ⟨dst, .pick x y z, ty, pos, after, g⟩ (bif c then v else u) :=
  fun a w ha _ => by cases c <;> simp [execOp, asBool, ha.eval hx, ha.eval hy, ha.eval hz]
theorem Val.pickT (hx : ev E x = some (.bool true)) (hy : ev E y = some v) : Val P Γ E H ⟨dst, .pick x y z, ty, pos, after, g⟩ v :=
  fun a w ha _ => by simp [execOp, asBool, ha.eval hx, ha.eval hy]
theorem Val.pickF (hx : ev E x = some (.bool false)) (hz : ev E z = some u) : Val P Γ E H ⟨dst, .pick x y z, ty, pos, after, g⟩ u :=
  fun a w ha _ => by simp [execOp, asBool, ha.eval hx, ha.eval hz]

/-! ### numbers -/
/-- The bits of two numbers, as the model has them. -/
def ib (op : BinOp) (k : IntKind) (x y : Int) : Int :=
  match op with
  | .and => k.wrap (BitVec.ofInt k.bits x &&& BitVec.ofInt k.bits y).toNat
  | .or => k.wrap (BitVec.ofInt k.bits x ||| BitVec.ofInt k.bits y).toNat
  | .andNot => k.wrap (BitVec.ofInt k.bits x &&& ~~~BitVec.ofInt k.bits y).toNat
  | _ => k.wrap (BitVec.ofInt k.bits x ^^^ BitVec.ofInt k.bits y).toNat
def ibin (op : BinOp) (k : IntKind) (a b : Int) : Option Value :=
  match op with
  | .add => some (.int k (k.wrap (a + b)))
  | .sub => some (.int k (k.wrap (a - b)))
  | .mul => some (.int k (k.wrap (a * b)))
  | .and => some (.int k (ib .and k a b))
  | .or => some (.int k (ib .or k a b))
  | .xor => some (.int k (ib .xor k a b))
  | .andNot => some (.int k (ib .andNot k a b))
  | .eql => some (.bool (a == b))
  | .neq => some (.bool (a != b))
  | .lss => some (.bool (decide (a < b)))
  | .leq => some (.bool (decide (a ≤ b)))
  | .gtr => some (.bool (decide (a > b)))
  | .geq => some (.bool (decide (a ≥ b)))
  | _ => .none
theorem run_ibin {op : BinOp} {k : IntKind} {a b : Int} {v : Value} (h : ibin op k a b = some v) (t : TypeId) (x y : Operand) (w : World) :
    ((do eqGuard op t x y (.int k a) (.int k b); binOp op t (.int k a) (.int k b)) : Sem Value).run P w = .ok v w := by
  cases op <;> simp [ibin] at h <;> subst h <;> simp [eqGuard, binOp, Op.intArith, Op.intBits, Op.intCmp, ib]
theorem Val.bin {op : BinOp} {t t' : TypeId} {k : IntKind} {a b : Int} (hx : ev E x = some (.int k a)) (hy : ev E y = some (.int k b)) (hv : ibin op k a b = some v) : Val P Γ E H ⟨dst, .binOp op t x y t', ty, pos, after, g⟩ v :=
  fun a w ha _ => by
    have := run_ibin (P := P) hv t x y w
    simp only [execOp, ha.eval hx, ha.eval hy]
    rw [Sem.run_bind, this]; rfl
theorem Val.quo {t t' : TypeId} {k : IntKind} {a b : Int} (hx : ev E x = some (.int k a)) (hy : ev E y = some (.int k b)) (hb : b ≠ 0) : Val P Γ E H ⟨dst, .binOp .quo t x y t', ty, pos, after, g⟩ (.int k (k.wrap (a.tdiv b))) :=
  fun a w ha _ => by simp [execOp, ha.eval hx, ha.eval hy, eqGuard, binOp, Op.intDiv, hb]
theorem Val.rem {t t' : TypeId} {k : IntKind} {a b : Int} (hx : ev E x = some (.int k a)) (hy : ev E y = some (.int k b)) (hb : b ≠ 0) : Val P Γ E H ⟨dst, .binOp .rem t x y t', ty, pos, after, g⟩ (.int k (a.tmod b)) :=
  fun a w ha _ => by simp [execOp, ha.eval hx, ha.eval hy, eqGuard, binOp, Op.intDiv, hb]
theorem Val.shl {t t' : TypeId} {k k' : IntKind} {a b : Int} (hx : ev E x = some (.int k a)) (hy : ev E y = some (.int k' b)) (hb : 0 ≤ b) : Val P Γ E H ⟨dst, .binOp .shl t x y t', ty, pos, after, g⟩ (.int k (k.wrap (a * 2 ^ min b.toNat k.bits))) :=
  fun a w ha _ => by simp [execOp, ha.eval hx, ha.eval hy, eqGuard, binOp, Op.shift, Int.not_lt.2 hb]
theorem Val.shr {t t' : TypeId} {k k' : IntKind} {a b : Int} (hx : ev E x = some (.int k a)) (hy : ev E y = some (.int k' b)) (hb : 0 ≤ b) : Val P Γ E H ⟨dst, .binOp .shr t x y t', ty, pos, after, g⟩ (.int k (a.fdiv (2 ^ min b.toNat k.bits))) :=
  fun a w ha _ => by simp [execOp, ha.eval hx, ha.eval hy, eqGuard, binOp, Op.shift, Int.not_lt.2 hb]
theorem Val.not {t : TypeId} {b : Bool} (hx : ev E x = some (.bool b)) : Val P Γ E H ⟨dst, .unOp .not t x, ty, pos, after, g⟩ (.bool (!b)) :=
  fun a w ha _ => by simp [execOp, ha.eval hx, Op.unary]
theorem Val.neg {t : TypeId} {k : IntKind} {b : Int} (hx : ev E x = some (.int k b)) : Val P Γ E H ⟨dst, .unOp .neg t x, ty, pos, after, g⟩ (.int k (k.wrap (0 - b))) :=
  fun a w ha _ => by simp [execOp, ha.eval hx, Op.unary, Op.intArith]
theorem Val.com {t : TypeId} {k : IntKind} {b : Int} (hx : ev E x = some (.int k b)) : Val P Γ E H ⟨dst, .unOp .xor t x, ty, pos, after, g⟩ (.int k (ib .xor k (if k.signed then -1 else k.max) b)) :=
  fun a w ha _ => by simp [execOp, ha.eval hx, Op.unary, Op.intBits, ib]
theorem Val.conv {s t : TypeId} {ds : TypeDesc} {k k' : IntKind} {b : Int} (hs : P.underlying s = some ds) (ht : P.underlying t = some (.int k)) (hx : ev E x = some (.int k' b)) : Val P Γ E H ⟨dst, .convert s t x, ty, pos, after, g⟩ (.int k (k.wrap b)) :=
  fun a w ha _ => by simp [execOp, ha.eval hx, convert, Sem.run_bind, run_underlying hs, run_underlying ht, Conv.intToInt]
theorem Val.seq_ {t t' : TypeId} {s r : ByteArray} (hx : ev E x = some (.string s)) (hy : ev E y = some (.string r)) : Val P Γ E H ⟨dst, .binOp .eql t x y t', ty, pos, after, g⟩ (.bool (s.toList == r.toList)) :=
  fun a w ha _ => by simp [execOp, ha.eval hx, ha.eval hy, eqGuard, binOp, Op.stringOp]
theorem Val.sne {t t' : TypeId} {s r : ByteArray} (hx : ev E x = some (.string s)) (hy : ev E y = some (.string r)) : Val P Γ E H ⟨dst, .binOp .neq t x y t', ty, pos, after, g⟩ (.bool (!(s.toList == r.toList))) :=
  fun a w ha _ => by simp [execOp, ha.eval hx, ha.eval hy, eqGuard, binOp, Op.stringOp]

theorem run_equal_bool {t : TypeId} (hu : P.underlying t = some .bool) (a b : Bool) (w : World) : (Op.equal t (.bool a) (.bool b)).run P w = .ok (a == b) w := by
  have key : ∀ d : Nat, (Op.equalIn (d + 1) t (.bool a) (.bool b)).run P w = .ok (a == b) w := fun d => by
    simp [Op.equalIn, Sem.run_bind, run_underlying hu]
  exact key 9999
theorem Val.eqB {t t' : TypeId} {a b : Bool} (hu : P.underlying t = some .bool) (hx : ev E x = some (.bool a)) (hy : ev E y = some (.bool b)) : Val P Γ E H ⟨dst, .binOp .eql t x y t', ty, pos, after, g⟩ (.bool (a == b)) :=
  fun q w ha _ => by simp [execOp, ha.eval hx, ha.eval hy, eqGuard, binOp, Sem.run_bind, run_equal_bool hu]
theorem Val.neB {t t' : TypeId} {a b : Bool} (hu : P.underlying t = some .bool) (hx : ev E x = some (.bool a)) (hy : ev E y = some (.bool b)) : Val P Γ E H ⟨dst, .binOp .neq t x y t', ty, pos, after, g⟩ (.bool (!(a == b))) :=
  fun q w ha _ => by simp [execOp, ha.eval hx, ha.eval hy, eqGuard, binOp, Sem.run_bind, run_equal_bool hu]

/-! ### parts -/
theorem Val.extract {i : Nat} {vs : Array Value} (hx : ev E x = some (.tuple vs)) (hv : vs[i]? = some v) : Val P Γ E H ⟨dst, .extract x i, ty, pos, after, g⟩ v :=
  fun a w ha _ => by simp [execOp, ha.eval hx, Instr.extract, hv]
theorem Val.nilCheck {p : Addr} (hx : ev E x = some (.pointer (some p))) : Val P Γ E H ⟨dst, .nilCheck x, ty, pos, after, g⟩ (.pointer (some p)) :=
  fun a w ha _ => by simp [execOp, ha.eval hx]
/-- The place of a field, by the type's table. -/
def fieldOf (P : Program) (t : TypeId) (i : Nat) : Option Field := match P.underlying t with | some (.struct fs) => fs[i]? | _ => none
theorem run_fieldAt {t : TypeId} {i : Nat} {f : Field} {n : Nat} (hf : fieldOf P t i = some f) (hs : ∀ w, (sizeOf f.type).run P w = .ok (n + 1) w) (b o : Nat) (w : World) :
    (Instr.fieldAt t (.pointer (some ⟨b, o, none⟩)) i).run P w = .ok (.pointer (some ⟨b, o + f.offset, none⟩)) w := by
  unfold fieldOf at hf
  split at hf
  · rename_i fs hu
    simp only [Instr.fieldAt, Sem.run_bind, run_underlying hu, Result.andThen_ok, hf, Instr.sureAddr, Sem.run_pure, fieldPlace, hs]
    simp [Addr.add]
  · simp at hf
theorem Val.field {t : TypeId} {i b o p : Nat} (q : Nat) (hq : o + p = q) (hf : ∀ (b o : Nat) (w : World), (Instr.fieldAt t (.pointer (some ⟨b, o, none⟩)) i).run P w = .ok (.pointer (some ⟨b, o + p, none⟩)) w)
    (hx : ev E x = some (.pointer (some ⟨b, o, none⟩))) : Val P Γ E H ⟨dst, .fieldAddr t x i, ty, pos, after, g⟩ (.pointer (some ⟨b, q, none⟩)) :=
  fun a w ha _ => by subst hq; simp [execOp, ha.eval hx, Sem.run_bind, hf]

/-! ### memory -/
theorem run_loadAt_cell {t : TypeId} {p : Addr} {w : World} (hA : ∀ w, (isAgg t).run P w = .ok false w) (hv : w.cell? p = some v) : (Instr.loadAt t (.pointer (some p))).run P w = .ok v w := by
  simp [Instr.loadAt, Instr.sureAddr, loadVar, Sem.run_bind, hA, load, Sem.run, hv]
theorem Val.load {t : TypeId} {i b o U : Nat} {cs : List Value} (hA : ∀ w, (isAgg t).run P w = .ok false w) (hx : ev E x = some (.pointer (some ⟨b, o, none⟩)))
    (hi : H[i]? = some (blk b U cs)) (hv : cs[o]? = some v) : Val P Γ E H ⟨dst, .load t x, ty, pos, after, g⟩ v :=
  fun a w ha hw => by
    have := run_loadAt_cell (P := P) hA (((hw.blk hi).cell o).trans hv)
    simp [execOp, ha.eval hx, Sem.run_bind, this]
/-- A cell of the world in which the call began. -/
theorem Val.loadOld {t : TypeId} {p : Addr} (hA : ∀ w, (isAgg t).run P w = .ok false w) (hx : ev E x = some (.pointer (some p)))
    (hv : Γ.w0.cell? p = some v) (hS : ¬ Γ.S p.block) : Val P Γ E H ⟨dst, .load t x, ty, pos, after, g⟩ v :=
  fun a w ha hw => by
    have := run_loadAt_cell (P := P) hA (hw.oldCell hv hS)
    simp [execOp, ha.eval hx, Sem.run_bind, this]
theorem run_loadAt_part {t : TypeId} {b o n U : Nat} {cs : List Value} {w : World} (hA : ∀ w, (isAgg t).run P w = .ok true w) (hs : ∀ w, (sizeOf t).run P w = .ok n w)
    (hb : Holds w b U cs) (ho : o + n ≤ cs.length) : (Instr.loadAt t (.pointer (some ⟨b, o, none⟩))).run P w = .ok (.agg ((cs.drop o).take n).toArray) w := by
  have hl := run_loadCells_list (P := P) w ⟨b, o, none⟩ ((cs.drop o).take n) (fun j v hv => by
    have hadd : (⟨b, o, none⟩ : Addr).add j = ⟨b, o + j, none⟩ := by unfold Addr.add; split <;> simp_all
    rw [hadd, hb.cell]
    rw [List.getElem?_take] at hv
    split at hv
    · simpa [List.getElem?_drop] using hv
    · simp at hv)
  have hlen : ((cs.drop o).take n).length = n := by simp; omega
  rw [hlen] at hl
  simp only [Instr.loadAt, Instr.sureAddr, loadVar, Sem.run_bind, Sem.run_pure, Result.andThen_ok, hA, if_true, hs, hl]
theorem Val.loadPart {t : TypeId} {i b o n U : Nat} {cs vs : List Value} (hA : ∀ w, (isAgg t).run P w = .ok true w) (hs : ∀ w, (sizeOf t).run P w = .ok n w) (hx : ev E x = some (.pointer (some ⟨b, o, none⟩)))
    (hi : H[i]? = some (blk b U cs)) (hv : (cs.drop o).take n = vs) (hl : vs.length = n) : Val P Γ E H ⟨dst, .load t x, ty, pos, after, g⟩ (.agg vs.toArray) :=
  fun a w ha hw => by
    have ho : n = 0 ∨ o + n ≤ cs.length := by rw [← hv] at hl; simp at hl; omega
    rcases ho with h0 | ho
    · subst h0
      have : vs = [] := by simpa using hl
      subst this
      simp only [execOp, ha.eval hx, Instr.loadAt, Instr.sureAddr, loadVar, Sem.run_bind, Sem.run_pure, Result.andThen_ok, hA, if_true, hs, loadCells, loadCellsFrom]
    · have := run_loadAt_part hA hs (hw.blk hi) ho
      rw [hv] at this
      simp only [execOp, ha.eval hx, Sem.run_bind, this, Result.andThen_ok, Sem.run_pure]
/-- A whole block. -/
theorem Val.loadAll {t : TypeId} {i b n U : Nat} {cs : List Value} (hA : ∀ w, (isAgg t).run P w = .ok true w) (hs : ∀ w, (sizeOf t).run P w = .ok n w) (hx : ev E x = some (.pointer (some ⟨b, 0, none⟩)))
    (hi : H[i]? = some (blk b U cs)) (hl : cs.length = n) : Val P Γ E H ⟨dst, .load t x, ty, pos, after, g⟩ (.agg cs.toArray) :=
  Val.loadPart (n := n) hA hs hx hi (by subst hl; simp) hl
/-! ### addresses of elements, slices -/
theorem Val.indexArr {t el : TypeId} {len b o n : Nat} {k : IntKind} {j : Int} (q : Nat) (hq : o + j.toNat * n = q) (hu : P.underlying t = some (.array len el)) (hs : ∀ w, (sizeOf el).run P w = .ok n w)
    (hx : ev E x = some (.pointer (some ⟨b, o, none⟩))) (hy : ev E y = some (.int k j)) (h0 : 0 ≤ j) (h1 : j < len) :
    Val P Γ E H ⟨dst, .indexAddr t x y, ty, pos, after, g⟩ (.pointer (some ⟨b, q, none⟩)) := fun a w ha _ => by
  subst hq
  have hadd : (⟨b, o, none⟩ : Addr).add (j.toNat * n) = ⟨b, o + j.toNat * n, none⟩ := by unfold Addr.add; split <;> simp_all
  simp [execOp, ha.eval hx, ha.eval hy, Sem.run_bind, Instr.indexAt, asIntOf, run_underlying hu, Instr.sureAddr, h0, h1, hs, hadd]
theorem Val.indexSl {t el : TypeId} {len c b o n : Nat} {k : IntKind} {j : Int} (q : Nat) (hq : o + j.toNat * n = q) (hu : P.underlying t = some (.slice el)) (hs : ∀ w, (sizeOf el).run P w = .ok n w)
    (hx : ev E x = some (.slice (some ⟨b, o, none⟩) len c)) (hy : ev E y = some (.int k j)) (h0 : 0 ≤ j) (h1 : j < len) :
    Val P Γ E H ⟨dst, .indexAddr t x y, ty, pos, after, g⟩ (.pointer (some ⟨b, q, none⟩)) := fun a w ha _ => by
  subst hq
  have hadd : (⟨b, o, none⟩ : Addr).add (j.toNat * n) = ⟨b, o + j.toNat * n, none⟩ := by unfold Addr.add; split <;> simp_all
  simp [execOp, ha.eval hx, ha.eval hy, Sem.run_bind, Instr.indexAt, asIntOf, run_underlying hu, h0, h1, hs, hadd]
/-- A character of a text. -/
theorem Val.indexStr {t : TypeId} {s : ByteArray} {k : IntKind} {j : Int} {c : UInt8} (hu : P.underlying t = some .string)
    (hx : ev E x = some (.string s)) (hy : ev E y = some (.int k j)) (h0 : 0 ≤ j) (h1 : s[j.toNat]? = some c) :
    Val P Γ E H ⟨dst, .index t x y, ty, pos, after, g⟩ (.int .u8 c.toNat) := fun a w ha _ => by
  simp [execOp, ha.eval hx, ha.eval hy, Sem.run_bind, Instr.index, asIntOf, run_underlying hu, h0, h1]
theorem Val.len {bt : Array TypeId} {t : TypeId} {el : TypeId} {A : Option Addr} {n c : Nat} (hu : P.underlying t = some (.slice el)) (hx : ev E x = some (.slice A n c)) :
    Val P Γ E H ⟨dst, .call { callee := .builtin .len, args := #[x], argTypes := #[t] }, ty, pos, after, g⟩ (.int .i64 n) := fun a w ha _ => by
  simp [execOp, resolve, invoke, builtin, Builtin.len_, ha.eval hx, Sem.run_bind, run_underlying hu, goInt]
theorem Val.lenStr {t : TypeId} {s : ByteArray} (hu : P.underlying t = some .string) (hx : ev E x = some (.string s)) :
    Val P Γ E H ⟨dst, .call { callee := .builtin .len, args := #[x], argTypes := #[t] }, ty, pos, after, g⟩ (.int .i64 s.size) := fun a w ha _ => by
  simp [execOp, resolve, invoke, builtin, Builtin.len_, ha.eval hx, Sem.run_bind, run_underlying hu, goInt]
/-- The bounds of a slice expression, as numbers. -/
def cutLo (E : Env) : Option Operand → Option Nat
  | .none => some 0
  | some x => match ev E x with | some (.int _ j) => if 0 ≤ j then some j.toNat else .none | _ => .none
def cutHi (E : Env) (n : Nat) : Option Operand → Option Nat
  | .none => some n
  | some x => match ev E x with | some (.int _ j) => if 0 ≤ j then some j.toNat else .none | _ => .none
def Bd (E : Env) (o : Option Operand) (dflt : Nat) (n : Nat) : Prop := match o with | .none => n = dflt | some x => ∃ k : IntKind, ∃ j : Int, ev E x = some (.int k j) ∧ 0 ≤ j ∧ j.toNat = n
theorem run_sliceBounds {E : Env} {a : Act} {n : Nat} {D : List Deferred} (ha : Agrees n D E a) {lo hi : Option Operand} {is : Bool} {len cap l h : Nat} (hl : Bd E lo 0 l) (hh : Bd E hi len h) (h1 : l ≤ h) (h2 : h ≤ cap) (w : World) :
    (Instr.sliceBounds is len cap (lo.map a.eval) (hi.map a.eval) .none).run P w = .ok (l, h, cap) w := by
  have key : ∀ (k : IntKind) (j : Int) (m : Nat) (c : BoundsCode), 0 ≤ j → j.toNat ≤ m → (Instr.sliceBound (.int k j) m c).run P w = .ok j.toNat w := fun k j m c h0 hm => by
    have : j ≤ (m : Int) := by omega
    simp [Instr.sliceBound, asIntOf, Sem.run_bind, h0, this]
  cases lo with
  | none =>
    cases hi with
    | none => simp only [Bd] at hl hh; subst hl; subst hh; simp [Instr.sliceBounds]
    | some y =>
      simp only [Bd] at hl hh
      obtain ⟨k, j, hy, h0, rfl⟩ := hh
      subst hl
      simp [Instr.sliceBounds, Sem.run_bind, ha.eval hy, key k j cap _ h0 h2]
  | some x =>
    obtain ⟨k, j, hx, h0, rfl⟩ := hl
    cases hi with
    | none =>
      simp only [Bd] at hh; subst hh
      simp [Instr.sliceBounds, Sem.run_bind, ha.eval hx, key k j h _ h0 h1]
    | some y =>
      obtain ⟨k', j', hy, h0', rfl⟩ := hh
      simp [Instr.sliceBounds, Sem.run_bind, ha.eval hx, ha.eval hy, key k' j' cap _ h0' h2, key k j _ _ h0 h1]
theorem Val.cutArr {t el : TypeId} {len b o n : Nat} (l h q m c : Nat) {lo hi : Option Operand} (hu : P.underlying t = some (.array len el)) (hs : ∀ w, (sizeOf el).run P w = .ok n w)
    (hx : ev E x = some (.pointer (some ⟨b, o, none⟩))) (hl : Bd E lo 0 l) (hh : Bd E hi len h) (h1 : l ≤ h) (h2 : h ≤ len) (hq : (if len = l then o else o + l * n) = q) (hm : h - l = m) (hc : len - l = c) :
    Val P Γ E H ⟨dst, .slice t x lo hi .none, ty, pos, after, g⟩ (.slice (some ⟨b, q, none⟩) m c) := fun a w ha _ => by
  subst hq hm hc
  have hadd : (⟨b, o, none⟩ : Addr).add (l * n) = ⟨b, o + l * n, none⟩ := by unfold Addr.add; split <;> simp_all
  have hr := run_sliceBounds (P := P) ha (is := false) hl hh h1 h2 w
  simp only [execOp, ha.eval hx, Sem.run_bind, Instr.sliceAt, run_underlying hu, Result.andThen_ok, Instr.sureAddr, Sem.run_pure, Option.map_none, hr, hs, hadd]
  split <;> rfl
theorem Val.cutSl {t el : TypeId} {len c b o n : Nat} (l h q m c' : Nat) {lo hi : Option Operand} (hu : P.underlying t = some (.slice el)) (hs : ∀ w, (sizeOf el).run P w = .ok n w)
    (hx : ev E x = some (.slice (some ⟨b, o, none⟩) len c)) (hl : Bd E lo 0 l) (hh : Bd E hi len h) (h1 : l ≤ h) (h2 : h ≤ c) (hq : (if c = l then o else o + l * n) = q) (hm : h - l = m) (hc : c - l = c') :
    Val P Γ E H ⟨dst, .slice t x lo hi .none, ty, pos, after, g⟩ (.slice (some ⟨b, q, none⟩) m c') := fun a w ha _ => by
  subst hq hm hc
  have hadd : (⟨b, o, none⟩ : Addr).add (l * n) = ⟨b, o + l * n, none⟩ := by unfold Addr.add; split <;> simp_all
  have hr := run_sliceBounds (P := P) ha (is := true) hl hh h1 h2 w
  simp only [execOp, ha.eval hx, Sem.run_bind, Instr.sliceAt, run_underlying hu, Result.andThen_ok, Instr.slice, Sem.run_pure, Option.map_none, hr, hs, hadd]
  split <;> simp [hadd]
theorem Val.cutStr {t : TypeId} {s : ByteArray} {l h : Nat} {lo hi : Option Operand} (hu : P.underlying t = some .string)
    (hx : ev E x = some (.string s)) (hl : Bd E lo 0 l) (hh : Bd E hi s.size h) (h1 : l ≤ h) (h2 : h ≤ s.size) :
    Val P Γ E H ⟨dst, .slice t x lo hi .none, ty, pos, after, g⟩ (.string (s.extract l h)) := fun a w ha _ => by
  have hr := run_sliceBounds (P := P) ha (is := false) hl hh h1 h2 w
  simp only [execOp, ha.eval hx, Sem.run_bind, Instr.sliceAt, run_underlying hu, Result.andThen_ok, Instr.slice, Sem.run_pure, Option.map_none, Option.isSome_none, Bool.false_eq_true, if_false, hr]
/-- An operation whose run is known outright (a struct that is built, and the like). -/
theorem Val.build {t : TypeId} {parts : Array (Nat × Operand)} {vs : Array (Nat × Value)} (hp : ∀ a : Act, Agrees Γ.n Γ.D E a → (parts.map fun p => (p.1, a.eval p.2)) = vs)
    (hb : ∀ w, (Instr.build t vs).run P w = .ok v w) : Val P Γ E H ⟨dst, .build t parts, ty, pos, after, g⟩ v := fun a w ha _ => by
  simp only [execOp]
  have := hp a ha
  rw [show (parts.map fun (x : Nat × Operand) => (x.1, a.eval x.2)) = vs from this] at *
  simp [Sem.run_bind, hb]
theorem run_storeAt_cell {t : TypeId} {p : Addr} {w : World} {u : Value} (hs : ∀ w, (sizeOf t).run P w = .ok 1 w) (h1 : v.oneCell' = true) (hu : w.cell? p = some u) (hf : w.frozen? p = false) :
    (Instr.storeAt t (.pointer (some p)) v).run P w = .ok () (w.setCell p v) := by
  have hc : v.cells = #[v] := by cases v <;> simp_all [Value.cells, Value.oneCell']
  have ha : p.add 0 = p := by simp [Addr.add]
  cases v <;> simp_all [Instr.storeAt, Instr.sureAddr, storeVar, Sem.run_bind, storeCells, store, Sem.run, Value.oneCell']
theorem At.store {t : TypeId} {i b o U : Nat} {cs : List Value} (hs : ∀ w, (sizeOf t).run P w = .ok 1 w) (hx : ev E x = some (.pointer (some ⟨b, o, none⟩))) (hy : ev E y = some v) (h1 : v.oneCell' = true)
    (hi : H[i]? = some (blk b U cs)) (ho : o < cs.length) (k : At Γ E (H.set i (blk b U (cs.set o v))) (wpList P ops Q rest)) :
    At Γ E H (wpList P ops Q ({ dst := .none, op := .store t x y, type := ty, pos, after, guard := none } :: rest)) :=
  At.skip rfl rfl fun a w ha hw => by
    have hb := hw.blk hi
    have hr := run_storeAt_cell (P := P) (p := ⟨b, o, none⟩) hs h1 ((hb.cell o).trans (List.getElem?_eq_getElem ho)) (hb.frozen o ho)
    exact ⟨w.setCell ⟨b, o, none⟩ v, _, by simp [execOp, ha.eval hx, ha.eval hy, Sem.run_bind, hr], hw.set hi o v, k⟩
/-- The cells of a part, stored one behind the other. -/
def putAt (cs : List Value) (o : Nat) (vs : List Value) : List Value := cs.take o ++ vs ++ cs.drop (o + vs.length)
theorem storeCells_list {S : Nat → Prop} {w0 : World} {i b U : Nat} : ∀ (vs : List Value) (o j : Nat) (cs : List Value) (H : List Res) (w : World), Rep w0 S H w → H[i]? = some (blk b U cs) → o + j + vs.length ≤ cs.length → (∀ v ∈ vs, v.oneCell' = true) →
    ∃ w', (storeCells ⟨b, o, none⟩ vs j).run P w = .ok () w' ∧ Rep w0 S (H.set i (blk b U (putAt cs (o + j) vs))) w' := by
  intro vs
  induction vs with
  | nil =>
    intro o j cs H w hw hi ho _
    refine ⟨w, by simp [storeCells], ?_⟩
    have e : putAt cs (o + j) [] = cs := by simp [putAt]
    have e2 : H.set i (blk b U cs) = H := by
      apply List.ext_getElem?
      intro q
      rw [List.getElem?_set]
      split
      · rename_i e; subst e
        split
        · rw [hi]
        · rename_i hn; rw [List.getElem?_eq_none (by omega)]
      · rfl
    rw [e, e2]; exact hw
  | cons v vs ih =>
    intro o j cs H w hw hi ho h1
    simp only [List.length_cons] at ho
    have hb := hw.blk hi
    have hadd : (⟨b, o, none⟩ : Addr).add j = ⟨b, o + j, none⟩ := by unfold Addr.add; split <;> simp_all
    have hlt : o + j < cs.length := by omega
    have hc := (hb.cell (o + j)).trans (List.getElem?_eq_getElem hlt)
    have hf := hb.frozen (o + j) hlt
    have hset := hw.set hi (o + j) v
    have hi' : (H.set i (blk b U (cs.set (o + j) v)))[i]? = some (blk b U (cs.set (o + j) v)) := by
      rw [List.getElem?_set]; simp; exact (List.getElem?_eq_some_iff.1 hi).1
    obtain ⟨w', hr, hw'⟩ := ih o (j + 1) _ _ _ hset hi' (by simp; omega) (fun u hu => h1 u (List.mem_cons_of_mem _ hu))
    refine ⟨w', ?_, ?_⟩
    · have h1v := h1 v (List.mem_cons_self ..)
      simp only [storeCells, Sem.run_bind, hadd]
      have : (store ⟨b, o + j, none⟩ v).run P w = .ok () (w.setCell ⟨b, o + j, none⟩ v) := by
        cases v <;> simp_all [store, Sem.run, Value.oneCell']
      rw [this, Result.andThen_ok, hr]
    · rw [List.set_set] at hw'
      have e : putAt (cs.set (o + j) v) (o + (j + 1)) vs = putAt cs (o + j) (v :: vs) := by
        unfold putAt
        apply List.ext_getElem?
        intro q
        simp only [List.append_assoc, List.getElem?_append, List.length_take, List.length_set, List.getElem?_take, List.getElem?_set, List.getElem?_drop, List.length_cons, List.getElem?_cons]
        by_cases hq : q < o + j
        · simp [show q < min (o + (j + 1)) cs.length by omega, show q < min (o + j) cs.length by omega, hq, show q < o + (j + 1) by omega, show ¬ (o + j = q) by omega]
        · by_cases hq2 : q = o + j
          · subst hq2
            simp [show o + j < min (o + (j + 1)) cs.length by omega, show ¬ (o + j < min (o + j) cs.length) by omega, show o + j < o + (j + 1) by omega, hlt, show o + j - min (o + j) cs.length = 0 by omega]
          · obtain ⟨r, rfl⟩ : ∃ r, q = o + j + 1 + r := ⟨q - (o + j + 1), by omega⟩
            have e1 : ¬ o + j + 1 + r < min (o + (j + 1)) cs.length := by omega
            have e2 : ¬ o + j + 1 + r < min (o + j) cs.length := by omega
            have e3 : min (o + (j + 1)) cs.length = o + j + 1 := by omega
            have e4 : min (o + j) cs.length = o + j := by omega
            have e5 : o + j + 1 + r - (o + j) = r + 1 := by omega
            have e6 : o + j + 1 + r - (o + j + 1) = r := by omega
            simp only [e1, e2, e3, e4, e5, e6, if_false]
            have e7 : ¬ o + j + 1 + r < o + j + 1 := by omega
            have e8 : r + 1 ≠ 0 := by omega
            have e9 : ¬ o + j + 1 + r < o + (j + 1) := by omega
            by_cases hq3 : r < vs.length
            · simp [hq, hq2, hq3, e7, e8, e9]
            · have e10 : o + (j + 1) + vs.length + (r - vs.length) = o + j + (vs.length + 1) + (r - vs.length) := by omega
              simp [hq, hq2, hq3, e7, e8, e9, e10]
              intro h; omega
      rw [e] at hw'
      exact hw'
theorem At.storePart {t : TypeId} {i b o n U : Nat} {cs vs : List Value} (hs : ∀ w, (sizeOf t).run P w = .ok n w) (hx : ev E x = some (.pointer (some ⟨b, o, none⟩))) (hy : ev E y = some (.agg vs.toArray)) (hl : vs.length = n)
    (h1 : ∀ v ∈ vs, v.oneCell' = true) (hi : H[i]? = some (blk b U cs)) (ho : o + n ≤ cs.length) (k : At Γ E (H.set i (blk b U (putAt cs o vs))) (wpList P ops Q rest)) :
    At Γ E H (wpList P ops Q ({ dst := .none, op := .store t x y, type := ty, pos, after, guard := none } :: rest)) :=
  At.skip rfl rfl fun a w ha hw => by
    obtain ⟨w', hr, hw'⟩ := storeCells_list (P := P) vs o 0 cs H w hw hi (by omega) h1
    refine ⟨w', _, ?_, hw', k⟩
    simp [execOp, ha.eval hx, ha.eval hy, Sem.run_bind, Instr.storeAt, Instr.sureAddr, storeVar, hs, Value.cells, hl, hr]
theorem At.storeAll {t : TypeId} {i b n U : Nat} {cs vs : List Value} (hs : ∀ w, (sizeOf t).run P w = .ok n w) (hx : ev E x = some (.pointer (some ⟨b, 0, none⟩))) (hy : ev E y = some (.agg vs.toArray)) (hl : vs.length = n)
    (h1 : ∀ v ∈ vs, v.oneCell' = true) (hi : H[i]? = some (blk b U cs)) (ho : cs.length = n) (k : At Γ E (H.set i (blk b U vs)) (wpList P ops Q rest)) :
    At Γ E H (wpList P ops Q ({ dst := .none, op := .store t x y, type := ty, pos, after, guard := none } :: rest)) := by
  have e : putAt cs 0 vs = vs := by simp [putAt]; omega
  exact At.storePart (n := n) hs hx hy hl h1 hi (by omega) (by rw [e]; exact k)
theorem At.alloc {t : TypeId} {z : Value} {zs : List Value} (hz : ∀ w, (zeroValue t).run P w = .ok z w) (hc : z.cells = zs.toArray) (hn : Nat.blt d Γ.n = true)
    (k : ∀ b, At Γ ((d, .pointer (some ⟨b, 0, none⟩)) :: E) (blk b t zs :: H) (wpList P ops Q rest)) :
    At Γ E H (wpList P ops Q ({ dst := some d, op := .alloc t, type := ty, pos, after, guard := none } :: rest)) :=
  At.run rfl rfl hn fun a w ha hw => ⟨_, w.alloc (.cells zs.toArray t), _, by simp [execOp, Instr.alloc, Sem.run_bind, hz, newVar, newRow, newObj, Sem.run, hc], hw.alloc t zs, k _⟩
theorem At.box {t : TypeId} {vs : List Value} (hx : ev E x = some v) (hc : v.cells = vs.toArray) (hn : Nat.blt d Γ.n = true)
    (k : ∀ b, At Γ ((d, .pointer (some ⟨b, 0, none⟩)) :: E) (blk b t vs :: H) (wpList P ops Q rest)) :
    At Γ E H (wpList P ops Q ({ dst := some d, op := .box t x, type := ty, pos, after, guard := none } :: rest)) :=
  At.run rfl rfl hn fun a w ha hw => ⟨_, w.alloc (.cells vs.toArray t), _, by simp [execOp, Instr.box, Sem.run_bind, ha.eval hx, newVar, newRow, newObj, Sem.run, hc], hw.alloc t vs, k _⟩
end
end Go.Wk
