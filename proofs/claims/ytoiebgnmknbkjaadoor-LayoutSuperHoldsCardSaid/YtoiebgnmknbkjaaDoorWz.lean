/- The calculus: ways that meet again; a call whose answer holds a new row. -/
import Derived.Test.YtoiebgnmknbkjaaDoorWy
set_option linter.unusedVariables false
set_option linter.unusedSimpArgs false
namespace Go.Wk
open Go
section
variable {P : Program} {Γ : Ctx} {E : Env} {H : List Res} {ops : Array Oper} {Q : Exit → Act → World → Prop} {rest : List Oper}
  {d : Nat} {ty : TypeId} {pos : String} {after : Array Edge}
/-- Where the ways through x meet, y begins: what holds there is a family over s. -/
def Meet (Γ : Ctx) {σ : Type} (inv : σ → Prop) (I : σ → Env) (J : σ → List Res) (a : Act) (w : World) : Prop := ∃ s, inv s ∧ Agrees Γ.n Γ.D (I s) a ∧ Rep Γ.w0 Γ.S (J s) w
theorem At.join {σ : Type} (inv : σ → Prop) (I : σ → Env) (J : σ → List Res) {x y : Code} (hx : At Γ E H (x.wp P (Exit.then (Meet Γ inv I J) Q))) (hy : ∀ s, inv s → At Γ (I s) (J s) (y.wp P Q)) : At Γ E H ((Code.seq x y).wp P Q) :=
  At.seq fun a w ha hw => wp_mono (hx a w ha hw) fun e a w hq => by
    cases e with
    | normal => obtain ⟨s, h1, h2, h3⟩ := hq; exact hy s h1 a w h2 h3
    | _ => exact hq
theorem At.meets {σ : Type} {inv : σ → Prop} {I : σ → Env} {J : σ → List Res} (s : σ) (h : inv s) (hE : Sub E (I s)) (hH : H.Perm (J s)) : At Γ E H (Meet Γ inv I J) := fun a w ha hw => ⟨s, h, ha.weaken hE, hw.perm hH⟩
def NewRowT (P : Program) (f : FuncId) (vs : List Value) (g : Value → Value) (e sz n : Nat) (xs : List Value) (w : World) : Prop :=
  Calls P f vs.toArray w fun r w' => ∃ v', r = .returned (g v') ∧ Rep w (feet []) [rowR v' e sz n xs] w'
theorem At.callNT {g : Value → Value} {e sz n : Nat} {xs : List Value} {f : FuncId} {l : List Operand} {vs : List Value} {at_ : Array TypeId} (h : ∀ w, Rep Γ.w0 Γ.S H w → NewRowT P f vs g e sz n xs w)
    (hc : ∀ args w, (callFunc f args).run P w = .ok (.enter f args) w) (hv : evs E l = some vs) (hn : Nat.blt d Γ.n = true)
    (k : ∀ v', At Γ ((d, g v') :: E) (rowR v' e sz n xs :: H) (wpList P ops Q rest)) :
    At Γ E H (wpList P ops Q ({ dst := some d, op := .call { callee := .value (.func f), args := l.toArray, argTypes := at_ }, type := ty, pos, after, guard := none } :: rest)) :=
  At.call hc hv hn fun w hw => (h w hw).mono fun e w' ⟨v', he, hr⟩ => ⟨g v', _, he, Rep.frame (H0 := []) (F := H) hw hr, k v'⟩
end
end Go.Wk
namespace Go.Wk
open Go
/-- Cells that are read, wherever they lie. -/
def Cells (w : World) (A : Option Addr) (l : List Value) : Prop := ∀ j u, l[j]? = some u → ∃ b o, A = some ⟨b, o, none⟩ ∧ w.cell? ⟨b, o + j, none⟩ = some u
theorem Cells.mod {w w' : World} {A : Option Addr} {l : List Value} (h : Cells w A l) (hm : Mod (fun _ => False) w w') : Cells w' A l := fun j u hj => by
  obtain ⟨b, o, e, hc⟩ := h j u hj
  refine ⟨b, o, e, ?_⟩
  have hr : Rep w (fun _ => False) [] w' := ⟨by simp, by simp, by simp, hm⟩
  exact hr.oldCell hc (fun h => h)
theorem row_cells {w : World} {A : Option Addr} {e sz n c : Nat} {xs : List Value} (h : w.ownsRow 0 e sz (.slice A n c) n xs) (hsz : 0 < sz) : Cells w A xs := fun k u hk => by
  have hc := row_cell (u := u) h (q := k) hk
  rcases h.2 with ⟨h1, rfl⟩ | ⟨b, cap, cur, h1, _⟩
  · have := h.1; simp at this; subst this; simp at hk
  · simp only [Value.slice.injEq] at h1
    obtain ⟨rfl, _, _⟩ := h1
    refine ⟨b, 0, rfl, ?_⟩
    simpa [rowB, Value.ownBlock] using hc
section
variable {P : Program} {Γ : Ctx} {E : Env} {H : List Res} {dst : Option Tmp} {g : Option (Nat × Bool)} {ty : TypeId} {pos : String} {after : Array Edge} {x y : Operand} {v : Value}
/-- A part of the memory in which the call began. -/
theorem Val.loadOldPart {t b o n : Nat} {vs : List Value} (hA : ∀ w, (isAgg t).run P w = .ok true w) (hs : ∀ w, (sizeOf t).run P w = .ok n w) (hx : ev E x = some (.pointer (some ⟨b, o, none⟩))) (hl : vs.length = n)
    (hc : ∀ j u, vs[j]? = some u → Γ.w0.cell? ⟨b, o + j, none⟩ = some u) (hS : ¬ Γ.S b) : Val P Γ E H ⟨dst, .load t x, ty, pos, after, g⟩ (.agg vs.toArray) := fun a w ha hw => by
  have hld := run_loadCells_list (P := P) w ⟨b, o, none⟩ vs (fun j u hj => by rw [Addr.add_off]; exact hw.oldCell (hc j u hj) hS)
  rw [hl] at hld
  simp only [execOp, ha.eval hx, Instr.loadAt, Instr.sureAddr, loadVar, Sem.run_bind, Sem.run_pure, Result.andThen_ok, hA, if_true, hs, hld]
end
end Go.Wk
namespace Go.Wk
open Go
section
variable {P : Program} {Γ : Ctx} {E : Env} {H : List Res} {ops : Array Oper} {Q : Exit → Act → World → Prop} {rest : List Oper} {d : Nat} {ty : TypeId} {pos : String} {after : Array Edge} {x y : Operand} {v : Value}
/-- append of a slice that is read, wherever it lies, nil or not. -/
theorem At.appendSl {i t e sz by_ n m c : Nat} {A : Option Addr} {ti : TypeInfo} {z : Value} {xs ys : List Value} (ht : P.underlying t = some (.slice e)) (hti : P.info? e = some ti) (hz : ti.zero = some z) (hsize : ti.size = sz) (hby : ti.bytes = by_) (hzs : z.cells.size = sz) (hsz : Nat.blt 0 sz = true)
    (hx : ev E x = some v) (hy : ev E y = some (.slice A m c)) (hi : H[i]? = some (rowR v e sz n xs)) (hl : ys.length = m * sz) (hA : A = none → m = 0 ∧ c = 0) (hsp : ∀ a, A = some a → a.spot = none)
    (hsrc : ∀ w, Rep Γ.w0 Γ.S H w → Cells w A ys) (h1 : ∀ u ∈ ys, u.oneCell' = true) (h63 : (n + m) * by_ ≤ 140737488355328) (h64 : n + m ≤ 140737488355328) (hn : Nat.blt d Γ.n = true)
    (k : ∀ v', At Γ ((d, v') :: E) (H.set i (rowR v' e sz (n + m) (xs ++ ys))) (wpList P ops Q rest)) :
    At Γ E H (wpList P ops Q ({ dst := some d, op := .call { callee := .builtin .append, args := #[x, y], argTypes := #[t, t] }, type := ty, pos, after, guard := none } :: rest)) := by
  cases A with
  | none =>
    obtain ⟨rfl, rfl⟩ := hA rfl
    have hys : ys = [] := List.eq_nil_of_length_eq_zero (by omega)
    subst hys
    refine At.run rfl rfl hn fun a w ha hw => ?_
    have h : w.ownsRow 0 e sz v n xs := hw.row hi
    have hr := run_append_owned_none (P := P) (w := w) 0 t ty e ti sz ht hti v n xs h
    refine ⟨v, w, _, by simp [execOp, resolve, invoke, builtin, ha.eval hx, ha.eval hy, Sem.run_bind, hr], ?_, k v⟩
    exact Rep.change hi hw (Mod.refl _ _) (by simpa [rowR] using h) (fun b hb => .inl hb)
  | some a =>
    obtain ⟨b, o, s⟩ := a
    have : s = none := hsp _ rfl
    subst this
    exact At.append ht hti hz hsize hby hzs hsz hx hy hi hl (fun w hw j u hj => by
      obtain ⟨b', o', e', hc⟩ := hsrc w hw j u hj
      simp only [Option.some.injEq, Addr.mk.injEq] at e'
      obtain ⟨rfl, rfl, _⟩ := e'
      exact hc) h1 h63 h64 hn k
end
theorem Bytes.cells {w : World} {A : Option Addr} {l : List UInt8} (h : Bytes w A l) : Cells w A (l.map bv) := fun j u hj => by
  rw [List.getElem?_map] at hj
  cases hq : l[j]? with
  | none => rw [hq] at hj; cases hj
  | some q =>
    rw [hq] at hj
    obtain ⟨b, o, e, hc⟩ := h j q hq
    exact ⟨b, o, e, by rw [hc]; exact hj⟩
end Go.Wk
