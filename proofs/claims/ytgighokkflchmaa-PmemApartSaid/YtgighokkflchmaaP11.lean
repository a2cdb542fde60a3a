/- Stores and flushes in a row. -/
import Derived.Test.YtgighokkflchmaaP6
set_option linter.unusedVariables false
set_option linter.unusedSimpArgs false
namespace Go.Proofs.Ytgighokkflchmaa
open Go Go.Wk

/-- The flush of a line; the lines from l on, rising, until the device dies. -/
def lineD (σ : Ds) (l : Nat) : Ds := flushK (stepD σ) (8 * l) 8
def linesE : Nat → Ds → Nat → Int × Ds
  | _, σ, 0 => (0, σ)
  | l, σ, k + 1 => if deadB σ = true then (13, σ) else linesE (l + 1) (lineD σ l) k
theorem linesE_dead {l k : Nat} {σ : Ds} (h : deadB σ = true) : linesE l σ (k + 1) = (13, σ) := by unfold linesE; rw [if_pos h]
theorem linesE_live {l k : Nat} {σ : Ds} (h : deadB σ = false) : linesE l σ (k + 1) = linesE (l + 1) (lineD σ l) k := by
  show (if deadB σ = true then (13, σ) else linesE (l + 1) (lineD σ l) k) = _
  rw [if_neg (by rw [h]; simp)]
theorem lineD_rest (σ : Ds) (l : Nat) : (lineD σ l).steps = σ.steps + 1 ∧ (lineD σ l).armed = σ.armed ∧ (lineD σ l).ws.length = σ.ws.length := by
  obtain ⟨h1, h2, _, h4, _⟩ := flushK_rest (stepD σ) (8 * l) 8
  exact ⟨h1, h2, h4⟩
/-- A store; the stores from the word k on, rising, until the device dies. -/
def storeD (σ : Ds) (k : Nat) (x : BitVec 64) : Ds := match σ.ws[k]? with | some w => setD (stepD σ) k (pushW w x) | none => σ
def storesE : Nat → Ds → List (BitVec 64) → Int × Ds
  | _, σ, [] => (0, σ)
  | k, σ, x :: l => if deadB σ = true then (13, σ) else storesE (k + 1) (storeD σ k x) l
theorem storesE_dead {k : Nat} {σ : Ds} {x : BitVec 64} {l : List (BitVec 64)} (h : deadB σ = true) : storesE k σ (x :: l) = (13, σ) := by unfold storesE; rw [if_pos h]
theorem storesE_live {k : Nat} {σ : Ds} {x : BitVec 64} {l : List (BitVec 64)} (h : deadB σ = false) : storesE k σ (x :: l) = storesE (k + 1) (storeD σ k x) l := by
  show (if deadB σ = true then (13, σ) else storesE (k + 1) (storeD σ k x) l) = _
  rw [if_neg (by rw [h]; simp)]
theorem storeD_some {σ : Ds} {k : Nat} {x : BitVec 64} {w : Wd} (h : σ.ws[k]? = some w) : storeD σ k x = setD (stepD σ) k (pushW w x) := by unfold storeD; rw [h]
theorem storeD_rest {σ : Ds} {k : Nat} (x : BitVec 64) (h : k < σ.ws.length) : (storeD σ k x).steps = σ.steps + 1 ∧ (storeD σ k x).armed = σ.armed ∧ (storeD σ k x).ws.length = σ.ws.length := by
  rw [storeD_some (List.getElem?_eq_getElem h)]
  exact ⟨rfl, rfl, by simp [setD, stepD]⟩
def cntP (a n cnt : Nat) : Prop := (n = 0 → cnt = 0) ∧ (0 < n → cnt = (a + n - 1) / 64 + 1 - a / 64)
def cntL (a n : Nat) : Nat := if n = 0 then 0 else (a + n - 1) / 64 + 1 - a / 64
theorem cntL_P (a n : Nat) : cntP a n (cntL a n) := ⟨fun h => by unfold cntL; rw [if_pos h], fun h => by unfold cntL; rw [if_neg (by omega)]⟩
theorem drop_cons {l : List (BitVec 64)} {j : Nat} {x : BitVec 64} (h : l[j]? = some x) : l.drop j = x :: l.drop (j + 1) := by
  have hj := List.getElem?_eq_some_iff.1 h
  rw [List.drop_eq_getElem_cons hj.1, hj.2]


theorem place_at' {σ : Ds} {a : Int} (h0 : 0 ≤ a) (h1 : a < 8 * (σ.ws.length : Int)) (h8 : a % 8 = 0) : placeE σ a = 0 := by
  obtain ⟨k, rfl⟩ : ∃ k : Nat, a = 8 * (k : Int) := ⟨(a / 8).toNat, by omega⟩
  exact place_at (by omega)


theorem At.idxO {P : Program} {Γ : Ctx} {E : Env} {H : List Res} {ops : Array Oper} {Q : Exit → Act → World → Prop} {rest : List Oper} {d : Nat} {ty : TypeId} {pos : String} {after : Array Edge} {x y : Operand} {v : Value} {t el j : Nat} {l : List (BitVec 64)} {k : IntKind} {z : BitVec 64} {g : Option (Nat × Bool)} (h : RdW Γ.w0 v l) (ho : Off v (l.map b64) Γ.S) (hu : P.underlying t = some (.slice el)) (hs : ∀ w, (sizeOf el).run P w = .ok 1 w) (hx : ev E x = some v) (hy : ev E y = some (.int k (j : Int))) (hz : l[j]? = some z)
    (hg : g = none) (hn : Nat.blt d Γ.n = true)
    (c : ∀ b o, Γ.w0.cell? ⟨b, o, none⟩ = some (b64 z) → ¬ Γ.S b → At Γ ((d, .pointer (some ⟨b, o, none⟩)) :: E) H (wpList P ops Q rest)) :
    At Γ E H (wpList P ops Q ({ dst := some d, op := .indexAddr t x y, type := ty, pos, after, guard := g } :: rest)) := by
  have hj := (List.getElem?_eq_some_iff.1 hz).1
  obtain ⟨b, o, cap, rfl, hc⟩ := h.at (j := j) hj
  exact At.val (Val.indexSl _ rfl hu hs hx hy (by omega) (by omega)) hg rfl hn (c b _ (by have := hc 0 (b64 z) (by rw [Nat.mul_one, Nat.add_zero, List.getElem?_map, hz]; rfl); rwa [Nat.add_zero] at this) (ho (fun e => by rw [List.map_eq_nil_iff] at e; rw [e] at hz; cases hz) b _ _ _ _ rfl))

end Go.Proofs.Ytgighokkflchmaa
