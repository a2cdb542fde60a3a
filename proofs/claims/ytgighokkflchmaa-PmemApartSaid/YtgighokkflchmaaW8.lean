/- The calculus: a pair is laid into a row. -/
import Derived.Test.YtgighokkflchmaaWv
set_option linter.unusedVariables false
set_option linter.unusedSimpArgs false
namespace Go.Wk
open Go
section
variable {P : Program} {Γ : Ctx} {E E' : Env} {H : List Res} {ops : Array Oper} {Q : Exit → Act → World → Prop} {rest : List Oper}
  {d : Nat} {ty : TypeId} {pos : String} {after : Array Edge} {x y : Operand} {v : Value}
theorem prC_drop (l : List (Int × BitVec 64)) (k : Nat) (hk : k ≤ l.length) : (prC l).drop (k * 2) = prC (l.drop k) := by
  have h : prC l = prC (l.take k) ++ prC (l.drop k) := by rw [← prC_append, List.take_append_drop]
  have hl : (prC (l.take k)).length = k * 2 := by rw [prC_length, List.length_take, Nat.min_eq_left hk]
  rw [h, ← hl, List.drop_left]
theorem prC_set (l : List (Int × BitVec 64)) (k : Nat) (a : Int) (b : BitVec 64) (hk : k < l.length) : putAt (prC l) (k * 2) [.int .i64 a, b64 b] = prC (l.set k (a, b)) := by
  rw [List.set_eq_take_append_cons_drop, if_pos hk, prC_append, prC_take]
  unfold putAt
  rw [List.append_assoc]
  congr 1
  rw [show k * 2 + [Value.int .i64 a, b64 b].length = (k + 1) * 2 by simp; omega, prC_drop _ _ (by omega)]
  rfl
theorem At.storePairRow {i t e k : Nat} {a : Int} {b : BitVec 64} {l : List (Int × BitVec 64)} (hs : ∀ w, (sizeOf t).run P w = .ok 2 w) (hx : ev E x = some (.pointer (some ⟨rowB v, k * 2, none⟩))) (hy : ev E y = some (.agg #[.int .i64 a, b64 b])) (hi : H[i]? = some (rowR v e 2 l.length (prC l))) (hk : k < l.length)
    (kk : At Γ E (H.set i (prow e v (l.set k (a, b)))) (wpList P ops Q rest)) : At Γ E H (wpList P ops Q ({ dst := .none, op := .store t x y, type := ty, pos, after, guard := none } :: rest)) :=
  At.skip rfl rfl fun a' w ha hw => by
    obtain ⟨w', hr, hw'⟩ := storeCells_row (P := P) [.int .i64 a, b64 b] (k * 2) 0 (prC l) H w hw hi (by rw [prC_length]; simp; omega) (by simp [Value.oneCell', b64])
    rw [Nat.add_zero, prC_set l k a b hk] at hw'
    refine ⟨w', _, ?_, hw', ?_⟩
    · simp [execOp, ha.eval hx, ha.eval hy, Sem.run_bind, Instr.storeAt, Instr.sureAddr, storeVar, hs, Value.cells, hr]
    · have := kk
      unfold prow at this
      rwa [List.length_set] at this
theorem u8_wrap (x : Int) : Value.int .u8 (IntKind.u8.wrap x) = bv (UInt8.ofNat (IntKind.u8.wrap x).toNat) := by
  have h : 0 ≤ IntKind.u8.wrap x ∧ IntKind.u8.wrap x < 256 := by
    have h1 := Int.emod_nonneg x (by decide : (256 : Int) ≠ 0)
    have h2 := Int.emod_lt_of_pos x (by decide : (0 : Int) < 256)
    have e : IntKind.u8.wrap x = x % 256 := by
      unfold IntKind.wrap
      show (let m := x % (2 ^ 8 : Int); if (IntKind.u8.signed && decide (m ≥ (2 ^ (8 - 1) : Int))) = true then m - (2 ^ 8 : Int) else m) = _
      simp [IntKind.signed]
    rw [e]; exact ⟨h1, h2⟩
  show _ = Value.int .u8 ((UInt8.ofNat (IntKind.u8.wrap x).toNat).toNat : Int)
  rw [UInt8.toNat_ofNat', Nat.mod_eq_of_lt (by omega)]
  congr 1; omega
end
end Go.Wk
