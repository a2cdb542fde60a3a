/- The document's sum, bit by bit, is the table's; numbers out of bytes. No program in sight. -/
import Derived.Test.YtoiebgnmknbkjaaDoorPd
set_option linter.unusedVariables false
set_option linter.unusedSimpArgs false
namespace Go.Wk
open Go
abbrev brow (e : Nat) (v : Value) (l : List UInt8) : Res := rowR v e 1 l.length (l.map bv)
theorem brow_snoc (e : Nat) (v : Value) (l : List UInt8) (c : UInt8) : rowR v e 1 (l.length + 1) (l.map bv ++ [bv c]) = brow e v (l ++ [c]) := by simp [brow]
def poly : BitVec 32 := 0xEDB88320
def bit (r : BitVec 32) : BitVec 32 := if (r &&& 1) = 1 then (r >>> 1) ^^^ poly else r >>> 1
def bitN : Nat → BitVec 32 → BitVec 32
  | 0, r => r
  | k + 1, r => bit (bitN k r)
theorem and_one (r : BitVec 32) : (r &&& 1) = if r.getLsbD 0 then 1 else 0 := by
  apply BitVec.eq_of_toNat_eq
  have h1 : (r &&& 1).toNat = r.toNat % 2 := by rw [BitVec.toNat_and]; exact Nat.and_one_is_mod _
  have h2 : r.getLsbD 0 = decide (r.toNat % 2 = 1) := by rw [BitVec.getLsbD, Nat.testBit_zero]
  rw [h1, h2]
  by_cases h : r.toNat % 2 = 1
  · simp [h]
  · have : r.toNat % 2 = 0 := by omega
    simp [this]
theorem bit_eq (r : BitVec 32) : bit r = (r >>> 1) ^^^ (if r.getLsbD 0 then poly else 0) := by
  unfold bit
  rw [and_one]
  cases r.getLsbD 0 <;> simp
theorem bit_xor (x y : BitVec 32) : bit (x ^^^ y) = bit x ^^^ bit y := by
  rw [bit_eq, bit_eq, bit_eq, BitVec.ushiftRight_xor_distrib, BitVec.getLsbD_xor]
  cases x.getLsbD 0 <;> cases y.getLsbD 0 <;> simp [BitVec.xor_assoc]
  · rw [BitVec.xor_comm]
  · rw [← BitVec.xor_assoc poly, BitVec.xor_comm poly (y >>> 1), BitVec.xor_assoc, BitVec.xor_self, BitVec.xor_zero]
theorem bitN_xor (k : Nat) (x y : BitVec 32) : bitN k (x ^^^ y) = bitN k x ^^^ bitN k y := by
  induction k with
  | zero => rfl
  | succ k ih => simp only [bitN, ih, bit_xor]
theorem bit_even (q : BitVec 32) (k : Nat) (hq : q.toNat < 2 ^ 28) (hk : k < 4) : bit (q <<< (k + 1)) = q <<< k := by
  have hp : (2 : Nat) ^ k ≤ 8 := by
    have : k = 0 ∨ k = 1 ∨ k = 2 ∨ k = 3 := by omega
    rcases this with h | h | h | h <;> subst h <;> decide
  have hlt : q.toNat * 2 ^ (k + 1) < 2 ^ 32 := by
    rw [Nat.pow_succ]
    have : q.toNat * (2 ^ k * 2) ≤ q.toNat * 16 := Nat.mul_le_mul_left _ (by omega)
    omega
  have hlt' : q.toNat * 2 ^ k < 2 ^ 32 := by
    have : q.toNat * 2 ^ k ≤ q.toNat * 8 := Nat.mul_le_mul_left _ hp
    omega
  have e1 : (q <<< (k + 1)).toNat = q.toNat * 2 ^ (k + 1) := by rw [BitVec.toNat_shiftLeft, Nat.shiftLeft_eq, Nat.mod_eq_of_lt hlt]
  have h0 : (q <<< (k + 1)).getLsbD 0 = false := by simp
  rw [bit_eq, h0]
  simp only [Bool.false_eq_true, if_false]
  rw [show ∀ x : BitVec 32, x ^^^ 0 = x from fun x => BitVec.xor_zero]
  apply BitVec.eq_of_toNat_eq
  rw [BitVec.toNat_ushiftRight, e1, BitVec.toNat_shiftLeft, Nat.shiftLeft_eq, Nat.mod_eq_of_lt hlt', Nat.shiftRight_eq_div_pow, Nat.pow_succ, ← Nat.mul_assoc]
  simp
theorem bitN_shl (q : BitVec 32) (hq : q.toNat < 2 ^ 28) : bitN 4 (q <<< 4) = q := by
  show bit (bit (bit (bit (q <<< 4)))) = q
  rw [bit_even q 3 hq (by decide), bit_even q 2 hq (by decide), bit_even q 1 hq (by decide), bit_even q 0 hq (by decide)]
  simp
theorem tab_bits : ∀ i, i < 16 → bitN 4 (BitVec.ofNat 32 i) = tabv i := by decide
theorem split4 (r : BitVec 32) : r = ((r >>> 4) <<< 4) ^^^ (r &&& 15) := by
  apply BitVec.eq_of_getLsbD_eq
  intro i hi
  rw [BitVec.getLsbD_xor, BitVec.getLsbD_and, BitVec.getLsbD_shiftLeft, BitVec.getLsbD_ushiftRight]
  have h15 : (15 : BitVec 32).getLsbD i = decide (i < 4) := by
    have : ∀ j, j < 32 → (15 : BitVec 32).getLsbD j = decide (j < 4) := by decide
    exact this i hi
  rw [h15]
  by_cases h : i < 4
  · simp [h]
  · simp [h, hi, show 4 + (i - 4) = i by omega]
theorem bitN_four (r : BitVec 32) : bitN 4 r = step4 r := by
  have hq : (r >>> 4).toNat < 2 ^ 28 := by
    rw [BitVec.toNat_ushiftRight, Nat.shiftRight_eq_div_pow]
    have := r.isLt
    omega
  have hl := and15_lt r
  have e : r &&& 15 = BitVec.ofNat 32 (r &&& 15).toNat := by simp
  calc bitN 4 r = bitN 4 (((r >>> 4) <<< 4) ^^^ (r &&& 15)) := by rw [← split4]
    _ = bitN 4 ((r >>> 4) <<< 4) ^^^ bitN 4 (r &&& 15) := bitN_xor 4 _ _
    _ = (r >>> 4) ^^^ tabv (r &&& 15).toNat := by rw [bitN_shl _ hq, e, tab_bits _ hl, ← e]
    _ = step4 r := by rw [BitVec.xor_comm]; rfl
theorem bitN_eight (r : BitVec 32) : bitN 8 r = step4 (step4 r) := by
  show bitN 4 (bitN 4 r) = _
  rw [bitN_four, bitN_four]
theorem crcByte_bits (r : BitVec 32) (c : UInt8) : bitN 8 (r ^^^ BitVec.ofNat 32 c.toNat) = crcByte r c := bitN_eight _
/-! ### numbers out of bytes -/
def fromLe : List UInt8 → Nat
  | [] => 0
  | c :: l => c.toNat + 256 * fromLe l
theorem fromLe_lt : ∀ l, fromLe l < 256 ^ l.length
  | [] => by simp [fromLe]
  | c :: l => by
    have := fromLe_lt l
    have hc := c.toNat_lt
    simp only [fromLe, List.length_cons, Nat.pow_succ]
    omega
theorem fromLe_le : ∀ n v, v < 256 ^ n → fromLe (le n v) = v
  | 0, v, h => by simp at h; simp [le, fromLe, h]
  | n + 1, v, h => by
    simp only [le, fromLe]
    rw [fromLe_le n (v / 256) (by rw [Nat.pow_succ] at h; exact Nat.div_lt_of_lt_mul (by rw [Nat.mul_comm]; exact h)), UInt8.toNat_ofNat']
    have := Nat.div_add_mod v 256
    simp
    omega
theorem le_fromLe : ∀ l, le l.length (fromLe l) = l
  | [] => rfl
  | c :: l => by
    simp only [fromLe, List.length_cons, le]
    have hc := c.toNat_lt
    rw [show (c.toNat + 256 * fromLe l) / 256 = fromLe l by omega, le_fromLe l]
    congr 1
    apply UInt8.toNat_inj.1
    rw [UInt8.toNat_ofNat']
    omega
theorem fromLe_drop {l : List UInt8} {k : Nat} {c : UInt8} (h : l[k]? = some c) : fromLe (l.drop k) = fromLe (l.drop (k + 1)) * 256 + c.toNat := by
  obtain ⟨hk, rfl⟩ := List.getElem?_eq_some_iff.1 h
  rw [List.drop_eq_getElem_cons hk, fromLe]
  omega
end Go.Wk
