/- The sum of bytes, bit by bit; sealed words and what spoils them. No program in sight. -/
import Derived.Test.YtoiebgnmknbkjaaDoorPk
set_option linter.unusedVariables false
set_option linter.unusedSimpArgs false
namespace Go.Wk
open Go
theorem crcB_from (r : BitVec 32) (bs : List Bool) : crcB r bs = bitN bs.length r ^^^ crcB 0 bs := by
  have h := crcB_xor (List.replicate bs.length false) bs r 0 (by simp)
  rw [crcB_zeros] at h
  rw [← h]
  have e1 : r ^^^ (0 : BitVec 32) = r := by simp
  have e2 : List.zipWith Bool.xor (List.replicate bs.length false) bs = bs := by
    induction bs with
    | nil => rfl
    | cons b bs ih => rw [List.length_cons, List.replicate_succ, List.zipWith_cons_cons, Bool.false_xor, ih (by
        have := crcB_xor (List.replicate bs.length false) bs r 0 (by simp)
        rw [crcB_zeros] at this; exact this)]
  rw [e1, e2]
theorem mask_low {F : BitVec 32} {n : Nat} (h : F.toNat < 2 ^ n) (hn : n ≤ 32) : (F >>> 0) &&& BitVec.ofNat 32 (2 ^ n - 1) = F := by
  apply BitVec.eq_of_getLsbD_eq
  intro i hi
  rw [BitVec.getLsbD_and, BitVec.getLsbD_ofNat, Nat.testBit_two_pow_sub_one]
  by_cases hin : i < n
  · simp [hi, hin]
  · have : F.getLsbD i = false := by
      rw [BitVec.getLsbD]
      exact Nat.testBit_lt_two_pow (Nat.lt_of_lt_of_le h (Nat.pow_le_pow_right (by decide) (by omega)))
    simp [hin, this]
theorem crcB_num {n : Nat} (hn : n ≤ 32) {v : Nat} (hv : v < 2 ^ n) (r : BitVec 32) : crcB r ((List.range n).map v.testBit) = bitN n (r ^^^ BitVec.ofNat 32 v) := by
  have hv32 : v < 2 ^ 32 := Nat.lt_of_lt_of_le hv (Nat.pow_le_pow_right (by decide) hn)
  have hF : (BitVec.ofNat 32 v).toNat = v := by rw [BitVec.toNat_ofNat, Nat.mod_eq_of_lt hv32]
  have e : (List.range n).map v.testBit = (List.range n).map fun i => (BitVec.ofNat 32 v).getLsbD (0 + i) := by
    apply List.map_congr_left
    intro i hi
    rw [Nat.zero_add, BitVec.getLsbD, hF]
  rw [crcB_from, bitN_xor, e, crcB_bits _ n 0 (by omega), mask_low (by rw [hF]; exact hv) hn]
  simp
theorem crc_bits (r : BitVec 32) (l : List UInt8) : crc r l = crcB r (toBits l) := by
  induction l generalizing r with
  | nil => rfl
  | cons c l ih =>
    have e : toBits (c :: l) = byteBits c ++ toBits l := by simp [toBits]
    rw [e, crcB_append, show crcB r (byteBits c) = crcByte r c from by
      rw [← crcByte_bits]; exact crcB_num (by decide) (by have := c.toNat_lt; omega) r, ← ih]
    rfl
theorem toBits_le : ∀ (n v : Nat), toBits (le n v) = (List.range (8 * n)).map v.testBit
  | 0, v => rfl
  | n + 1, v => by
    have e : toBits (le (n + 1) v) = byteBits (UInt8.ofNat v) ++ toBits (le n (v / 256)) := by simp [toBits, le]
    rw [e, toBits_le n (v / 256), show 8 * (n + 1) = 8 + 8 * n by omega, List.range_add, List.map_append, List.map_map]
    congr 1
    · apply List.map_congr_left
      intro i hi
      have hi8 : i < 8 := List.mem_range.1 hi
      rw [UInt8.toNat_ofNat', show 2 ^ 8 = 2 ^ 8 from rfl, Nat.testBit_mod_two_pow]
      simp [hi8]
    · apply List.map_congr_left
      intro i hi
      show (v / 256).testBit i = v.testBit (8 + i)
      rw [show 256 = 2 ^ 8 from rfl, Nat.testBit_div_two_pow, Nat.add_comm]
/-- A burst of up to 32 bits anywhere in a row of bytes changes their sum. -/
theorem burst_crc {n V F a : Nat} (hF : F ≠ 0) (h32 : F < 2 ^ 32) (ha : a + 32 ≤ 8 * n) (r : BitVec 32) : crc r (le n V) ≠ crc r (le n (V ^^^ (F <<< a))) := by
  have hF' : (BitVec.ofNat 32 F).toNat = F := by rw [BitVec.toNat_ofNat, Nat.mod_eq_of_lt h32]
  have e : (List.range (8 * n)).map (V ^^^ (F <<< a)).testBit = List.zipWith Bool.xor ((List.range (8 * n)).map V.testBit) (burst a (BitVec.ofNat 32 F) (a + 32 + (8 * n - (a + 32)))) := by
    rw [show a + 32 + (8 * n - (a + 32)) = 8 * n by omega]
    unfold burst
    rw [List.zipWith_map, List.zipWith_self]
    apply List.map_congr_left
    intro p hp
    rw [Nat.testBit_xor, Nat.testBit_shiftLeft, BitVec.getLsbD, hF']
    congr 1
    by_cases h1 : a ≤ p
    · by_cases h2 : p < a + 32
      · simp [h1, h2]
      · have : F.testBit (p - a) = false := Nat.testBit_lt_two_pow (Nat.lt_of_lt_of_le h32 (Nat.pow_le_pow_right (by decide) (by omega)))
        simp [this]
    · simp [h1]
  intro h
  rw [crc_bits, crc_bits, toBits_le, toBits_le, e] at h
  have hx := crcB_xor ((List.range (8 * n)).map V.testBit) (burst a (BitVec.ofNat 32 F) (a + 32 + (8 * n - (a + 32)))) r 0 (by simp [burst]; omega)
  rw [show r ^^^ (0 : BitVec 32) = r from by simp] at hx
  rw [hx] at h
  have hne := burst_tells (a := a) (b := 8 * n - (a + 32)) (F := BitVec.ofNat 32 F) (fun e0 => hF (by rw [← hF', e0]; rfl))
  apply hne
  have := congrArg (fun z => crcB r ((List.range (8 * n)).map V.testBit) ^^^ z) h
  simp only [← BitVec.xor_assoc, BitVec.xor_self, BitVec.zero_xor] at this
  exact this.symm
theorem le_append : ∀ (n m u v : Nat), u < 256 ^ n → le n u ++ le m v = le (n + m) (u + 256 ^ n * v)
  | 0, m, u, v, h => by
    have : u = 0 := by simpa using h
    subst this; simp [le]
  | n + 1, m, u, v, h => by
    rw [show n + 1 + m = (n + m) + 1 by omega]
    simp only [le, List.cons_append]
    have h1 : u / 256 < 256 ^ n := by rw [Nat.pow_succ] at h; exact Nat.div_lt_of_lt_mul (by rw [Nat.mul_comm]; exact h)
    rw [le_append n m (u / 256) v h1]
    have e : u + 256 ^ (n + 1) * v = u + 256 * (256 ^ n * v) := by rw [Nat.pow_succ, Nat.mul_comm (256 ^ n) 256, Nat.mul_assoc]
    rw [e]
    congr 1
    · rw [← ofNat_mod (u + 256 * (256 ^ n * v)), ← ofNat_mod u]; congr 1; omega
    · congr 1; omega
end Go.Wk
