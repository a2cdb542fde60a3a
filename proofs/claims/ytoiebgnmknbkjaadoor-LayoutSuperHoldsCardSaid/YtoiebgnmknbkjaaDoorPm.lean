/- Sealed words: what spoils them is told. No program in sight. -/
import Derived.Test.YtoiebgnmknbkjaaDoorPl
set_option linter.unusedVariables false
set_option linter.unusedSimpArgs false
namespace Go.Wk
open Go
theorem seal_low (a : BitVec 64) (v : BitVec 32) : (sealW a v).setWidth 32 = v := by
  by_cases h : v = 0
  · rw [seal_zero h, h]; rfl
  · apply BitVec.eq_of_toNat_eq
    rw [BitVec.toNat_setWidth, seal_nat h]
    have := v.isLt
    omega
theorem seal_some_ne {a : BitVec 64} {v : BitVec 32} (h : v ≠ 0) : sealW a v ≠ 0 := fun e => h (by rw [← seal_low a v, e]; rfl)
theorem seal_iff {a w : BitVec 64} (hv : w.setWidth 32 ≠ 0) : sealW a (w.setWidth 32) = w ↔ crc (~~~0) (le 16 (a.toNat + 2 ^ 64 * w.toNat)) = bitN 32 (~~~0) := by
  have hvn : (w.setWidth 32).toNat = w.toNat % 2 ^ 32 := BitVec.toNat_setWidth ..
  have hw := w.isLt
  have e8 : le 8 w.toNat = le 4 (w.setWidth 32).toNat ++ le 4 (w.toNat / 2 ^ 32) := by
    rw [le_append 4 4 _ _ (by rw [hvn]; omega), hvn]; congr 1; omega
  have e16 : le 16 (a.toNat + 2 ^ 64 * w.toNat) = (le 8 a.toNat ++ le 4 (w.setWidth 32).toNat) ++ le 4 (w.toNat / 2 ^ 32) := by
    rw [List.append_assoc, ← e8, le_append 8 8 _ _ (by have := a.isLt; omega)]
  have hc : w.toNat / 2 ^ 32 < 2 ^ 32 := by omega
  rw [e16, crc_append, crc_bits _ (le 4 _), toBits_le, show 8 * 4 = 32 from rfl, crcB_num (by decide) hc]
  have hs : checkW a (w.setWidth 32) = ~~~ crc (~~~0) (le 8 a.toNat ++ le 4 (w.setWidth 32).toNat) := rfl
  generalize crc (~~~0) (le 8 a.toNat ++ le 4 (w.setWidth 32).toNat) = s at *
  constructor
  · intro h
    have hn := congrArg BitVec.toNat h
    rw [seal_nat hv] at hn
    have h1 : (checkW a (w.setWidth 32)).toNat = w.toNat / 2 ^ 32 := by have := (w.setWidth 32).isLt; omega
    have h2 : BitVec.ofNat 32 (w.toNat / 2 ^ 32) = ~~~ s := by rw [← hs, ← h1]; simp
    rw [h2]
    congr 1
    rw [← BitVec.xor_allOnes, ← BitVec.xor_assoc, BitVec.xor_self, BitVec.zero_xor]; rfl
  · intro h
    have h1 := bitN_inj 32 h
    have h2 : BitVec.ofNat 32 (w.toNat / 2 ^ 32) = ~~~ s := by
      have := congrArg (fun z => s ^^^ z) h1
      simp only [← BitVec.xor_assoc, BitVec.xor_self, BitVec.zero_xor] at this
      rw [this, show (~~~0 : BitVec 32) = BitVec.allOnes 32 from rfl, BitVec.xor_allOnes]
    apply BitVec.eq_of_toNat_eq
    rw [seal_nat hv, hs, ← h2, BitVec.toNat_ofNat, Nat.mod_eq_of_lt hc, hvn]
    omega
theorem add_xor_high {a x y : Nat} (k : Nat) (h : a < 2 ^ k) : (a + 2 ^ k * x) ^^^ (y <<< k) = a + 2 ^ k * (x ^^^ y) := by
  apply Nat.eq_of_testBit_eq
  intro i
  rw [Nat.testBit_xor, Nat.testBit_shiftLeft, Nat.add_comm a, Nat.add_comm a, Nat.testBit_two_pow_mul_add _ h, Nat.testBit_two_pow_mul_add _ h]
  by_cases hi : i < k
  · simp [hi, show ¬ i ≥ k by omega]
  · simp [hi, show i ≥ k by omega]
theorem add_xor_low {a b x : Nat} (k : Nat) (h : a < 2 ^ k) (hb : b < 2 ^ k) : (a + 2 ^ k * x) ^^^ b = (a ^^^ b) + 2 ^ k * x := by
  apply Nat.eq_of_testBit_eq
  intro i
  rw [Nat.testBit_xor, Nat.add_comm a, Nat.add_comm (a ^^^ b), Nat.testBit_two_pow_mul_add _ h, Nat.testBit_two_pow_mul_add _ (Nat.xor_lt_two_pow h hb)]
  by_cases hi : i < k
  · simp [hi]
  · have : b.testBit i = false := Nat.testBit_lt_two_pow (Nat.lt_of_lt_of_le hb (Nat.pow_le_pow_right (by decide) (by omega)))
    simp [hi, this]
theorem low_ne {a w : BitVec 64} (hw : sealW a (w.setWidth 32) = w) (h0 : w ≠ 0) : w.setWidth 32 ≠ 0 := fun e => h0 (by rw [← hw, e, seal_zero rfl])
/-- A word with a run of up to 32 bits turned holds nothing, unless it is all zero. -/
theorem word_told {a w w' : BitVec 64} {F sh : Nat} (hw : sealW a (w.setWidth 32) = w) (h0 : w ≠ 0) (h0' : w' ≠ 0) (hF : F ≠ 0) (h32 : F < 2 ^ 32) (hsh : sh ≤ 32) (hx : w'.toNat = w.toNat ^^^ (F <<< sh)) : sealW a (w'.setWidth 32) ≠ w' := by
  intro h
  by_cases hv : w'.setWidth 32 = 0
  · rw [hv, seal_zero rfl] at h; exact h0' h.symm
  · have h1 := (seal_iff (low_ne hw h0)).1 hw
    have h2 := (seal_iff hv).1 h
    have hb := burst_crc (n := 16) (V := a.toNat + 2 ^ 64 * w.toNat) (F := F) (a := 64 + sh) hF h32 (by omega) (~~~0)
    rw [Nat.add_comm 64 sh, Nat.shiftLeft_add, add_xor_high 64 a.isLt, ← hx] at hb
    exact hb (h1.trans h2.symm)
/-- A word holds nothing at another address near. -/
theorem place_told {a a' w : BitVec 64} (hw : sealW a (w.setWidth 32) = w) (h0 : w ≠ 0) (hne : a ≠ a') (ha : a.toNat < 2 ^ 32) (ha' : a'.toNat < 2 ^ 32) : sealW a' (w.setWidth 32) ≠ w := by
  intro h
  have hv := low_ne hw h0
  have h1 := (seal_iff hv).1 hw
  have h2 := (seal_iff hv).1 h
  have hx : a.toNat ^^^ a'.toNat < 2 ^ 32 := Nat.xor_lt_two_pow ha ha'
  have hb := burst_crc (n := 16) (V := a.toNat + 2 ^ 64 * w.toNat) (F := a.toNat ^^^ a'.toNat) (a := 0) (fun e => hne (BitVec.eq_of_toNat_eq (by
    have : a.toNat ^^^ (a.toNat ^^^ a'.toNat) = a.toNat ^^^ 0 := by rw [e]
    rw [← Nat.xor_assoc, Nat.xor_self, Nat.zero_xor, Nat.xor_zero] at this
    exact this.symm))) hx (by omega) (~~~0)
  rw [Nat.shiftLeft_zero, add_xor_low 64 a.isLt (by omega), ← Nat.xor_assoc, Nat.xor_self, Nat.zero_xor] at hb
  exact hb (h1.trans h2.symm)
end Go.Wk
