/- A run of bits turned within a part. No program in sight. -/
import Derived.Test.YtoiebgnmknbkjaaDoorPa
set_option linter.unusedVariables false
set_option linter.unusedSimpArgs false
namespace Go.Wk
open Go
theorem xor_hi {k x v w : Nat} (hx : x < 2 ^ k) : (2 ^ k * v + x) ^^^ (2 ^ k * w) = 2 ^ k * (v ^^^ w) + x := by
  apply Nat.eq_of_testBit_eq
  intro j
  have hw : 2 ^ k * w = 2 ^ k * w + 0 := rfl
  rw [Nat.testBit_xor, Nat.testBit_two_pow_mul_add _ hx, hw, Nat.testBit_two_pow_mul_add _ (Nat.two_pow_pos k), Nat.testBit_two_pow_mul_add _ hx]
  split <;> simp [Nat.testBit_xor]
theorem xor_lo {k u v w : Nat} (hu : u < 2 ^ k) (hw : w < 2 ^ k) : (2 ^ k * v + u) ^^^ w = 2 ^ k * v + (u ^^^ w) := by
  apply Nat.eq_of_testBit_eq
  intro j
  rw [Nat.testBit_xor, Nat.testBit_two_pow_mul_add _ hu, Nat.testBit_two_pow_mul_add _ (Nat.xor_lt_two_pow hu hw)]
  split
  · rw [Nat.testBit_xor]
  · rw [Nat.testBit_lt_two_pow (Nat.lt_of_lt_of_le hw (Nat.pow_le_pow_right (by decide) (by omega))), Bool.xor_false]
theorem spoil_parts {h s t : List UInt8} {a F : Nat} (h0 : 8 * h.length ≤ a) (h1 : a + 32 ≤ 8 * (h.length + s.length)) (hF : F < 2 ^ 32) : spoilL (h ++ s ++ t) a F = h ++ spoilL s (a - 8 * h.length) F ++ t := by
  have e256 : ∀ n : Nat, 256 ^ n = 2 ^ (8 * n) := fun n => (pow_256 n).symm
  have hx := fromLe_lt h
  have hy := fromLe_lt s
  have hz := fromLe_lt t
  unfold spoilL
  rw [fromLe_append, fromLe_append, List.length_append, List.length_append]
  generalize hX : fromLe h = x at *
  generalize fromLe s = y at *
  generalize hZ : fromLe t = z at *
  have hW : F <<< (a - 8 * h.length) < 2 ^ (8 * s.length) := by
    rw [Nat.shiftLeft_eq]
    calc F * 2 ^ (a - 8 * h.length) < 2 ^ 32 * 2 ^ (a - 8 * h.length) := Nat.mul_lt_mul_of_pos_right hF (Nat.two_pow_pos _)
      _ = 2 ^ (32 + (a - 8 * h.length)) := (Nat.pow_add ..).symm
      _ ≤ 2 ^ (8 * s.length) := Nat.pow_le_pow_right (by decide) (by omega)
  have eF : F <<< a = 2 ^ (8 * h.length) * (F <<< (a - 8 * h.length)) := by
    rw [Nat.shiftLeft_eq, Nat.shiftLeft_eq, Nat.mul_left_comm, ← Nat.pow_add, show 8 * h.length + (a - 8 * h.length) = a by omega]
  have e1 : (x + 256 ^ h.length * y + 256 ^ (h.length + s.length) * z) ^^^ (F <<< a) = x + 256 ^ h.length * ((y ^^^ F <<< (a - 8 * h.length)) + 256 ^ s.length * z) := by
    rw [eF, e256, e256, e256, show 8 * (h.length + s.length) = 8 * h.length + 8 * s.length by omega, Nat.pow_add]
    rw [show x + 2 ^ (8 * h.length) * y + 2 ^ (8 * h.length) * 2 ^ (8 * s.length) * z = 2 ^ (8 * h.length) * (2 ^ (8 * s.length) * z + y) + x from by rw [Nat.mul_add, Nat.mul_assoc]; omega]
    rw [xor_hi (by rw [← e256]; exact hx), xor_lo (by rw [← e256]; exact hy) hW]
    rw [Nat.add_comm _ x, Nat.add_comm (2 ^ (8 * s.length) * z)]
  rw [e1, Nat.add_assoc, ← le_append _ _ _ _ hx, ← le_append _ _ _ _ (by rw [e256]; exact Nat.xor_lt_two_pow (by rw [← e256]; exact hy) hW)]
  rw [List.append_assoc]
  congr 1
  · rw [← hX, le_fromLe]
  · rw [← hZ, le_fromLe]
theorem spoil_sum {s : List UInt8} {b F : Nat} (hF : F ≠ 0) (h32 : F < 2 ^ 32) (hb : b + 32 ≤ 8 * s.length) : sumOn 0 (spoilL s b F) ≠ sumOn 0 s := fun e => by
  have h := burst_crc (n := s.length) (V := fromLe s) hF h32 hb (~~~0)
  rw [le_fromLe] at h
  apply h
  have e2 : ~~~ (~~~ crc (~~~0) (spoilL s b F)) = ~~~ (~~~ crc (~~~0) s) := congrArg (fun z => ~~~ z) e
  rw [BitVec.not_not, BitVec.not_not] at e2
  exact e2.symm
end Go.Wk
