/- Lines out of bytes. No program in sight. -/
import Derived.Test.YtoiebgnmknbkjaaDoorWe
set_option linter.unusedVariables false
set_option linter.unusedSimpArgs false
namespace Go.Wk
open Go
def lineL (b : List UInt8) : List UInt8 := closeL (b ++ zs (64 - b.length))
theorem lineL_length {b : List UInt8} (h : b.length ≤ 60) : (lineL b).length = 64 := closeL_length (by simp [zs]; omega)
theorem zs_append (m n : Nat) : zs m ++ zs n = zs (m + n) := by simp [zs]
theorem zs_succ (n : Nat) : zs n ++ [0] = zs (n + 1) := zs_append n 1
theorem lineL_take {b : List UInt8} (h : b.length ≤ 60) : (b ++ zs (64 - b.length)).take 60 = b ++ zs (60 - b.length) := by
  rw [show 64 - b.length = (60 - b.length) + 4 by omega, ← zs_append, ← List.append_assoc, List.take_append_of_le_length (by simp [zs]; omega), List.take_of_length_le (by simp [zs]; omega)]
theorem lineL_row {b : List UInt8} (h : b.length ≤ 60) : lineL b = (b ++ zs (60 - b.length)) ++ le 4 (sumOn 0 (b ++ zs (60 - b.length))).toNat := by
  unfold lineL closeL; rw [lineL_take h]
theorem closeL_take {b l : List UInt8} (h : b.length ≤ 64) (hl : ((b ++ zs (64 - b.length)) : List UInt8) = l) : closeL l = lineL b := by subst hl; rfl
def superB (p i c : Nat) : List UInt8 := [70, 85, 82, 82, 79, 87, 48, 49] ++ le 4 p ++ le 4 i ++ le 4 c
theorem superB_length (p i c : Nat) : (superB p i c).length = 20 := by simp [superB, le_length]
def zline : Value := .agg ((zs 64).map bv).toArray
def lineV (b : List UInt8) : Value := .agg ((lineL b).map bv).toArray
theorem toU64 {n : Int} (h0 : 0 ≤ n) (h1 : n < 18446744073709551616) : IntKind.u64.wrap n = ((n.toNat : Nat) : Int) := by rw [wrap_u64 h0 h1]; omega
end Go.Wk
