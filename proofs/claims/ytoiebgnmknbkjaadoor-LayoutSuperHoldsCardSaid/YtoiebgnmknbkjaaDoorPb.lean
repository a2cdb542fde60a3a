/- Plain facts on the model's numbers: bits of 32 and 64, bytes. No program in sight. -/
import Derived.Test.YtoiebgnmknbkjaaDoorWd
set_option linter.unusedVariables false
set_option linter.unusedSimpArgs false
namespace Go.Wk
open Go
/-! ### values -/
abbrev bv (c : UInt8) : Value := .int .u8 (c.toNat : Int)
abbrev b32 (x : BitVec 32) : Value := .int .u32 (x.toNat : Int)
abbrev b64 (x : BitVec 64) : Value := .int .u64 (x.toNat : Int)
/-- A slice's bytes in a world. -/
def Bytes (w : World) (A : Option Addr) (l : List UInt8) : Prop := ∀ k c, l[k]? = some c → ∃ b o, A = some ⟨b, o, none⟩ ∧ w.cell? ⟨b, o + k, none⟩ = some (bv c)
theorem Bytes.nil (w : World) (A : Option Addr) : Bytes w A [] := fun k c h => by simp at h
theorem Bytes.mod {w w' : World} {A l} (h : Bytes w A l) (hm : Mod (fun _ => False) w w') : Bytes w' A l := fun k c hk => by
  obtain ⟨b, o, hA, hc⟩ := h k c hk
  refine ⟨b, o, hA, ?_⟩
  have := hm.old b (block_lt_of_cell hc) (fun h => h)
  unfold World.cell? at *
  rw [this]; exact hc
theorem Bytes.take {w A l} (h : Bytes w A l) (n : Nat) : Bytes w A (l.take n) := fun k c hk => h k c (by
  rw [List.getElem?_take] at hk; split at hk
  · exact hk
  · simp at hk)
/-! ### wrapping -/
theorem wrap_id {k : IntKind} {n : Int} (h0 : k.min ≤ n) (h1 : n ≤ k.max) : k.wrap n = n := by
  cases k <;> simp [IntKind.wrap, IntKind.min, IntKind.max, IntKind.signed, IntKind.bits] at * <;> omega
theorem wrap_i64 {n : Int} (h0 : -9223372036854775808 ≤ n) (h1 : n ≤ 9223372036854775807) : IntKind.i64.wrap n = n := wrap_id (by simpa [IntKind.min, IntKind.signed, IntKind.bits] using h0) (by simpa [IntKind.max, IntKind.signed, IntKind.bits] using h1)
theorem wrap_u64 {n : Int} (h0 : 0 ≤ n) (h1 : n < 18446744073709551616) : IntKind.u64.wrap n = n := wrap_id (by simpa [IntKind.min, IntKind.signed, IntKind.bits] using h0) (by simp [IntKind.max, IntKind.signed, IntKind.bits]; omega)
theorem wrap_u32 {n : Int} (h0 : 0 ≤ n) (h1 : n < 4294967296) : IntKind.u32.wrap n = n := wrap_id (by simpa [IntKind.min, IntKind.signed, IntKind.bits] using h0) (by simp [IntKind.max, IntKind.signed, IntKind.bits]; omega)
theorem wrap_u8 {n : Int} (h0 : 0 ≤ n) (h1 : n < 256) : IntKind.u8.wrap n = n := wrap_id (by simpa [IntKind.min, IntKind.signed, IntKind.bits] using h0) (by simp [IntKind.max, IntKind.signed, IntKind.bits]; omega)
theorem wrap_u8_nat (n : Nat) : IntKind.u8.wrap (n : Int) = ((UInt8.ofNat n).toNat : Int) := by
  simp [IntKind.wrap, IntKind.signed, IntKind.bits, UInt8.toNat_ofNat']
theorem wrap_u32_nat (n : Nat) : IntKind.u32.wrap (n : Int) = ((BitVec.ofNat 32 n).toNat : Int) := by
  simp [IntKind.wrap, IntKind.signed, IntKind.bits, BitVec.toNat_ofNat]
theorem wrap_u64_nat (n : Nat) : IntKind.u64.wrap (n : Int) = ((BitVec.ofNat 64 n).toNat : Int) := by
  simp [IntKind.wrap, IntKind.signed, IntKind.bits, BitVec.toNat_ofNat]
theorem ofInt_toNat {n : Nat} (x : BitVec n) : BitVec.ofInt n (x.toNat : Int) = x := by
  apply BitVec.eq_of_toNat_eq
  simp
theorem wrap_toNat32 (x : BitVec 32) : IntKind.u32.wrap (x.toNat : Int) = (x.toNat : Int) := wrap_u32 (by omega) (by have := x.isLt; omega)
theorem wrap_toNat64 (x : BitVec 64) : IntKind.u64.wrap (x.toNat : Int) = (x.toNat : Int) := wrap_u64 (by omega) (by have := x.isLt; omega)
/-! ### bits of 32 -/
theorem xor32 (x y : BitVec 32) : ib .xor .u32 (x.toNat : Int) (y.toNat : Int) = ((x ^^^ y).toNat : Int) := by
  show IntKind.u32.wrap ((BitVec.ofInt 32 (x.toNat : Int) ^^^ BitVec.ofInt 32 (y.toNat : Int)).toNat : Int) = _
  rw [ofInt_toNat, ofInt_toNat, wrap_toNat32]
theorem and32 (x y : BitVec 32) : ib .and .u32 (x.toNat : Int) (y.toNat : Int) = ((x &&& y).toNat : Int) := by
  show IntKind.u32.wrap ((BitVec.ofInt 32 (x.toNat : Int) &&& BitVec.ofInt 32 (y.toNat : Int)).toNat : Int) = _
  rw [ofInt_toNat, ofInt_toNat, wrap_toNat32]
theorem xor64 (x y : BitVec 64) : ib .xor .u64 (x.toNat : Int) (y.toNat : Int) = ((x ^^^ y).toNat : Int) := by
  show IntKind.u64.wrap ((BitVec.ofInt 64 (x.toNat : Int) ^^^ BitVec.ofInt 64 (y.toNat : Int)).toNat : Int) = _
  rw [ofInt_toNat, ofInt_toNat, wrap_toNat64]
theorem or64 (x y : BitVec 64) : ib .or .u64 (x.toNat : Int) (y.toNat : Int) = ((x ||| y).toNat : Int) := by
  show IntKind.u64.wrap ((BitVec.ofInt 64 (x.toNat : Int) ||| BitVec.ofInt 64 (y.toNat : Int)).toNat : Int) = _
  rw [ofInt_toNat, ofInt_toNat, wrap_toNat64]
theorem and64 (x y : BitVec 64) : ib .and .u64 (x.toNat : Int) (y.toNat : Int) = ((x &&& y).toNat : Int) := by
  show IntKind.u64.wrap ((BitVec.ofInt 64 (x.toNat : Int) &&& BitVec.ofInt 64 (y.toNat : Int)).toNat : Int) = _
  rw [ofInt_toNat, ofInt_toNat, wrap_toNat64]
theorem com32 (x : BitVec 32) : ib .xor .u32 (if IntKind.u32.signed then -1 else IntKind.u32.max) (x.toNat : Int) = ((~~~x).toNat : Int) := by
  show IntKind.u32.wrap ((BitVec.ofInt 32 (4294967295 : Int) ^^^ BitVec.ofInt 32 (x.toNat : Int)).toNat : Int) = _
  rw [ofInt_toNat, wrap_toNat32, show BitVec.ofInt 32 (4294967295 : Int) = BitVec.allOnes 32 from rfl, BitVec.allOnes_xor]
theorem shr32 (x : BitVec 32) (n : Nat) (h : n ≤ 32) : (x.toNat : Int).fdiv (2 ^ min n 32) = ((x >>> n).toNat : Int) := by
  rw [Nat.min_eq_left h, BitVec.toNat_ushiftRight, Nat.shiftRight_eq_div_pow, Int.fdiv_eq_ediv_of_nonneg _ (by exact Int.pow_nonneg (by decide))]
  norm_cast
theorem shr64 (x : BitVec 64) (n : Nat) (h : n ≤ 64) : (x.toNat : Int).fdiv (2 ^ min n 64) = ((x >>> n).toNat : Int) := by
  rw [Nat.min_eq_left h, BitVec.toNat_ushiftRight, Nat.shiftRight_eq_div_pow, Int.fdiv_eq_ediv_of_nonneg _ (by exact Int.pow_nonneg (by decide))]
  norm_cast
theorem shl64 (x : BitVec 64) (n : Nat) (h : n ≤ 64) : IntKind.u64.wrap ((x.toNat : Int) * 2 ^ min n 64) = ((x <<< n).toNat : Int) := by
  rw [Nat.min_eq_left h, show (x.toNat : Int) * 2 ^ n = ((x.toNat * 2 ^ n : Nat) : Int) by push_cast; rfl, wrap_u64_nat]
  congr 1
  rw [BitVec.toNat_ofNat, BitVec.toNat_shiftLeft, Nat.shiftLeft_eq]
end Go.Wk
