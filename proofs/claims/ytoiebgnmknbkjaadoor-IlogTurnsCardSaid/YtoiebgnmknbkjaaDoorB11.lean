/- Remainders; spoilt words. -/
import Derived.Test.YtoiebgnmknbkjaaDoorA3
import Derived.Test.YtoiebgnmknbkjaaDoorB2
import Derived.Test.YtoiebgnmknbkjaaDoorPa
set_option linter.unusedVariables false
set_option linter.unusedSimpArgs false
namespace Go.Proofs.YtoiebgnmknbkjaaDoor
open Go Go.Wk

theorem mod_wrap {v n : Int} (h0 : 0 < n) (hn : n ≤ 4611686018427387904) : (if v.tmod n < 0 then IntKind.i64.wrap (v.tmod n + n) else v.tmod n) = v % n := by
  have h1 := Int.emod_nonneg v (by omega : n ≠ 0)
  have h2 := Int.emod_lt_of_pos v h0
  rcases Int.lt_or_le v 0 with hv | hv
  · have e : v.tmod n = -((-v) % n) := by rw [← Int.tmod_eq_emod_of_nonneg (by omega), Int.neg_tmod]; omega
    have h3 := Int.emod_nonneg (-v) (by omega : n ≠ 0)
    have h4 := Int.emod_lt_of_pos (-v) h0
    have h5 := Int.mul_ediv_add_emod v n
    have h6 := Int.mul_ediv_add_emod (-v) n
    rw [e]
    have hs : n * (v / n + (-v) / n) + (v % n + (-v) % n) = 0 := by rw [Int.mul_add]; omega
    split
    · rw [wrap_i64 (by omega) (by omega)]
      have : v / n + (-v) / n = -1 := by
        rcases Int.lt_trichotomy (v / n + (-v) / n) (-1) with h | h | h
        · have := Int.mul_le_mul_of_nonneg_left (show v / n + (-v) / n ≤ -2 by omega) (show 0 ≤ n by omega); omega
        · exact h
        · have := Int.mul_le_mul_of_nonneg_left (show 0 ≤ v / n + (-v) / n by omega) (show 0 ≤ n by omega); omega
      rw [this] at hs; omega
    · have hz : (-v) % n = 0 := by omega
      rw [hz] at hs ⊢
      have : v % n = 0 := by
        rcases Int.lt_trichotomy (v / n + (-v) / n) 0 with h | h | h
        · have := Int.mul_le_mul_of_nonneg_left (show v / n + (-v) / n ≤ -1 by omega) (show 0 ≤ n by omega); omega
        · rw [h] at hs; omega
        · have := Int.mul_le_mul_of_nonneg_left (show 1 ≤ v / n + (-v) / n by omega) (show 0 ≤ n by omega); omega
      omega
  · rw [Int.tmod_eq_emod_of_nonneg hv, if_neg (by omega)]
theorem ofInt_val {n : Int} (h0 : 0 ≤ n) (h1 : n < 4294967296) : ((BitVec.ofInt 32 n).toNat : Int) = n := by
  rw [← wrap_u32_int, wrap_u32 h0 h1]
theorem spoil_word (x : BitVec 64) (f : BitVec 32) {sh : Nat} (h : sh ≤ 32) : ib .xor .u64 (x.toNat : Int) (IntKind.u64.wrap (((f.setWidth 64).toNat : Int) * 2 ^ min ((sh : Int)).toNat IntKind.u64.bits)) = ((x ^^^ (f.setWidth 64 <<< sh)).toNat : Int) := by
  rw [Int.toNat_natCast, show IntKind.u64.bits = 64 from rfl, shl64 _ sh (by omega), xor64]
theorem spoil_nat (x : BitVec 64) (f : BitVec 32) {sh : Nat} (h : sh ≤ 32) : (x ^^^ (f.setWidth 64 <<< sh)).toNat = x.toNat ^^^ (f.toNat <<< sh) := by
  rw [BitVec.toNat_xor, BitVec.toNat_shiftLeft, BitVec.toNat_setWidth, Nat.mod_eq_of_lt (a := f.toNat) (by have := f.isLt; omega)]
  congr 1
  apply Nat.mod_eq_of_lt
  rw [Nat.shiftLeft_eq]
  have h1 : 2 ^ sh ≤ 2 ^ 32 := Nat.pow_le_pow_right (by decide) h
  have := f.isLt
  calc f.toNat * 2 ^ sh ≤ f.toNat * 2 ^ 32 := Nat.mul_le_mul_left _ h1
    _ < 2 ^ 64 := by omega
theorem spoil_some {x : BitVec 64} {f : BitVec 32} {sh : Nat} (h : x ^^^ (f.setWidth 64 <<< sh) ≠ x) : f.toNat ≠ 0 := fun e => h (by
  have : f = 0 := BitVec.eq_of_toNat_eq (by simpa using e)
  subst this; simp)
theorem addr_ofInt {p : Int} (h0 : 0 ≤ p) (h1 : p < 4294967296) : (BitVec.ofInt 64 p).toNat < 2 ^ 32 := by
  have : ((BitVec.ofInt 64 p).toNat : Int) = p := by rw [← wrap_u64_int, wrap_u64 h0 (by omega)]
  omega
theorem addr_ne {p q : Int} (h0 : 0 ≤ p) (h1 : p < 4294967296) (h2 : 0 ≤ q) (h3 : q < 4294967296) (h : p ≠ q) : BitVec.ofInt 64 p ≠ BitVec.ofInt 64 q := fun e => h (by
  have h4 : ((BitVec.ofInt 64 p).toNat : Int) = p := by rw [← wrap_u64_int, wrap_u64 h0 (by omega)]
  have h5 : ((BitVec.ofInt 64 q).toNat : Int) = q := by rw [← wrap_u64_int, wrap_u64 h2 (by omega)]
  rw [← h4, ← h5, e])

theorem mod_p (v n : Int) (w : World) (h0 : 0 < n) (hn : n ≤ 4611686018427387904) :
    PureC Tryd.prog 32 [.int .i64 v, .int .i64 n] (.int .i64 (v % n)) w := by
  refine enter0 Tryd.func32 rfl Tryd.ntmps32 rfl ?_
  simp only [envOf]
  refine At.seq ?_
  refine At.region ?_
  refine At.val (Val.assign rfl) rfl rfl rfl ?_
  refine At.nil ?_
  refine At.thenN ?_
  refine At.seq ?_
  refine At.region ?_
  refine At.val (Val.move rfl) rfl rfl rfl ?_
  refine At.val (Val.move rfl) rfl rfl rfl ?_
  refine At.val (Val.rem rfl rfl (by omega)) rfl rfl rfl ?_
  refine At.val (Val.assign rfl) rfl rfl rfl ?_
  refine At.nil ?_
  refine At.thenN ?_
  refine At.seq ?_
  refine At.seq ?_
  refine At.region ?_
  refine At.val (Val.move rfl) rfl rfl rfl ?_
  refine At.val (Val.bin rfl rfl rfl) rfl rfl rfl ?_
  refine At.nil ?_
  refine At.thenN ?_
  refine At.cond rfl (fun h1 => ?_) (fun h1 => ?_)
  · skip
    refine At.region ?_
    refine At.val (Val.move rfl) rfl rfl rfl ?_
    refine At.val (Val.move rfl) rfl rfl rfl ?_
    refine At.val (Val.bin rfl rfl rfl) rfl rfl rfl ?_
    refine At.val (Val.assign rfl) rfl rfl rfl ?_
    refine At.nil ?_
    refine At.thenN ?_
    refine At.seq ?_
    refine At.region ?_
    refine At.val (Val.move rfl) rfl rfl rfl ?_
    refine At.val (Val.assign rfl) rfl rfl rfl ?_
    refine At.nil ?_
    refine At.thenN ?_
    refine At.retC ?_
    refine At.ret1 (.inl rfl) rfl rfl rfl (fun w hw => ?_)
    exact ⟨retI (by rw [← mod_wrap h0 hn, if_pos (by simpa using h1)]), hw.mod⟩
  · skip
    refine At.skipC ?_
    refine At.thenN ?_
    refine At.seq ?_
    refine At.region ?_
    refine At.val (Val.move rfl) rfl rfl rfl ?_
    refine At.val (Val.assign rfl) rfl rfl rfl ?_
    refine At.nil ?_
    refine At.thenN ?_
    refine At.retC ?_
    refine At.ret1 (.inl rfl) rfl rfl rfl (fun w hw => ?_)
    exact ⟨retI (by rw [← mod_wrap h0 hn, if_neg (by simpa using h1)]), hw.mod⟩

end Go.Proofs.YtoiebgnmknbkjaaDoor
