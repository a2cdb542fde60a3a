/- Lines with a run of bits turned. No program in sight. -/
import Derived.Test.YtoiebgnmknbkjaaDoorPm
import Derived.Test.YtoiebgnmknbkjaaDoorPi
set_option linter.unusedVariables false
set_option linter.unusedSimpArgs false
namespace Go.Wk
open Go
/-- Bytes with a run of bits turned, from bit a on. -/
def spoilL (l : List UInt8) (a F : Nat) : List UInt8 := le l.length (fromLe l ^^^ (F <<< a))
theorem spoilL_length (l : List UInt8) (a F : Nat) : (spoilL l a F).length = l.length := le_length ..
theorem spoilL_zero (l : List UInt8) (a : Nat) : spoilL l a 0 = l := by unfold spoilL; rw [Nat.zero_shiftLeft, Nat.xor_zero, le_fromLe]
theorem le_getElem {n V k : Nat} (h : k < (le n V).length) : (le n V)[k] = UInt8.ofNat (V / 256 ^ k) := by
  have := le_get n V k (by simpa [le_length] using h)
  rw [List.getElem?_eq_getElem h] at this
  exact Option.some.inj this
theorem byte_ext {x y : Nat} (h : ∀ i, i < 8 → x.testBit i = y.testBit i) : UInt8.ofNat x = UInt8.ofNat y := by
  apply UInt8.toNat_inj.1
  rw [UInt8.toNat_ofNat', UInt8.toNat_ofNat']
  apply Nat.eq_of_testBit_eq
  intro i
  rw [Nat.testBit_mod_two_pow, Nat.testBit_mod_two_pow]
  by_cases hi : i < 8
  · rw [h i hi]
  · simp [hi]
/-- One bit turned in its byte. -/
theorem le_flip {n V p : Nat} {q : UInt8} (hq : (le n V)[p / 8]? = some q) : (le n V).set (p / 8) (UInt8.ofNat (q.toNat ^^^ (1 <<< (p % 8)))) = le n (V ^^^ (1 <<< p)) := by
  have hp : p / 8 < (le n V).length := (List.getElem?_eq_some_iff.1 hq).1
  have hpn : p / 8 < n := by simpa [le_length] using hp
  rw [List.getElem?_eq_getElem hp, le_getElem hp] at hq
  have hq' := Option.some.inj hq
  apply List.ext_getElem
  · simp [le_length]
  · intro k h1 h2
    rw [List.getElem_set, le_getElem h2]
    have e256 : 256 ^ k = 2 ^ (8 * k) := (pow_256 k).symm
    split
    · rename_i hk
      subst hk
      rw [← hq', UInt8.toNat_ofNat']
      apply byte_ext
      intro i hi
      rw [Nat.testBit_xor, Nat.testBit_mod_two_pow, e256, Nat.testBit_div_two_pow, Nat.testBit_div_two_pow, Nat.testBit_xor, Nat.testBit_shiftLeft, Nat.testBit_shiftLeft]
      simp only [hi, decide_true, Bool.true_and]
      congr 1
      by_cases h3 : p % 8 ≤ i
      · by_cases h4 : i = p % 8
        · subst h4
          rw [show p % 8 - p % 8 = 0 by omega, show p % 8 + 8 * (p / 8) - p = 0 by omega]
          simp [show p % 8 + 8 * (p / 8) ≥ p by omega]
        · rw [Nat.testBit_lt_two_pow (show 1 < 2 ^ (i - p % 8) from Nat.one_lt_two_pow (by omega)), Nat.testBit_lt_two_pow (show 1 < 2 ^ (i + 8 * (p / 8) - p) from Nat.one_lt_two_pow (by omega))]
          simp
      · simp [show ¬ i ≥ p % 8 by omega, show ¬ i + 8 * (p / 8) ≥ p by omega]
    · rename_i hk
      rw [le_getElem (by simpa using h1)]
      apply byte_ext
      intro i hi
      rw [e256, Nat.testBit_div_two_pow, Nat.testBit_div_two_pow, Nat.testBit_xor, Nat.testBit_shiftLeft]
      by_cases h3 : i + 8 * k ≥ p
      · rw [Nat.testBit_lt_two_pow (show 1 < 2 ^ (i + 8 * k - p) from Nat.one_lt_two_pow (by omega))]
        simp
      · simp [h3]
theorem mod_succ_bit (F i : Nat) : F % 2 ^ (i + 1) = (F % 2 ^ i) ^^^ (if F.testBit i then 1 <<< i else 0) := by
  apply Nat.eq_of_testBit_eq
  intro j
  rw [Nat.testBit_xor, Nat.testBit_mod_two_pow, Nat.testBit_mod_two_pow]
  by_cases hb : F.testBit i = true
  · rw [if_pos hb, Nat.testBit_shiftLeft]
    by_cases h1 : j < i
    · simp [h1, show j < i + 1 by omega, show ¬ j ≥ i by omega]
    · by_cases h2 : j = i
      · subst h2; simp [hb]
      · simp [h1, show ¬ j < i + 1 by omega, show j ≥ i by omega, Nat.testBit_lt_two_pow (show 1 < 2 ^ (j - i) from Nat.one_lt_two_pow (by omega))]
  · rw [if_neg hb, Nat.zero_testBit, Bool.xor_false]
    by_cases h2 : j = i
    · subst h2; simp at hb; simp [hb]
    · by_cases h1 : j < i
      · simp [h1, show j < i + 1 by omega]
      · simp [h1, show ¬ j < i + 1 by omega]
/-- The run so far. -/
theorem spoil_step1 {l : List UInt8} {a F i : Nat} {q : UInt8} (hb : F.testBit i = true) (hq : (spoilL l a (F % 2 ^ i))[(a + i) / 8]? = some q) :
    (spoilL l a (F % 2 ^ i)).set ((a + i) / 8) (UInt8.ofNat (q.toNat ^^^ (1 <<< ((a + i) % 8)))) = spoilL l a (F % 2 ^ (i + 1)) := by
  unfold spoilL at hq ⊢
  rw [le_flip hq, mod_succ_bit F i, if_pos hb, Nat.shiftLeft_xor_distrib, ← Nat.shiftLeft_add, ← Nat.xor_assoc, Nat.add_comm i a]
theorem spoil_step0 {l : List UInt8} {a F i : Nat} (hb : F.testBit i = false) : spoilL l a (F % 2 ^ (i + 1)) = spoilL l a (F % 2 ^ i) := by
  rw [mod_succ_bit F i, if_neg (by rw [hb]; decide), Nat.xor_zero]
theorem spoil_done {l : List UInt8} {a F : Nat} (h : F < 2 ^ 32) : spoilL l a (F % 2 ^ 32) = spoilL l a F := by rw [Nat.mod_eq_of_lt h]
theorem spoil_none (l : List UInt8) (a F : Nat) : spoilL l a (F % 2 ^ 0) = l := by rw [Nat.pow_zero, Nat.mod_one, spoilL_zero]
/-- A line is whole if the sum of all of it is the one that is left of whole ones. -/
theorem whole_crc {l : List UInt8} (hl : l.length = 64) : wholeB l = true ↔ crc (~~~0) l = bitN 32 (~~~0) := by
  have e : l = l.take 60 ++ le 4 (fromLe (l.drop 60)) := by
    conv => lhs; rw [← List.take_append_drop 60 l]
    congr 1
    have : (l.drop 60).length = 4 := by simp [hl]
    rw [← this, le_fromLe]
  have hd : fromLe (l.drop 60) < 2 ^ 32 := by
    have := fromLe_lt (l.drop 60)
    rw [show (l.drop 60).length = 4 from by simp [hl]] at this
    exact this
  generalize hD : fromLe (l.drop 60) = D at *
  rw [wholeB_iff]
  have hs : sumOn 0 (l.take 60) = ~~~ crc (~~~0) (l.take 60) := rfl
  have hc : crc (~~~0) l = bitN 32 (crc (~~~0) (l.take 60) ^^^ BitVec.ofNat 32 D) := by
    conv => lhs; rw [e]
    rw [crc_append, crc_bits _ (le 4 _), toBits_le, show 8 * 4 = 32 from rfl, crcB_num (by decide) hd]
  rw [hc]
  have hcl : closeL l = l.take 60 ++ le 4 (sumOn 0 (l.take 60)).toNat := rfl
  rw [hcl]
  constructor
  · intro h
    have h1 : le 4 (sumOn 0 (l.take 60)).toNat = le 4 D := List.append_cancel_left (h.trans e)
    have h2 : (sumOn 0 (l.take 60)).toNat = D := by
      have := congrArg fromLe h1
      rwa [fromLe_le _ _ (sumOn 0 (l.take 60)).isLt, fromLe_le _ _ hd] at this
    have h3 : BitVec.ofNat 32 D = ~~~ crc (~~~0) (l.take 60) := by rw [← hs, ← h2]; simp
    rw [h3]
    generalize crc (~~~0) (l.take 60) = s
    congr 1
    rw [← BitVec.xor_allOnes, ← BitVec.xor_assoc, BitVec.xor_self, BitVec.zero_xor]; rfl
  · intro h
    have h1 := bitN_inj 32 h
    have h2 : BitVec.ofNat 32 D = ~~~ crc (~~~0) (l.take 60) := by
      generalize crc (~~~0) (l.take 60) = s at h1 ⊢
      have := congrArg (fun z => s ^^^ z) h1
      simp only [← BitVec.xor_assoc, BitVec.xor_self, BitVec.zero_xor] at this
      rw [this, show (~~~0 : BitVec 32) = BitVec.allOnes 32 from rfl, BitVec.xor_allOnes]
    rw [hs, ← h2, BitVec.toNat_ofNat, Nat.mod_eq_of_lt hd]
    exact e.symm
/-- A whole line with a run of up to 32 bits turned isn't whole. -/
theorem spoil_told {l : List UInt8} {a F : Nat} (hl : l.length = 64) (hw : wholeB l = true) (hF : F ≠ 0) (h32 : F < 2 ^ 32) (ha : a + 32 ≤ 512) : wholeB (spoilL l a F) = false := by
  rw [← Bool.not_eq_true]
  intro h
  have h1 := (whole_crc hl).1 hw
  have h2 := (whole_crc (by rw [spoilL_length, hl])).1 h
  have hb := burst_crc (n := 64) (V := fromLe l) (F := F) (a := a) hF h32 (by omega) (~~~0)
  have e : le 64 (fromLe l) = l := by rw [← hl, le_fromLe]
  have e2 : spoilL l a F = le 64 (fromLe l ^^^ (F <<< a)) := by unfold spoilL; rw [hl]
  rw [e, ← e2] at hb
  exact hb (h1.trans h2.symm)
theorem flip8 : ∀ (s : Fin 8) (q : Fin 256), ib .xor .u8 (q.1 : Int) (IntKind.u8.wrap (1 * 2 ^ min s.1 8)) = ((UInt8.ofNat (q.1 ^^^ (1 <<< s.1))).toNat : Int) := by decide +kernel
theorem flip_byte (q : UInt8) {s : Nat} (h : s < 8) : ib .xor .u8 (q.toNat : Int) (IntKind.u8.wrap (1 * 2 ^ min s 8)) = ((UInt8.ofNat (q.toNat ^^^ (1 <<< s))).toNat : Int) := flip8 ⟨s, h⟩ ⟨q.toNat, q.toNat_lt⟩
theorem bit_at (F : BitVec 32) {i : Nat} : (((F >>> i) &&& 1).toNat : Int) = 1 ↔ F.toNat.testBit i = true := by
  have e : ((F >>> i) &&& 1).toNat = F.toNat / 2 ^ i % 2 := by
    rw [BitVec.toNat_and, BitVec.toNat_ushiftRight, Nat.shiftRight_eq_div_pow]
    show F.toNat / 2 ^ i &&& 1 = _
    rw [Nat.and_one_is_mod]
  rw [e, Nat.testBit_eq_decide_div_mod_eq, decide_eq_true_eq]
  omega
end Go.Wk
