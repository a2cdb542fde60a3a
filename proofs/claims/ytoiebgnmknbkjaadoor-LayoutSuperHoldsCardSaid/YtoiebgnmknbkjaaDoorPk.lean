/- The sum tells every burst of up to 32 bits. No program in sight. -/
import Derived.Test.YtoiebgnmknbkjaaDoorPj
set_option linter.unusedVariables false
set_option linter.unusedSimpArgs false
namespace Go.Wk
open Go
/-! ### bit by bit -/
def one (b : Bool) : BitVec 32 := if b then 1 else 0
def crcB (r : BitVec 32) (bs : List Bool) : BitVec 32 := bs.foldl (fun r b => bit (r ^^^ one b)) r
def byteBits (c : UInt8) : List Bool := (List.range 8).map fun i => c.toNat.testBit i
def toBits (l : List UInt8) : List Bool := l.flatMap byteBits
theorem toBits_length (l : List UInt8) : (toBits l).length = 8 * l.length := by
  induction l with
  | nil => rfl
  | cons c l ih => simp only [toBits, List.flatMap_cons, List.length_append, List.length_cons] at *; rw [ih]; simp [byteBits]; omega
theorem crcB_append (r : BitVec 32) (a b : List Bool) : crcB r (a ++ b) = crcB (crcB r a) b := List.foldl_append
theorem bit_zero : bit 0 = 0 := by decide
theorem bitN_zero : ∀ n, bitN n 0 = 0
  | 0 => rfl
  | n + 1 => by simp only [bitN, bitN_zero n, bit_zero]
theorem bitN_add : ∀ (m n : Nat) (x : BitVec 32), bitN (m + n) x = bitN m (bitN n x)
  | 0, n, x => by simp [bitN]
  | m + 1, n, x => by rw [show m + 1 + n = (m + n) + 1 by omega]; simp only [bitN, bitN_add m n]
/-- The bit that is shifted out can be told from what comes out. -/
theorem bit_top (x : BitVec 32) : (bit x).getLsbD 31 = x.getLsbD 0 := by
  rw [bit_eq, BitVec.getLsbD_xor, BitVec.getLsbD_ushiftRight]
  cases h : x.getLsbD 0
  · simp
  · simp [poly]
theorem bit_inj {x y : BitVec 32} (h : bit x = bit y) : x = y := by
  have h0 : x.getLsbD 0 = y.getLsbD 0 := by rw [← bit_top, ← bit_top, h]
  have h1 : x >>> 1 = y >>> 1 := by
    rw [bit_eq, bit_eq, h0] at h
    have := congrArg (· ^^^ (if y.getLsbD 0 then poly else 0)) h
    simpa [BitVec.xor_assoc] using this
  apply BitVec.eq_of_getLsbD_eq
  intro i hi
  rcases Nat.eq_zero_or_pos i with rfl | hp
  · exact h0
  · have := congrArg (fun z : BitVec 32 => z.getLsbD (i - 1)) h1
    simp only [BitVec.getLsbD_ushiftRight] at this
    rwa [show 1 + (i - 1) = i by omega] at this
theorem bitN_inj : ∀ n {x y : BitVec 32}, bitN n x = bitN n y → x = y
  | 0, x, y, h => h
  | n + 1, x, y, h => bitN_inj n (bit_inj h)
theorem bitN_ne {n : Nat} {x : BitVec 32} (h : x ≠ 0) : bitN n x ≠ 0 := fun e => h (bitN_inj n (by rw [e, bitN_zero]))
theorem one_lsb (i : Nat) : (1 : BitVec 32).getLsbD i = decide (i = 0) := by
  have : (1 : BitVec 32) = 1#32 := rfl
  rw [this, BitVec.getLsbD_one]; simp
theorem shl_lsb (m i : Nat) (hi : i < 32) : ((1 : BitVec 32) <<< m).getLsbD i = decide (i = m) := by
  rw [BitVec.getLsbD_shiftLeft, one_lsb, Bool.eq_iff_iff]
  simp only [Bool.and_eq_true, decide_eq_true_eq, Bool.not_eq_true', decide_eq_false_iff_not]
  omega
theorem bit_shl (m : Nat) (h : m + 1 < 32) : bit ((1 : BitVec 32) <<< (m + 1)) = (1 : BitVec 32) <<< m := by
  rw [bit_eq]
  have h0 : ((1 : BitVec 32) <<< (m + 1)).getLsbD 0 = false := by rw [shl_lsb _ _ (by decide)]; simp
  rw [h0]
  apply BitVec.eq_of_getLsbD_eq
  intro i hi
  rw [shl_lsb m i hi, BitVec.getLsbD_xor, BitVec.getLsbD_ushiftRight]
  simp only [Bool.false_eq_true, if_false]
  rcases Nat.lt_or_ge (1 + i) 32 with h2 | h2
  · rw [shl_lsb _ _ h2]
    have : (0 : BitVec 32).getLsbD i = false := by simp
    rw [this, Bool.xor_false, decide_eq_decide]; omega
  · rw [BitVec.getLsbD_of_ge _ _ h2]
    have : (0 : BitVec 32).getLsbD i = false := by simp
    rw [this, Bool.xor_false]; simp; omega
theorem bitN_succ (n : Nat) (r : BitVec 32) : bitN (n + 1) r = bitN n (bit r) := bitN_add n 1 r
theorem bitN_top : ∀ n, n < 32 → bitN n ((1 : BitVec 32) <<< n) = 1
  | 0, _ => rfl
  | n + 1, h => by rw [bitN_succ, bit_shl n h, bitN_top n (by omega)]
theorem crcB_xor : ∀ (a b : List Bool) (r s : BitVec 32), a.length = b.length → crcB (r ^^^ s) (List.zipWith Bool.xor a b) = crcB r a ^^^ crcB s b
  | [], [], r, s, _ => rfl
  | x :: a, y :: b, r, s, h => by
    simp only [List.zipWith_cons_cons, crcB, List.foldl_cons]
    have e : bit (r ^^^ s ^^^ one (Bool.xor x y)) = bit (r ^^^ one x) ^^^ bit (s ^^^ one y) := by
      rw [← bit_xor]
      congr 1
      have : one (Bool.xor x y) = one x ^^^ one y := by cases x <;> cases y <;> decide
      rw [this, BitVec.xor_assoc, BitVec.xor_assoc, ← BitVec.xor_assoc s, BitVec.xor_comm s (one x), BitVec.xor_assoc (one x)]
    rw [e]
    exact crcB_xor a b _ _ (by simpa using h)
theorem crcB_cons (r : BitVec 32) (b : Bool) (bs : List Bool) : crcB r (b :: bs) = crcB (bit (r ^^^ one b)) bs := rfl
theorem crcB_zeros : ∀ (n : Nat) (r : BitVec 32), crcB r (List.replicate n false) = bitN n r
  | 0, r => rfl
  | n + 1, r => by
    rw [List.replicate_succ, crcB_cons, crcB_zeros n, bitN_succ, show r ^^^ one false = r from by simp [one]]
/-- n bits, the lowest first, taken in one behind the other: as n steps over their number. -/
theorem crcB_bits (F : BitVec 32) : ∀ (n k : Nat), k + n ≤ 32 → crcB 0 ((List.range n).map fun i => F.getLsbD (k + i)) = bitN n ((F >>> k) &&& BitVec.ofNat 32 (2 ^ n - 1))
  | 0, k, h => by simp [crcB, bitN]
  | n + 1, k, h => by
    rw [List.range_succ, List.map_append, crcB_append, crcB_bits F n k (by omega)]
    have e : one (F.getLsbD (k + n)) = bitN n (if F.getLsbD (k + n) then (1 : BitVec 32) <<< n else 0) := by
      cases F.getLsbD (k + n)
      · exact (bitN_zero n).symm
      · exact (bitN_top n (by omega)).symm
    show bit (bitN n _ ^^^ one (F.getLsbD (k + n))) = _
    rw [e, ← bitN_xor]
    show bitN (n + 1) _ = bitN (n + 1) _
    congr 1
    apply BitVec.eq_of_getLsbD_eq
    intro i hi
    have hm : ∀ (q : Nat), q ≤ 32 → (BitVec.ofNat 32 (2 ^ q - 1)).getLsbD i = decide (i < q) := fun q hq => by
      rw [BitVec.getLsbD_ofNat, Nat.testBit_two_pow_sub_one]
      simp [hi]
    rw [BitVec.getLsbD_xor, BitVec.getLsbD_and, BitVec.getLsbD_and, hm n (by omega), hm (n + 1) (by omega), BitVec.getLsbD_ushiftRight]
    by_cases hin : i < n
    · have : i < n + 1 := by omega
      simp only [hin, this, decide_true, Bool.and_true]
      have : (if F.getLsbD (k + n) then (1 : BitVec 32) <<< n else 0).getLsbD i = false := by
        split
        · rw [BitVec.getLsbD_shiftLeft]; simp [hin]
        · simp
      rw [this, Bool.xor_false]
    · by_cases hen : i = n
      · subst hen
        simp only [Nat.lt_irrefl, decide_false, Bool.and_false, Bool.false_xor, Nat.lt_succ_self, decide_true, Bool.and_true]
        cases hb : F.getLsbD (k + i)
        · simp
        · simp only [if_true]; rw [BitVec.getLsbD_shiftLeft]; simp [hi]
      · have h1 : ¬ i < n + 1 := by omega
        simp only [hin, h1, decide_false, Bool.and_false, Bool.false_xor]
        split
        · rw [shl_lsb _ _ hi]; simp; omega
        · simp
/-- A burst that begins at bit 'a' of n bits, as far as it goes. -/
def burst (a : Nat) (F : BitVec 32) (n : Nat) : List Bool := (List.range n).map fun p => decide (a ≤ p) && decide (p < a + 32) && F.getLsbD (p - a)
theorem burst_parts (a b : Nat) (F : BitVec 32) : burst a F (a + 32 + b) = List.replicate a false ++ ((List.range 32).map fun i => F.getLsbD (0 + i)) ++ List.replicate b false := by
  apply List.ext_getElem
  · simp [burst]; omega
  · intro p h1 h2
    have hp : p < a + 32 + b := by simpa [burst] using h1
    simp only [burst, List.getElem_map, List.getElem_range]
    rcases Nat.lt_or_ge p a with h | h
    · rw [List.getElem_append_left (by simp; omega), List.getElem_append_left (by simp; omega)]
      simp [show ¬ a ≤ p by omega]
    · rcases Nat.lt_or_ge p (a + 32) with h3 | h3
      · rw [List.getElem_append_left (by simp; omega), List.getElem_append_right (by simp; omega)]
        simp [h, h3]
      · rw [List.getElem_append_right (by simp; omega)]
        simp [show ¬ p < a + 32 by omega]
theorem burst_tells {a b : Nat} {F : BitVec 32} (hF : F ≠ 0) : crcB 0 (burst a F (a + 32 + b)) ≠ 0 := by
  rw [burst_parts, crcB_append, crcB_append, crcB_zeros a, bitN_zero a, crcB_bits F 32 0 (by omega), crcB_zeros b]
  refine bitN_ne (bitN_ne ?_)
  rw [show (F >>> 0) &&& BitVec.ofNat 32 (2 ^ 32 - 1) = F from by
    apply BitVec.eq_of_getLsbD_eq
    intro i hi
    rw [BitVec.getLsbD_and, BitVec.getLsbD_ofNat, Nat.testBit_two_pow_sub_one]
    simp [hi]]
  exact hF
end Go.Wk
