/- Lines out of bytes. No program in sight. -/
import Derived.Test.YtgighokkflchmaaWa
set_option linter.unusedVariables false
set_option linter.unusedSimpArgs false
namespace Go.Wk
open Go
def lineL (b : List UInt8) : List UInt8 := closeL (b ++ zs (64 - b.length))
theorem lineL_length {b : List UInt8} (h : b.length ≤ 60) : (lineL b).length = 64 := closeL_length (by simp [zs]; omega)
theorem zs_append (m n : Nat) : zs m ++ zs n = zs (m + n) := by simp [zs]
theorem zs_succ (n : Nat) : zs n ++ [0] = zs (n + 1) := zs_append n 1
theorem lineL_take {b : List UInt8} (h : b.length ≤ 60) : (b ++ zs (64 - b.length)).take 60 = b ++ zs (60 - b.length) := by
  rw [show 64 - b.length = (60 - b.length) + 4 by omega, ← zs_append, ← List.append_assoc, List.take_append_of_le_length (by simp [zs]; omega), List.take_of_length_le (by simp [zs]; omega)]
theorem lineL_row {b : List UInt8} (h : b.length ≤ 60) : lineL b = (b ++ zs (60 - b.length)) ++ le 4 (sumOn 0 (b ++ zs (60 - b.length))).toNat := by
  unfold lineL closeL; rw [lineL_take h]
theorem closeL_take {b l : List UInt8} (h : b.length ≤ 64) (hl : ((b ++ zs (64 - b.length)) : List UInt8) = l) : closeL l = lineL b := by subst hl; rfl
def superB (p i c : Nat) : List UInt8 := [70, 85, 82, 82, 79, 87, 48, 49] ++ le 4 p ++ le 4 i ++ le 4 c
theorem superB_length (p i c : Nat) : (superB p i c).length = 20 := by simp [superB, le_length]
def zline : Value := .agg ((zs 64).map bv).toArray
def lineV (b : List UInt8) : Value := .agg ((lineL b).map bv).toArray
theorem toU64 {n : Int} (h0 : 0 ≤ n) (h1 : n < 18446744073709551616) : IntKind.u64.wrap n = ((n.toNat : Nat) : Int) := by rw [wrap_u64 h0 h1]; omega
end Go.Wk

set_option linter.unusedVariables false
set_option linter.unusedSimpArgs false
namespace Go.Wk
open Go
def num (l : List UInt8) (at_ n : Nat) : Nat := fromLe ((l.drop at_).take n)
theorem fromLe_append : ∀ (a b : List UInt8), fromLe (a ++ b) = fromLe a + 256 ^ a.length * fromLe b
  | [], b => by simp [fromLe]
  | c :: a, b => by
    simp only [List.cons_append, fromLe, fromLe_append a b, List.length_cons, Nat.pow_succ]
    rw [Nat.mul_add, Nat.add_assoc, ← Nat.mul_assoc, Nat.mul_comm 256 (256 ^ a.length)]
theorem num_zero (l : List UInt8) (at_ : Nat) : num l at_ 0 = 0 := by simp [num, fromLe]
theorem num_succ {l : List UInt8} {at_ k : Nat} {c : UInt8} (h : l[at_ + k]? = some c) : num l at_ (k + 1) = num l at_ k + 256 ^ k * c.toNat := by
  have hk : at_ + k < l.length := (List.getElem?_eq_some_iff.1 h).1
  have h1 : (l.drop at_)[k]? = some c := by rw [List.getElem?_drop]; exact h
  unfold num
  rw [List.take_add_one, h1]
  simp only [Option.toList_some]
  rw [fromLe_append]
  simp only [List.length_take, List.length_drop, fromLe]
  rw [show min k (l.length - at_) = k by omega]
  simp
theorem num_lt {l : List UInt8} (at_ n : Nat) : num l at_ n < 256 ^ n := by
  have h := fromLe_lt ((l.drop at_).take n)
  exact Nat.lt_of_lt_of_le h (Nat.pow_le_pow_right (by decide) (by simp; omega))
theorem num_or {l : List UInt8} {at_ k : Nat} {c : UInt8} (h : l[at_ + k]? = some c) (hk : k < 8) :
    ib .or .u64 ((num l at_ k : Nat) : Int) (IntKind.u64.wrap ((c.toNat : Int) * 2 ^ min (8 * (k : Int)).toNat IntKind.u64.bits)) = ((num l at_ (k + 1) : Nat) : Int) := by
  have e8 : (8 * (k : Int)).toNat = 8 * k := by omega
  have h1 : num l at_ k < 256 ^ k := num_lt at_ k
  have hp : 256 ^ k = 2 ^ (8 * k) := by rw [Nat.pow_mul]
  have hle : 256 ^ (k + 1) ≤ 18446744073709551616 := by
    rw [show (18446744073709551616 : Nat) = 256 ^ 8 from rfl]; exact Nat.pow_le_pow_right (by decide) (by omega)
  have h2 : num l at_ (k + 1) < 256 ^ (k + 1) := num_lt at_ (k + 1)
  have h3 := num_succ h
  have hx : (BitVec.ofNat 64 (num l at_ k)).toNat = num l at_ k := by rw [BitVec.toNat_ofNat]; omega
  have hy : (BitVec.ofNat 64 (256 ^ k * c.toNat)).toNat = 256 ^ k * c.toNat := by rw [BitVec.toNat_ofNat]; omega
  have e : IntKind.u64.wrap ((c.toNat : Int) * 2 ^ min (8 * (k : Int)).toNat IntKind.u64.bits) = ((256 ^ k * c.toNat : Nat) : Int) := by
    rw [e8, show min (8 * k) IntKind.u64.bits = 8 * k from Nat.min_eq_left (by show 8 * k ≤ 64; omega)]
    rw [show (c.toNat : Int) * 2 ^ (8 * k) = ((256 ^ k * c.toNat : Nat) : Int) from by rw [hp]; push_cast; rw [Int.mul_comm]]
    exact wrap_u64 (by omega) (by omega)
  rw [e, ← hx, ← hy, or64, BitVec.toNat_or, hx, hy, h3]
  congr 1
  rw [hp, Nat.or_comm, ← Nat.two_pow_add_eq_or_of_lt (by rw [← hp]; exact h1), Nat.add_comm]
theorem cut_bytes {w : World} {L o c at_ n : Nat} {l : List UInt8} (hb : Bytes w (some ⟨L, o, none⟩) l) (hc : l.length ≤ c) (hn : at_ + n ≤ l.length) :
    Bytes w (some ⟨L, if c = at_ then o else o + at_ * 1, none⟩) ((l.drop at_).take n) := fun k u hk => by
  have hk' : k < ((l.drop at_).take n).length := (List.getElem?_eq_some_iff.1 hk).1
  have hkn : k < n := by simp at hk'; omega
  have h1 : l[at_ + k]? = some u := by
    rw [List.getElem?_take, if_pos hkn, List.getElem?_drop] at hk; exact hk
  obtain ⟨b, o', hbo, hcell⟩ := hb _ _ h1
  simp only [Option.some.injEq, Addr.mk.injEq] at hbo
  obtain ⟨rfl, rfl, _⟩ := hbo
  rw [if_neg (by omega)]
  exact ⟨L, o + at_ * 1, rfl, by rw [← hcell]; congr 2; omega⟩
abbrev eyeC (L o m c at_ : Nat) : List Value := [.slice (some ⟨L, o, none⟩) m c, .int .i64 (at_ : Nat)]
def allZero (l : List UInt8) : Prop := ∀ c ∈ l, c = 0
instance (l : List UInt8) : Decidable (allZero l) := by unfold allZero; infer_instance
theorem allZero_at {l : List UInt8} {k : Nat} {c : UInt8} (h : l[k]? = some c) (hz : allZero l) : c = 0 := hz c (List.mem_of_getElem? h)
theorem zero_byte {c : UInt8} (h : (c.toNat : Int) = 0) : c = 0 := by
  apply UInt8.toNat_inj.1; simpa using h
end Go.Wk

set_option linter.unusedVariables false
set_option linter.unusedSimpArgs false
namespace Go.Wk
open Go
theorem num_cons {l : List UInt8} {a m : Nat} {c : UInt8} (h : l[a]? = some c) : num l a (m + 1) = num l (a + 1) m * 256 + c.toNat := by
  have hk : a < l.length := (List.getElem?_eq_some_iff.1 h).1
  have e := List.getElem?_eq_getElem hk
  rw [h] at e
  obtain rfl := Option.some.inj e
  unfold num
  rw [List.drop_eq_getElem_cons hk, List.take_succ_cons, fromLe]
  omega
/-- A number that is read is laid again as it stood. -/
theorem le_num {l : List UInt8} {a n : Nat} (h : a + n ≤ l.length) : le n (num l a n) = (l.drop a).take n := by
  have := le_fromLe ((l.drop a).take n)
  rw [show ((l.drop a).take n).length = n by simp; omega] at this
  exact this
theorem allZero_eq {l : List UInt8} (h : allZero l) : l = zs l.length := List.eq_replicate_iff.2 ⟨rfl, h⟩
theorem zs_allZero (n : Nat) : allZero (zs n) := fun c hc => (List.mem_replicate.1 hc).2
theorem take_add_drop (l : List UInt8) (a b : Nat) : l.take (a + b) = l.take a ++ (l.drop a).take b := List.take_add
theorem wholeB_iff {l : List UInt8} : wholeB l = true ↔ closeL l = l := by unfold wholeB; exact decide_eq_true_iff
/-- A whole line is its first sixty bytes and their sum. -/
theorem whole_line {l b : List UInt8} (hb : b.length ≤ 60) (hl : l.length = 64) : lineL b = l ↔ wholeB l = true ∧ l.take 60 = b ++ zs (60 - b.length) := by
  rw [wholeB_iff, lineL_row hb]
  have e60 : (b ++ zs (60 - b.length)).length = 60 := by simp [zs]; omega
  constructor
  · intro h
    have h60 : l.take 60 = b ++ zs (60 - b.length) := by rw [← h, List.take_append_of_le_length (by omega), List.take_of_length_le (by omega)]
    refine ⟨?_, h60⟩
    unfold closeL
    rw [h60, h]
  · rintro ⟨h1, h2⟩
    unfold closeL at h1
    rw [h2] at h1
    exact h1
theorem line_take {b : List UInt8} (hb : b.length ≤ 60) : (lineL b).take 60 = b ++ zs (60 - b.length) := by
  have e60 : (b ++ zs (60 - b.length)).length = 60 := by simp [zs]; omega
  rw [lineL_row hb, List.take_append_of_le_length (by omega), List.take_of_length_le (by omega)]
def mark1 : List UInt8 := [70, 85, 82, 82, 79, 87, 48, 49]
theorem super_take {l : List UInt8} (hl : l.length = 64) : l.take 60 = superB (num l 8 4) (num l 12 4) (num l 16 4) ++ zs 40 ↔ (l.drop 0).take 8 = mark1 ∧ allZero ((l.drop 20).take 40) := by
  have e : l.take 60 = l.take 8 ++ (l.drop 8).take 4 ++ (l.drop 12).take 4 ++ (l.drop 16).take 4 ++ (l.drop 20).take 40 := by
    rw [show 60 = 20 + 40 from rfl, take_add_drop, show 20 = 16 + 4 from rfl, take_add_drop, show 16 = 12 + 4 from rfl, take_add_drop, show 12 = 8 + 4 from rfl, take_add_drop]
  rw [e, superB, le_num (by omega), le_num (by omega), le_num (by omega)]
  have h8 : (l.take 8).length = 8 := by simp; omega
  have h40 : ((l.drop 20).take 40).length = 40 := by simp; omega
  constructor
  · intro h
    simp only [List.append_assoc] at h
    have h1 := List.append_inj h (by rw [h8]; rfl)
    refine ⟨by rw [List.drop_zero, h1.1]; rfl, ?_⟩
    have h2 := List.append_cancel_left (List.append_cancel_left (List.append_cancel_left h1.2))
    rw [h2]; exact zs_allZero 40
  · rintro ⟨h1, h2⟩
    rw [List.drop_zero] at h1
    have h3 := allZero_eq h2
    rw [h40] at h3
    rw [h1, h3]; rfl
def SupLine (l : List UInt8) : Prop := lineL (superB (num l 8 4) (num l 12 4) (num l 16 4)) = l
instance (l : List UInt8) : Decidable (SupLine l) := by unfold SupLine; infer_instance
theorem supLine_iff {l : List UInt8} (hl : l.length = 64) : SupLine l ↔ wholeB l = true ∧ (l.drop 0).take 8 = mark1 ∧ allZero ((l.drop 20).take 40) := by
  unfold SupLine
  rw [whole_line (by rw [superB_length]; decide) hl, superB_length, show 60 - 20 = 40 from rfl, super_take hl]
end Go.Wk

set_option linter.unusedVariables false
set_option linter.unusedSimpArgs false
namespace Go.Wk
open Go
theorem seal_nat {a : BitVec 64} {v : BitVec 32} (h : v ≠ 0) : (sealW a v).toNat = (checkW a v).toNat * 4294967296 + v.toNat := by
  rw [seal_some h, BitVec.toNat_or, BitVec.toNat_shiftLeft, BitVec.toNat_setWidth, BitVec.toNat_setWidth]
  have h1 := (checkW a v).isLt
  have h2 := v.isLt
  rw [Nat.mod_eq_of_lt (a := (checkW a v).toNat) (by omega), Nat.mod_eq_of_lt (a := v.toNat) (by omega), Nat.shiftLeft_eq, Nat.mod_eq_of_lt (by omega), Nat.mul_comm]
  rw [show 2 ^ 32 * (checkW a v).toNat ||| v.toNat = 2 ^ 32 * (checkW a v).toNat + v.toNat from (Nat.two_pow_add_eq_or_of_lt (by omega) _).symm]
theorem low32 (x : BitVec 64) : IntKind.u32.wrap ((x.toNat : Int).tmod 4294967296) = ((x.setWidth 32).toNat : Int) := by
  rw [Int.tmod_eq_emod_of_nonneg (by omega), wrap_u32 (by omega) (by omega), BitVec.toNat_setWidth]; omega
theorem low64 (x : BitVec 64) : IntKind.i64.wrap ((x.toNat : Int).tmod 4294967296) = ((x.setWidth 32).toNat : Int) := by
  rw [Int.tmod_eq_emod_of_nonneg (by omega), wrap_i64 (by omega) (by omega), BitVec.toNat_setWidth]; omega
theorem i64_32 (v : BitVec 32) : IntKind.i64.wrap (v.toNat : Int) = (v.toNat : Int) := wrap_i64 (by omega) (by have := v.isLt; omega)
theorem words_eq {a b : List (BitVec 64)} : decide ((a.map fun x => (x.toNat : Int)) = b.map fun x => (x.toNat : Int)) = decide (a = b) := by
  rw [decide_eq_decide]
  constructor
  · intro h
    refine List.map_inj_right (f := fun x : BitVec 64 => (x.toNat : Int)) ?_ |>.1 h
    intro x y hxy
    apply BitVec.eq_of_toNat_eq
    exact Int.ofNat_inj.1 hxy
  · rintro rfl; rfl
theorem run_equal_words {P : Program} {t e n : Nat} (ht : P.underlying t = some (.array n e)) (he : P.underlying e = some (.int .u64)) (hA : ∀ w, (isAgg e).run P w = .ok false w) (hs : ∀ w, (sizeOf e).run P w = .ok 1 w)
    (az bs : List (BitVec 64)) (ha : az.length = n) (hb : bs.length = n) (w : World) : (Op.equal t (.agg (az.map b64).toArray) (.agg (bs.map b64).toArray)).run P w = .ok (decide (az = bs)) w := by
  have := run_equal_arr ht he hA hs (az.map fun x => (x.toNat : Int)) (bs.map fun x => (x.toNat : Int)) (by simpa using ha) (by simpa using hb) w
  rw [words_eq, List.map_map, List.map_map] at this
  exact this
theorem run_same_words {P : Program} {t e n : Nat} (ht : P.underlying t = some (.array n e)) (he : P.underlying e = some (.int .u64)) (hA : ∀ w, (isAgg e).run P w = .ok false w) (hs : ∀ w, (sizeOf e).run P w = .ok 1 w)
    (az : List (BitVec 64)) (ha : az.length = n) (w : World) : (Op.equal t (.agg (az.map b64).toArray) (.agg (az.map b64).toArray)).run P w = .ok true w := by
  have := run_equal_words ht he hA hs az az ha ha w
  rw [decide_eq_true rfl] at this
  exact this
end Go.Wk

set_option linter.unusedVariables false
set_option linter.unusedSimpArgs false
namespace Go.Wk
open Go
/-! ### bit by bit -/
def one (b : Bool) : BitVec 32 := if b then 1 else 0
def crcB (r : BitVec 32) (bs : List Bool) : BitVec 32 := bs.foldl (fun r b => bit (r ^^^ one b)) r
def byteBits (c : UInt8) : List Bool := (List.range 8).map fun i => c.toNat.testBit i
def toBits (l : List UInt8) : List Bool := l.flatMap byteBits
theorem toBits_length (l : List UInt8) : (toBits l).length = 8 * l.length := by
  induction l with
  | nil => rfl
  | cons c l ih => simp only [toBits, List.flatMap_cons, List.length_append, List.length_cons] at *; rw [ih]; simp [byteBits]; omega
theorem crcB_append (r : BitVec 32) (a b : List Bool) : crcB r (a ++ b) = crcB (crcB r a) b := List.foldl_append
theorem bit_zero : bit 0 = 0 := by decide
theorem bitN_zero : ∀ n, bitN n 0 = 0
  | 0 => rfl
  | n + 1 => by simp only [bitN, bitN_zero n, bit_zero]
theorem bitN_add : ∀ (m n : Nat) (x : BitVec 32), bitN (m + n) x = bitN m (bitN n x)
  | 0, n, x => by simp [bitN]
  | m + 1, n, x => by rw [show m + 1 + n = (m + n) + 1 by omega]; simp only [bitN, bitN_add m n]
/-- The bit that is shifted out can be told from what comes out. -/
theorem bit_top (x : BitVec 32) : (bit x).getLsbD 31 = x.getLsbD 0 := by
  rw [bit_eq, BitVec.getLsbD_xor, BitVec.getLsbD_ushiftRight]
  cases h : x.getLsbD 0
  · simp
  · simp [poly]
theorem bit_inj {x y : BitVec 32} (h : bit x = bit y) : x = y := by
  have h0 : x.getLsbD 0 = y.getLsbD 0 := by rw [← bit_top, ← bit_top, h]
  have h1 : x >>> 1 = y >>> 1 := by
    rw [bit_eq, bit_eq, h0] at h
    have := congrArg (· ^^^ (if y.getLsbD 0 then poly else 0)) h
    simpa [BitVec.xor_assoc] using this
  apply BitVec.eq_of_getLsbD_eq
  intro i hi
  rcases Nat.eq_zero_or_pos i with rfl | hp
  · exact h0
  · have := congrArg (fun z : BitVec 32 => z.getLsbD (i - 1)) h1
    simp only [BitVec.getLsbD_ushiftRight] at this
    rwa [show 1 + (i - 1) = i by omega] at this
theorem bitN_inj : ∀ n {x y : BitVec 32}, bitN n x = bitN n y → x = y
  | 0, x, y, h => h
  | n + 1, x, y, h => bitN_inj n (bit_inj h)
theorem bitN_ne {n : Nat} {x : BitVec 32} (h : x ≠ 0) : bitN n x ≠ 0 := fun e => h (bitN_inj n (by rw [e, bitN_zero]))
theorem one_lsb (i : Nat) : (1 : BitVec 32).getLsbD i = decide (i = 0) := by
  have : (1 : BitVec 32) = 1#32 := rfl
  rw [this, BitVec.getLsbD_one]; simp
theorem shl_lsb (m i : Nat) (hi : i < 32) : ((1 : BitVec 32) <<< m).getLsbD i = decide (i = m) := by
  rw [BitVec.getLsbD_shiftLeft, one_lsb, Bool.eq_iff_iff]
  simp only [Bool.and_eq_true, decide_eq_true_eq, Bool.not_eq_true', decide_eq_false_iff_not]
  omega
theorem bit_shl (m : Nat) (h : m + 1 < 32) : bit ((1 : BitVec 32) <<< (m + 1)) = (1 : BitVec 32) <<< m := by
  rw [bit_eq]
  have h0 : ((1 : BitVec 32) <<< (m + 1)).getLsbD 0 = false := by rw [shl_lsb _ _ (by decide)]; simp
  rw [h0]
  apply BitVec.eq_of_getLsbD_eq
  intro i hi
  rw [shl_lsb m i hi, BitVec.getLsbD_xor, BitVec.getLsbD_ushiftRight]
  simp only [Bool.false_eq_true, if_false]
  rcases Nat.lt_or_ge (1 + i) 32 with h2 | h2
  · rw [shl_lsb _ _ h2]
    have : (0 : BitVec 32).getLsbD i = false := by simp
    rw [this, Bool.xor_false, decide_eq_decide]; omega
  · rw [BitVec.getLsbD_of_ge _ _ h2]
    have : (0 : BitVec 32).getLsbD i = false := by simp
    rw [this, Bool.xor_false]; simp; omega
theorem bitN_succ (n : Nat) (r : BitVec 32) : bitN (n + 1) r = bitN n (bit r) := bitN_add n 1 r
theorem bitN_top : ∀ n, n < 32 → bitN n ((1 : BitVec 32) <<< n) = 1
  | 0, _ => rfl
  | n + 1, h => by rw [bitN_succ, bit_shl n h, bitN_top n (by omega)]
theorem crcB_xor : ∀ (a b : List Bool) (r s : BitVec 32), a.length = b.length → crcB (r ^^^ s) (List.zipWith Bool.xor a b) = crcB r a ^^^ crcB s b
  | [], [], r, s, _ => rfl
  | x :: a, y :: b, r, s, h => by
    simp only [List.zipWith_cons_cons, crcB, List.foldl_cons]
    have e : bit (r ^^^ s ^^^ one (Bool.xor x y)) = bit (r ^^^ one x) ^^^ bit (s ^^^ one y) := by
      rw [← bit_xor]
      congr 1
      have : one (Bool.xor x y) = one x ^^^ one y := by cases x <;> cases y <;> decide
      rw [this, BitVec.xor_assoc, BitVec.xor_assoc, ← BitVec.xor_assoc s, BitVec.xor_comm s (one x), BitVec.xor_assoc (one x)]
    rw [e]
    exact crcB_xor a b _ _ (by simpa using h)
theorem crcB_cons (r : BitVec 32) (b : Bool) (bs : List Bool) : crcB r (b :: bs) = crcB (bit (r ^^^ one b)) bs := rfl
theorem crcB_zeros : ∀ (n : Nat) (r : BitVec 32), crcB r (List.replicate n false) = bitN n r
  | 0, r => rfl
  | n + 1, r => by
    rw [List.replicate_succ, crcB_cons, crcB_zeros n, bitN_succ, show r ^^^ one false = r from by simp [one]]
/-- n bits, the lowest first, taken in one behind the other: as n steps over their number. -/
theorem crcB_bits (F : BitVec 32) : ∀ (n k : Nat), k + n ≤ 32 → crcB 0 ((List.range n).map fun i => F.getLsbD (k + i)) = bitN n ((F >>> k) &&& BitVec.ofNat 32 (2 ^ n - 1))
  | 0, k, h => by simp [crcB, bitN]
  | n + 1, k, h => by
    rw [List.range_succ, List.map_append, crcB_append, crcB_bits F n k (by omega)]
    have e : one (F.getLsbD (k + n)) = bitN n (if F.getLsbD (k + n) then (1 : BitVec 32) <<< n else 0) := by
      cases F.getLsbD (k + n)
      · exact (bitN_zero n).symm
      · exact (bitN_top n (by omega)).symm
    show bit (bitN n _ ^^^ one (F.getLsbD (k + n))) = _
    rw [e, ← bitN_xor]
    show bitN (n + 1) _ = bitN (n + 1) _
    congr 1
    apply BitVec.eq_of_getLsbD_eq
    intro i hi
    have hm : ∀ (q : Nat), q ≤ 32 → (BitVec.ofNat 32 (2 ^ q - 1)).getLsbD i = decide (i < q) := fun q hq => by
      rw [BitVec.getLsbD_ofNat, Nat.testBit_two_pow_sub_one]
      simp [hi]
    rw [BitVec.getLsbD_xor, BitVec.getLsbD_and, BitVec.getLsbD_and, hm n (by omega), hm (n + 1) (by omega), BitVec.getLsbD_ushiftRight]
    by_cases hin : i < n
    · have : i < n + 1 := by omega
      simp only [hin, this, decide_true, Bool.and_true]
      have : (if F.getLsbD (k + n) then (1 : BitVec 32) <<< n else 0).getLsbD i = false := by
        split
        · rw [BitVec.getLsbD_shiftLeft]; simp [hin]
        · simp
      rw [this, Bool.xor_false]
    · by_cases hen : i = n
      · subst hen
        simp only [Nat.lt_irrefl, decide_false, Bool.and_false, Bool.false_xor, Nat.lt_succ_self, decide_true, Bool.and_true]
        cases hb : F.getLsbD (k + i)
        · simp
        · simp only [if_true]; rw [BitVec.getLsbD_shiftLeft]; simp [hi]
      · have h1 : ¬ i < n + 1 := by omega
        simp only [hin, h1, decide_false, Bool.and_false, Bool.false_xor]
        split
        · rw [shl_lsb _ _ hi]; simp; omega
        · simp
/-- A burst that begins at bit 'a' of n bits, as far as it goes. -/
def burst (a : Nat) (F : BitVec 32) (n : Nat) : List Bool := (List.range n).map fun p => decide (a ≤ p) && decide (p < a + 32) && F.getLsbD (p - a)
theorem burst_parts (a b : Nat) (F : BitVec 32) : burst a F (a + 32 + b) = List.replicate a false ++ ((List.range 32).map fun i => F.getLsbD (0 + i)) ++ List.replicate b false := by
  apply List.ext_getElem
  · simp [burst]; omega
  · intro p h1 h2
    have hp : p < a + 32 + b := by simpa [burst] using h1
    simp only [burst, List.getElem_map, List.getElem_range]
    rcases Nat.lt_or_ge p a with h | h
    · rw [List.getElem_append_left (by simp; omega), List.getElem_append_left (by simp; omega)]
      simp [show ¬ a ≤ p by omega]
    · rcases Nat.lt_or_ge p (a + 32) with h3 | h3
      · rw [List.getElem_append_left (by simp; omega), List.getElem_append_right (by simp; omega)]
        simp [h, h3]
      · rw [List.getElem_append_right (by simp; omega)]
        simp [show ¬ p < a + 32 by omega]
theorem burst_tells {a b : Nat} {F : BitVec 32} (hF : F ≠ 0) : crcB 0 (burst a F (a + 32 + b)) ≠ 0 := by
  rw [burst_parts, crcB_append, crcB_append, crcB_zeros a, bitN_zero a, crcB_bits F 32 0 (by omega), crcB_zeros b]
  refine bitN_ne (bitN_ne ?_)
  rw [show (F >>> 0) &&& BitVec.ofNat 32 (2 ^ 32 - 1) = F from by
    apply BitVec.eq_of_getLsbD_eq
    intro i hi
    rw [BitVec.getLsbD_and, BitVec.getLsbD_ofNat, Nat.testBit_two_pow_sub_one]
    simp [hi]]
  exact hF
end Go.Wk

set_option linter.unusedVariables false
set_option linter.unusedSimpArgs false
namespace Go.Wk
open Go
theorem crcB_from (r : BitVec 32) (bs : List Bool) : crcB r bs = bitN bs.length r ^^^ crcB 0 bs := by
  have h := crcB_xor (List.replicate bs.length false) bs r 0 (by simp)
  rw [crcB_zeros] at h
  rw [← h]
  have e1 : r ^^^ (0 : BitVec 32) = r := by simp
  have e2 : List.zipWith Bool.xor (List.replicate bs.length false) bs = bs := by
    induction bs with
    | nil => rfl
    | cons b bs ih => rw [List.length_cons, List.replicate_succ, List.zipWith_cons_cons, Bool.false_xor, ih (by
        have := crcB_xor (List.replicate bs.length false) bs r 0 (by simp)
        rw [crcB_zeros] at this; exact this)]
  rw [e1, e2]
theorem mask_low {F : BitVec 32} {n : Nat} (h : F.toNat < 2 ^ n) (hn : n ≤ 32) : (F >>> 0) &&& BitVec.ofNat 32 (2 ^ n - 1) = F := by
  apply BitVec.eq_of_getLsbD_eq
  intro i hi
  rw [BitVec.getLsbD_and, BitVec.getLsbD_ofNat, Nat.testBit_two_pow_sub_one]
  by_cases hin : i < n
  · simp [hi, hin]
  · have : F.getLsbD i = false := by
      rw [BitVec.getLsbD]
      exact Nat.testBit_lt_two_pow (Nat.lt_of_lt_of_le h (Nat.pow_le_pow_right (by decide) (by omega)))
    simp [hin, this]
theorem crcB_num {n : Nat} (hn : n ≤ 32) {v : Nat} (hv : v < 2 ^ n) (r : BitVec 32) : crcB r ((List.range n).map v.testBit) = bitN n (r ^^^ BitVec.ofNat 32 v) := by
  have hv32 : v < 2 ^ 32 := Nat.lt_of_lt_of_le hv (Nat.pow_le_pow_right (by decide) hn)
  have hF : (BitVec.ofNat 32 v).toNat = v := by rw [BitVec.toNat_ofNat, Nat.mod_eq_of_lt hv32]
  have e : (List.range n).map v.testBit = (List.range n).map fun i => (BitVec.ofNat 32 v).getLsbD (0 + i) := by
    apply List.map_congr_left
    intro i hi
    rw [Nat.zero_add, BitVec.getLsbD, hF]
  rw [crcB_from, bitN_xor, e, crcB_bits _ n 0 (by omega), mask_low (by rw [hF]; exact hv) hn]
  simp
theorem crc_bits (r : BitVec 32) (l : List UInt8) : crc r l = crcB r (toBits l) := by
  induction l generalizing r with
  | nil => rfl
  | cons c l ih =>
    have e : toBits (c :: l) = byteBits c ++ toBits l := by simp [toBits]
    rw [e, crcB_append, show crcB r (byteBits c) = crcByte r c from by
      rw [← crcByte_bits]; exact crcB_num (by decide) (by have := c.toNat_lt; omega) r, ← ih]
    rfl
theorem toBits_le : ∀ (n v : Nat), toBits (le n v) = (List.range (8 * n)).map v.testBit
  | 0, v => rfl
  | n + 1, v => by
    have e : toBits (le (n + 1) v) = byteBits (UInt8.ofNat v) ++ toBits (le n (v / 256)) := by simp [toBits, le]
    rw [e, toBits_le n (v / 256), show 8 * (n + 1) = 8 + 8 * n by omega, List.range_add, List.map_append, List.map_map]
    congr 1
    · apply List.map_congr_left
      intro i hi
      have hi8 : i < 8 := List.mem_range.1 hi
      rw [UInt8.toNat_ofNat', show 2 ^ 8 = 2 ^ 8 from rfl, Nat.testBit_mod_two_pow]
      simp [hi8]
    · apply List.map_congr_left
      intro i hi
      show (v / 256).testBit i = v.testBit (8 + i)
      rw [show 256 = 2 ^ 8 from rfl, Nat.testBit_div_two_pow, Nat.add_comm]
/-- A burst of up to 32 bits anywhere in a row of bytes changes their sum. -/
theorem burst_crc {n V F a : Nat} (hF : F ≠ 0) (h32 : F < 2 ^ 32) (ha : a + 32 ≤ 8 * n) (r : BitVec 32) : crc r (le n V) ≠ crc r (le n (V ^^^ (F <<< a))) := by
  have hF' : (BitVec.ofNat 32 F).toNat = F := by rw [BitVec.toNat_ofNat, Nat.mod_eq_of_lt h32]
  have e : (List.range (8 * n)).map (V ^^^ (F <<< a)).testBit = List.zipWith Bool.xor ((List.range (8 * n)).map V.testBit) (burst a (BitVec.ofNat 32 F) (a + 32 + (8 * n - (a + 32)))) := by
    rw [show a + 32 + (8 * n - (a + 32)) = 8 * n by omega]
    unfold burst
    rw [List.zipWith_map, List.zipWith_self]
    apply List.map_congr_left
    intro p hp
    rw [Nat.testBit_xor, Nat.testBit_shiftLeft, BitVec.getLsbD, hF']
    congr 1
    by_cases h1 : a ≤ p
    · by_cases h2 : p < a + 32
      · simp [h1, h2]
      · have : F.testBit (p - a) = false := Nat.testBit_lt_two_pow (Nat.lt_of_lt_of_le h32 (Nat.pow_le_pow_right (by decide) (by omega)))
        simp [this]
    · simp [h1]
  intro h
  rw [crc_bits, crc_bits, toBits_le, toBits_le, e] at h
  have hx := crcB_xor ((List.range (8 * n)).map V.testBit) (burst a (BitVec.ofNat 32 F) (a + 32 + (8 * n - (a + 32)))) r 0 (by simp [burst]; omega)
  rw [show r ^^^ (0 : BitVec 32) = r from by simp] at hx
  rw [hx] at h
  have hne := burst_tells (a := a) (b := 8 * n - (a + 32)) (F := BitVec.ofNat 32 F) (fun e0 => hF (by rw [← hF', e0]; rfl))
  apply hne
  have := congrArg (fun z => crcB r ((List.range (8 * n)).map V.testBit) ^^^ z) h
  simp only [← BitVec.xor_assoc, BitVec.xor_self, BitVec.zero_xor] at this
  exact this.symm
theorem le_append : ∀ (n m u v : Nat), u < 256 ^ n → le n u ++ le m v = le (n + m) (u + 256 ^ n * v)
  | 0, m, u, v, h => by
    have : u = 0 := by simpa using h
    subst this; simp [le]
  | n + 1, m, u, v, h => by
    rw [show n + 1 + m = (n + m) + 1 by omega]
    simp only [le, List.cons_append]
    have h1 : u / 256 < 256 ^ n := by rw [Nat.pow_succ] at h; exact Nat.div_lt_of_lt_mul (by rw [Nat.mul_comm]; exact h)
    rw [le_append n m (u / 256) v h1]
    have e : u + 256 ^ (n + 1) * v = u + 256 * (256 ^ n * v) := by rw [Nat.pow_succ, Nat.mul_comm (256 ^ n) 256, Nat.mul_assoc]
    rw [e]
    congr 1
    · rw [← ofNat_mod (u + 256 * (256 ^ n * v)), ← ofNat_mod u]; congr 1; omega
    · congr 1; omega
end Go.Wk

set_option linter.unusedVariables false
set_option linter.unusedSimpArgs false
namespace Go.Wk
open Go
theorem seal_low (a : BitVec 64) (v : BitVec 32) : (sealW a v).setWidth 32 = v := by
  by_cases h : v = 0
  · rw [seal_zero h, h]; rfl
  · apply BitVec.eq_of_toNat_eq
    rw [BitVec.toNat_setWidth, seal_nat h]
    have := v.isLt
    omega
theorem seal_some_ne {a : BitVec 64} {v : BitVec 32} (h : v ≠ 0) : sealW a v ≠ 0 := fun e => h (by rw [← seal_low a v, e]; rfl)
theorem seal_iff {a w : BitVec 64} (hv : w.setWidth 32 ≠ 0) : sealW a (w.setWidth 32) = w ↔ crc (~~~0) (le 16 (a.toNat + 2 ^ 64 * w.toNat)) = bitN 32 (~~~0) := by
  have hvn : (w.setWidth 32).toNat = w.toNat % 2 ^ 32 := BitVec.toNat_setWidth ..
  have hw := w.isLt
  have e8 : le 8 w.toNat = le 4 (w.setWidth 32).toNat ++ le 4 (w.toNat / 2 ^ 32) := by
    rw [le_append 4 4 _ _ (by rw [hvn]; omega), hvn]; congr 1; omega
  have e16 : le 16 (a.toNat + 2 ^ 64 * w.toNat) = (le 8 a.toNat ++ le 4 (w.setWidth 32).toNat) ++ le 4 (w.toNat / 2 ^ 32) := by
    rw [List.append_assoc, ← e8, le_append 8 8 _ _ (by have := a.isLt; omega)]
  have hc : w.toNat / 2 ^ 32 < 2 ^ 32 := by omega
  rw [e16, crc_append, crc_bits _ (le 4 _), toBits_le, show 8 * 4 = 32 from rfl, crcB_num (by decide) hc]
  have hs : checkW a (w.setWidth 32) = ~~~ crc (~~~0) (le 8 a.toNat ++ le 4 (w.setWidth 32).toNat) := rfl
  generalize crc (~~~0) (le 8 a.toNat ++ le 4 (w.setWidth 32).toNat) = s at *
  constructor
  · intro h
    have hn := congrArg BitVec.toNat h
    rw [seal_nat hv] at hn
    have h1 : (checkW a (w.setWidth 32)).toNat = w.toNat / 2 ^ 32 := by have := (w.setWidth 32).isLt; omega
    have h2 : BitVec.ofNat 32 (w.toNat / 2 ^ 32) = ~~~ s := by rw [← hs, ← h1]; simp
    rw [h2]
    congr 1
    rw [← BitVec.xor_allOnes, ← BitVec.xor_assoc, BitVec.xor_self, BitVec.zero_xor]; rfl
  · intro h
    have h1 := bitN_inj 32 h
    have h2 : BitVec.ofNat 32 (w.toNat / 2 ^ 32) = ~~~ s := by
      have := congrArg (fun z => s ^^^ z) h1
      simp only [← BitVec.xor_assoc, BitVec.xor_self, BitVec.zero_xor] at this
      rw [this, show (~~~0 : BitVec 32) = BitVec.allOnes 32 from rfl, BitVec.xor_allOnes]
    apply BitVec.eq_of_toNat_eq
    rw [seal_nat hv, hs, ← h2, BitVec.toNat_ofNat, Nat.mod_eq_of_lt hc, hvn]
    omega
theorem add_xor_high {a x y : Nat} (k : Nat) (h : a < 2 ^ k) : (a + 2 ^ k * x) ^^^ (y <<< k) = a + 2 ^ k * (x ^^^ y) := by
  apply Nat.eq_of_testBit_eq
  intro i
  rw [Nat.testBit_xor, Nat.testBit_shiftLeft, Nat.add_comm a, Nat.add_comm a, Nat.testBit_two_pow_mul_add _ h, Nat.testBit_two_pow_mul_add _ h]
  by_cases hi : i < k
  · simp [hi, show ¬ i ≥ k by omega]
  · simp [hi, show i ≥ k by omega]
theorem add_xor_low {a b x : Nat} (k : Nat) (h : a < 2 ^ k) (hb : b < 2 ^ k) : (a + 2 ^ k * x) ^^^ b = (a ^^^ b) + 2 ^ k * x := by
  apply Nat.eq_of_testBit_eq
  intro i
  rw [Nat.testBit_xor, Nat.add_comm a, Nat.add_comm (a ^^^ b), Nat.testBit_two_pow_mul_add _ h, Nat.testBit_two_pow_mul_add _ (Nat.xor_lt_two_pow h hb)]
  by_cases hi : i < k
  · simp [hi]
  · have : b.testBit i = false := Nat.testBit_lt_two_pow (Nat.lt_of_lt_of_le hb (Nat.pow_le_pow_right (by decide) (by omega)))
    simp [hi, this]
theorem low_ne {a w : BitVec 64} (hw : sealW a (w.setWidth 32) = w) (h0 : w ≠ 0) : w.setWidth 32 ≠ 0 := fun e => h0 (by rw [← hw, e, seal_zero rfl])
/-- A word with a run of up to 32 bits turned holds nothing, unless it is all zero. -/
theorem word_told {a w w' : BitVec 64} {F sh : Nat} (hw : sealW a (w.setWidth 32) = w) (h0 : w ≠ 0) (h0' : w' ≠ 0) (hF : F ≠ 0) (h32 : F < 2 ^ 32) (hsh : sh ≤ 32) (hx : w'.toNat = w.toNat ^^^ (F <<< sh)) : sealW a (w'.setWidth 32) ≠ w' := by
  intro h
  by_cases hv : w'.setWidth 32 = 0
  · rw [hv, seal_zero rfl] at h; exact h0' h.symm
  · have h1 := (seal_iff (low_ne hw h0)).1 hw
    have h2 := (seal_iff hv).1 h
    have hb := burst_crc (n := 16) (V := a.toNat + 2 ^ 64 * w.toNat) (F := F) (a := 64 + sh) hF h32 (by omega) (~~~0)
    rw [Nat.add_comm 64 sh, Nat.shiftLeft_add, add_xor_high 64 a.isLt, ← hx] at hb
    exact hb (h1.trans h2.symm)
/-- A word holds nothing at another address near. -/
theorem place_told {a a' w : BitVec 64} (hw : sealW a (w.setWidth 32) = w) (h0 : w ≠ 0) (hne : a ≠ a') (ha : a.toNat < 2 ^ 32) (ha' : a'.toNat < 2 ^ 32) : sealW a' (w.setWidth 32) ≠ w := by
  intro h
  have hv := low_ne hw h0
  have h1 := (seal_iff hv).1 hw
  have h2 := (seal_iff hv).1 h
  have hx : a.toNat ^^^ a'.toNat < 2 ^ 32 := Nat.xor_lt_two_pow ha ha'
  have hb := burst_crc (n := 16) (V := a.toNat + 2 ^ 64 * w.toNat) (F := a.toNat ^^^ a'.toNat) (a := 0) (fun e => hne (BitVec.eq_of_toNat_eq (by
    have : a.toNat ^^^ (a.toNat ^^^ a'.toNat) = a.toNat ^^^ 0 := by rw [e]
    rw [← Nat.xor_assoc, Nat.xor_self, Nat.zero_xor, Nat.xor_zero] at this
    exact this.symm))) hx (by omega) (~~~0)
  rw [Nat.shiftLeft_zero, add_xor_low 64 a.isLt (by omega), ← Nat.xor_assoc, Nat.xor_self, Nat.zero_xor] at hb
  exact hb (h1.trans h2.symm)
end Go.Wk

set_option linter.unusedVariables false
set_option linter.unusedSimpArgs false
namespace Go.Wk
open Go
/-- Bytes with a run of bits turned, from bit a on. -/
def spoilL (l : List UInt8) (a F : Nat) : List UInt8 := le l.length (fromLe l ^^^ (F <<< a))
theorem spoilL_length (l : List UInt8) (a F : Nat) : (spoilL l a F).length = l.length := le_length ..
theorem spoilL_zero (l : List UInt8) (a : Nat) : spoilL l a 0 = l := by unfold spoilL; rw [Nat.zero_shiftLeft, Nat.xor_zero, le_fromLe]
theorem le_getElem {n V k : Nat} (h : k < (le n V).length) : (le n V)[k] = UInt8.ofNat (V / 256 ^ k) := by
  have := le_get n V k (by simpa [le_length] using h)
  rw [List.getElem?_eq_getElem h] at this
  exact Option.some.inj this
theorem byte_ext {x y : Nat} (h : ∀ i, i < 8 → x.testBit i = y.testBit i) : UInt8.ofNat x = UInt8.ofNat y := by
  apply UInt8.toNat_inj.1
  rw [UInt8.toNat_ofNat', UInt8.toNat_ofNat']
  apply Nat.eq_of_testBit_eq
  intro i
  rw [Nat.testBit_mod_two_pow, Nat.testBit_mod_two_pow]
  by_cases hi : i < 8
  · rw [h i hi]
  · simp [hi]
/-- One bit turned in its byte. -/
theorem le_flip {n V p : Nat} {q : UInt8} (hq : (le n V)[p / 8]? = some q) : (le n V).set (p / 8) (UInt8.ofNat (q.toNat ^^^ (1 <<< (p % 8)))) = le n (V ^^^ (1 <<< p)) := by
  have hp : p / 8 < (le n V).length := (List.getElem?_eq_some_iff.1 hq).1
  have hpn : p / 8 < n := by simpa [le_length] using hp
  rw [List.getElem?_eq_getElem hp, le_getElem hp] at hq
  have hq' := Option.some.inj hq
  apply List.ext_getElem
  · simp [le_length]
  · intro k h1 h2
    rw [List.getElem_set, le_getElem h2]
    have e256 : 256 ^ k = 2 ^ (8 * k) := (pow_256 k).symm
    split
    · rename_i hk
      subst hk
      rw [← hq', UInt8.toNat_ofNat']
      apply byte_ext
      intro i hi
      rw [Nat.testBit_xor, Nat.testBit_mod_two_pow, e256, Nat.testBit_div_two_pow, Nat.testBit_div_two_pow, Nat.testBit_xor, Nat.testBit_shiftLeft, Nat.testBit_shiftLeft]
      simp only [hi, decide_true, Bool.true_and]
      congr 1
      by_cases h3 : p % 8 ≤ i
      · by_cases h4 : i = p % 8
        · subst h4
          rw [show p % 8 - p % 8 = 0 by omega, show p % 8 + 8 * (p / 8) - p = 0 by omega]
          simp [show p % 8 + 8 * (p / 8) ≥ p by omega]
        · rw [Nat.testBit_lt_two_pow (show 1 < 2 ^ (i - p % 8) from Nat.one_lt_two_pow (by omega)), Nat.testBit_lt_two_pow (show 1 < 2 ^ (i + 8 * (p / 8) - p) from Nat.one_lt_two_pow (by omega))]
          simp
      · simp [show ¬ i ≥ p % 8 by omega, show ¬ i + 8 * (p / 8) ≥ p by omega]
    · rename_i hk
      rw [le_getElem (by simpa using h1)]
      apply byte_ext
      intro i hi
      rw [e256, Nat.testBit_div_two_pow, Nat.testBit_div_two_pow, Nat.testBit_xor, Nat.testBit_shiftLeft]
      by_cases h3 : i + 8 * k ≥ p
      · rw [Nat.testBit_lt_two_pow (show 1 < 2 ^ (i + 8 * k - p) from Nat.one_lt_two_pow (by omega))]
        simp
      · simp [h3]
theorem mod_succ_bit (F i : Nat) : F % 2 ^ (i + 1) = (F % 2 ^ i) ^^^ (if F.testBit i then 1 <<< i else 0) := by
  apply Nat.eq_of_testBit_eq
  intro j
  rw [Nat.testBit_xor, Nat.testBit_mod_two_pow, Nat.testBit_mod_two_pow]
  by_cases hb : F.testBit i = true
  · rw [if_pos hb, Nat.testBit_shiftLeft]
    by_cases h1 : j < i
    · simp [h1, show j < i + 1 by omega, show ¬ j ≥ i by omega]
    · by_cases h2 : j = i
      · subst h2; simp [hb]
      · simp [h1, show ¬ j < i + 1 by omega, show j ≥ i by omega, Nat.testBit_lt_two_pow (show 1 < 2 ^ (j - i) from Nat.one_lt_two_pow (by omega))]
  · rw [if_neg hb, Nat.zero_testBit, Bool.xor_false]
    by_cases h2 : j = i
    · subst h2; simp at hb; simp [hb]
    · by_cases h1 : j < i
      · simp [h1, show j < i + 1 by omega]
      · simp [h1, show ¬ j < i + 1 by omega]
/-- The run so far. -/
theorem spoil_step1 {l : List UInt8} {a F i : Nat} {q : UInt8} (hb : F.testBit i = true) (hq : (spoilL l a (F % 2 ^ i))[(a + i) / 8]? = some q) :
    (spoilL l a (F % 2 ^ i)).set ((a + i) / 8) (UInt8.ofNat (q.toNat ^^^ (1 <<< ((a + i) % 8)))) = spoilL l a (F % 2 ^ (i + 1)) := by
  unfold spoilL at hq ⊢
  rw [le_flip hq, mod_succ_bit F i, if_pos hb, Nat.shiftLeft_xor_distrib, ← Nat.shiftLeft_add, ← Nat.xor_assoc, Nat.add_comm i a]
theorem spoil_step0 {l : List UInt8} {a F i : Nat} (hb : F.testBit i = false) : spoilL l a (F % 2 ^ (i + 1)) = spoilL l a (F % 2 ^ i) := by
  rw [mod_succ_bit F i, if_neg (by rw [hb]; decide), Nat.xor_zero]
theorem spoil_done {l : List UInt8} {a F : Nat} (h : F < 2 ^ 32) : spoilL l a (F % 2 ^ 32) = spoilL l a F := by rw [Nat.mod_eq_of_lt h]
theorem spoil_none (l : List UInt8) (a F : Nat) : spoilL l a (F % 2 ^ 0) = l := by rw [Nat.pow_zero, Nat.mod_one, spoilL_zero]
/-- A line is whole if the sum of all of it is the one that is left of whole ones. -/
theorem whole_crc {l : List UInt8} (hl : l.length = 64) : wholeB l = true ↔ crc (~~~0) l = bitN 32 (~~~0) := by
  have e : l = l.take 60 ++ le 4 (fromLe (l.drop 60)) := by
    conv => lhs; rw [← List.take_append_drop 60 l]
    congr 1
    have : (l.drop 60).length = 4 := by simp [hl]
    rw [← this, le_fromLe]
  have hd : fromLe (l.drop 60) < 2 ^ 32 := by
    have := fromLe_lt (l.drop 60)
    rw [show (l.drop 60).length = 4 from by simp [hl]] at this
    exact this
  generalize hD : fromLe (l.drop 60) = D at *
  rw [wholeB_iff]
  have hs : sumOn 0 (l.take 60) = ~~~ crc (~~~0) (l.take 60) := rfl
  have hc : crc (~~~0) l = bitN 32 (crc (~~~0) (l.take 60) ^^^ BitVec.ofNat 32 D) := by
    conv => lhs; rw [e]
    rw [crc_append, crc_bits _ (le 4 _), toBits_le, show 8 * 4 = 32 from rfl, crcB_num (by decide) hd]
  rw [hc]
  have hcl : closeL l = l.take 60 ++ le 4 (sumOn 0 (l.take 60)).toNat := rfl
  rw [hcl]
  constructor
  · intro h
    have h1 : le 4 (sumOn 0 (l.take 60)).toNat = le 4 D := List.append_cancel_left (h.trans e)
    have h2 : (sumOn 0 (l.take 60)).toNat = D := by
      have := congrArg fromLe h1
      rwa [fromLe_le _ _ (sumOn 0 (l.take 60)).isLt, fromLe_le _ _ hd] at this
    have h3 : BitVec.ofNat 32 D = ~~~ crc (~~~0) (l.take 60) := by rw [← hs, ← h2]; simp
    rw [h3]
    generalize crc (~~~0) (l.take 60) = s
    congr 1
    rw [← BitVec.xor_allOnes, ← BitVec.xor_assoc, BitVec.xor_self, BitVec.zero_xor]; rfl
  · intro h
    have h1 := bitN_inj 32 h
    have h2 : BitVec.ofNat 32 D = ~~~ crc (~~~0) (l.take 60) := by
      generalize crc (~~~0) (l.take 60) = s at h1 ⊢
      have := congrArg (fun z => s ^^^ z) h1
      simp only [← BitVec.xor_assoc, BitVec.xor_self, BitVec.zero_xor] at this
      rw [this, show (~~~0 : BitVec 32) = BitVec.allOnes 32 from rfl, BitVec.xor_allOnes]
    rw [hs, ← h2, BitVec.toNat_ofNat, Nat.mod_eq_of_lt hd]
    exact e.symm
/-- A whole line with a run of up to 32 bits turned isn't whole. -/
theorem spoil_told {l : List UInt8} {a F : Nat} (hl : l.length = 64) (hw : wholeB l = true) (hF : F ≠ 0) (h32 : F < 2 ^ 32) (ha : a + 32 ≤ 512) : wholeB (spoilL l a F) = false := by
  rw [← Bool.not_eq_true]
  intro h
  have h1 := (whole_crc hl).1 hw
  have h2 := (whole_crc (by rw [spoilL_length, hl])).1 h
  have hb := burst_crc (n := 64) (V := fromLe l) (F := F) (a := a) hF h32 (by omega) (~~~0)
  have e : le 64 (fromLe l) = l := by rw [← hl, le_fromLe]
  have e2 : spoilL l a F = le 64 (fromLe l ^^^ (F <<< a)) := by unfold spoilL; rw [hl]
  rw [e, ← e2] at hb
  exact hb (h1.trans h2.symm)
theorem flip8 : ∀ (s : Fin 8) (q : Fin 256), ib .xor .u8 (q.1 : Int) (IntKind.u8.wrap (1 * 2 ^ min s.1 8)) = ((UInt8.ofNat (q.1 ^^^ (1 <<< s.1))).toNat : Int) := by decide +kernel
theorem flip_byte (q : UInt8) {s : Nat} (h : s < 8) : ib .xor .u8 (q.toNat : Int) (IntKind.u8.wrap (1 * 2 ^ min s 8)) = ((UInt8.ofNat (q.toNat ^^^ (1 <<< s))).toNat : Int) := flip8 ⟨s, h⟩ ⟨q.toNat, q.toNat_lt⟩
theorem bit_at (F : BitVec 32) {i : Nat} : (((F >>> i) &&& 1).toNat : Int) = 1 ↔ F.toNat.testBit i = true := by
  have e : ((F >>> i) &&& 1).toNat = F.toNat / 2 ^ i % 2 := by
    rw [BitVec.toNat_and, BitVec.toNat_ushiftRight, Nat.shiftRight_eq_div_pow]
    show F.toNat / 2 ^ i &&& 1 = _
    rw [Nat.and_one_is_mod]
  rw [e, Nat.testBit_eq_decide_div_mod_eq, decide_eq_true_eq]
  omega
end Go.Wk
