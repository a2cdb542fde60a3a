/- Sealed words as numbers; headers. No program in sight. -/
import Derived.Test.YtoiebgnmknbkjaaDoorPi
set_option linter.unusedVariables false
set_option linter.unusedSimpArgs false
namespace Go.Wk
open Go
theorem seal_nat {a : BitVec 64} {v : BitVec 32} (h : v ≠ 0) : (sealW a v).toNat = (checkW a v).toNat * 4294967296 + v.toNat := by
  rw [seal_some h, BitVec.toNat_or, BitVec.toNat_shiftLeft, BitVec.toNat_setWidth, BitVec.toNat_setWidth]
  have h1 := (checkW a v).isLt
  have h2 := v.isLt
  rw [Nat.mod_eq_of_lt (a := (checkW a v).toNat) (by omega), Nat.mod_eq_of_lt (a := v.toNat) (by omega), Nat.shiftLeft_eq, Nat.mod_eq_of_lt (by omega), Nat.mul_comm]
  rw [show 2 ^ 32 * (checkW a v).toNat ||| v.toNat = 2 ^ 32 * (checkW a v).toNat + v.toNat from (Nat.two_pow_add_eq_or_of_lt (by omega) _).symm]
theorem low32 (x : BitVec 64) : IntKind.u32.wrap ((x.toNat : Int).tmod 4294967296) = ((x.setWidth 32).toNat : Int) := by
  rw [Int.tmod_eq_emod_of_nonneg (by omega), wrap_u32 (by omega) (by omega), BitVec.toNat_setWidth]; omega
theorem low64 (x : BitVec 64) : IntKind.i64.wrap ((x.toNat : Int).tmod 4294967296) = ((x.setWidth 32).toNat : Int) := by
  rw [Int.tmod_eq_emod_of_nonneg (by omega), wrap_i64 (by omega) (by omega), BitVec.toNat_setWidth]; omega
theorem i64_32 (v : BitVec 32) : IntKind.i64.wrap (v.toNat : Int) = (v.toNat : Int) := wrap_i64 (by omega) (by have := v.isLt; omega)
theorem words_eq {a b : List (BitVec 64)} : decide ((a.map fun x => (x.toNat : Int)) = b.map fun x => (x.toNat : Int)) = decide (a = b) := by
  rw [decide_eq_decide]
  constructor
  · intro h
    refine List.map_inj_right (f := fun x : BitVec 64 => (x.toNat : Int)) ?_ |>.1 h
    intro x y hxy
    apply BitVec.eq_of_toNat_eq
    exact Int.ofNat_inj.1 hxy
  · rintro rfl; rfl
theorem run_equal_words {P : Program} {t e n : Nat} (ht : P.underlying t = some (.array n e)) (he : P.underlying e = some (.int .u64)) (hA : ∀ w, (isAgg e).run P w = .ok false w) (hs : ∀ w, (sizeOf e).run P w = .ok 1 w)
    (as bs : List (BitVec 64)) (ha : as.length = n) (hb : bs.length = n) (w : World) : (Op.equal t (.agg (as.map b64).toArray) (.agg (bs.map b64).toArray)).run P w = .ok (decide (as = bs)) w := by
  have := run_equal_arr ht he hA hs (as.map fun x => (x.toNat : Int)) (bs.map fun x => (x.toNat : Int)) (by simpa using ha) (by simpa using hb) w
  rw [words_eq, List.map_map, List.map_map] at this
  exact this
theorem run_same_words {P : Program} {t e n : Nat} (ht : P.underlying t = some (.array n e)) (he : P.underlying e = some (.int .u64)) (hA : ∀ w, (isAgg e).run P w = .ok false w) (hs : ∀ w, (sizeOf e).run P w = .ok 1 w)
    (as : List (BitVec 64)) (ha : as.length = n) (w : World) : (Op.equal t (.agg (as.map b64).toArray) (.agg (as.map b64).toArray)).run P w = .ok true w := by
  have := run_equal_words ht he hA hs as as ha ha w
  rw [decide_eq_true rfl] at this
  exact this
end Go.Wk
