/- Parts of the proof, joined: see the law's text. -/
import Derived.Test.YthdmlpjhcalliaaGreatDoorY2
import Derived.Test.YthdmlpjhcalliaaGreatDoorY1
set_option linter.unusedVariables false
set_option linter.unusedSimpArgs false
namespace Go.Proofs.YthdmlpjhcalliaaGreatDoor
open Go Go.Wk
theorem and1 (x : BitVec 32) : ib .and .u32 (x.toNat : Int) 1 = ((x &&& 1).toNat : Int) := and32 x 1
theorem xorp (x : BitVec 32) : ib .xor .u32 (x.toNat : Int) 3988292384 = ((x ^^^ poly).toNat : Int) := xor32 x poly
theorem bit_T {r : BitVec 32} (h : (((r &&& 1).toNat : Int) == 1) = true) : bit r = (r >>> 1) ^^^ poly := by
  have h' : ((r &&& 1).toNat : Int) = 1 := by simpa using h
  have : (r &&& 1) = 1 := by apply BitVec.eq_of_toNat_eq; show (r &&& 1).toNat = 1; omega
  unfold bit; rw [if_pos this]
theorem bit_F {r : BitVec 32} (h : (((r &&& 1).toNat : Int) == 1) = false) : bit r = r >>> 1 := by
  have : ¬ (r &&& 1) = 1 := by intro e; rw [e] at h; simp at h
  unfold bit; rw [if_neg this]
theorem rsumOn_p (s : BitVec 32) (A : Option Addr) (l : List UInt8) (c : Nat) (w : World) (hb : Bytes w A l) (hlen : l.length ≤ 140737488355328) :
    PureC Tryz.prog 109 [b32 s, .slice A l.length c] (b32 (sumOn s l)) w := by
 refine enter0 Tryz.func109 rfl Tryz.ntmps109 rfl ?_
 simp only [envOf]
 refine tR (tA rfl rfl (tE (tR (tM rfl rfl (tV (Val.com rfl) rfl (tA rfl rfl (tE (At.seq (tR (tA rfl rfl (tE (At.block ?_))))))))))))
 skip
 refine At.loop (σ := Nat) (fun k => k ≤ l.length) (fun k => [(0, b32 s), (1, .slice A l.length c), (5, b32 (crc (~~~s) (l.take k))), (6, .int .i64 k)]) (fun k => []) (fun k => l.length - k) 0 (Nat.zero_le _) (Sub.cons rfl (Sub.cons rfl (Sub.cons (congrArg (fun z => some (Value.int IntKind.u32 z)) (com32 s)) (Sub.cons rfl Sub.nil)))) (List.Perm.refl _) ?_
 intro k hs
 refine At.seq (tR (tM rfl rfl (tM rfl rfl (tV (Val.len (bt := #[]) Tryz.underlying45 rfl) rfl (tV (Val.bin rfl rfl rfl) rfl (tE ?_))))))
 refine At.cond rfl (fun h1 => ?_) (fun h1 => ?_)
 ·have hk : k < l.length := by simpa using h1
  obtain ⟨c', hc'⟩ : ∃ c', l[k]? = some c' := ⟨_, List.getElem?_eq_getElem hk⟩
  obtain ⟨b, o, rfl, hcell⟩ := hb k c' hc'
  refine At.skipC (At.thenN (At.seq (At.block (tR (tM rfl rfl (tM rfl rfl (tM rfl rfl (tV (Val.indexSl (o + k) (by simp) Tryz.underlying45 Tryz.sizeOf5 rfl rfl (by omega) (by omega)) rfl (tV (Val.loadOld Tryz.isAgg5 rfl hcell (fun h => h)) rfl (tV (Val.conv Tryz.underlying5 Tryz.underlying41 rfl) rfl (tV (Val.bin rfl rfl rfl) rfl ?_)))))))))))
  rw [wrap_u32_nat, xor32]
  refine tA rfl rfl (tE (tR (tA rfl rfl (tE (At.block ?_)))))
  skip
  refine At.loop (σ := Nat) (fun j => j ≤ 8) (fun j => [(0, b32 s), (1, .slice (some ⟨b, o, none⟩) l.length c), (5, b32 (bitN j (crc (~~~s) (l.take k) ^^^ BitVec.ofNat 32 c'.toNat))), (6, .int .i64 k), (7, .int .i64 j)]) (fun j => []) (fun j => 8 - j) 0 (by omega) (Sub.cons rfl (Sub.cons rfl (Sub.cons rfl (Sub.cons rfl (Sub.cons rfl Sub.nil))))) (List.Perm.refl _) ?_
  intro j hs
  refine At.seq (tR (tM rfl rfl (tV (Val.bin rfl rfl rfl) rfl (tE ?_))))
  refine At.cond rfl (fun h2 => ?_) (fun h2 => ?_)
  ·have hj : j < 8 := by have := h2; simp at this; omega
   refine At.skipC (At.thenN (At.seq (At.block (tR (tM rfl rfl (tV (Val.bin rfl rfl rfl) rfl ?_))))))
   rw [and1]
   refine tA rfl rfl (tE (tR (tM rfl rfl (tV (Val.shr rfl rfl (by decide)) rfl ?_))))
   rw [show ((bitN j (crc (~~~s) (l.take k) ^^^ BitVec.ofNat 32 c'.toNat)).toNat : Int).fdiv (2 ^ min (1 : Int).toNat IntKind.u32.bits) = ((bitN j (crc (~~~s) (l.take k) ^^^ BitVec.ofNat 32 c'.toNat)) >>> 1).toNat from shr32 _ 1 (by decide)]
   refine tA rfl rfl (tE (tR (tM rfl rfl (tV (Val.bin rfl rfl rfl) rfl (tE ?_)))))
   refine At.cond rfl (fun h3 => ?_) (fun h3 => ?_)
   ·refine At.region (tM rfl rfl (tV (Val.bin rfl rfl rfl) rfl ?_))
    rw [xorp]
    refine tA rfl rfl (At.nil (At.blkN (At.thenN (At.region (tM rfl rfl (tV (Val.bin rfl rfl rfl) rfl (tA rfl rfl (tE ?_))))))))
    exact At.again (j + 1) (by omega) (by omega) (Sub.cons rfl (Sub.cons rfl (Sub.cons (congrArg (fun z => some (Value.int IntKind.u32 z)) (by rw [show bitN (j + 1) (crc (~~~s) (l.take k) ^^^ BitVec.ofNat 32 c'.toNat) = bit (bitN j (crc (~~~s) (l.take k) ^^^ BitVec.ofNat 32 c'.toNat)) from rfl, bit_T ‹_›])) (Sub.cons rfl (Sub.cons (congrArg (fun z => some (Value.int IntKind.i64 z)) (wrap_i64 (by omega) (by omega))) Sub.nil))))) (List.Perm.refl _)
   ·refine At.skipC (At.blkN (At.thenN (At.region (tM rfl rfl (tV (Val.bin rfl rfl rfl) rfl (tA rfl rfl (tE ?_)))))))
    exact At.again (j + 1) (by omega) (by omega) (Sub.cons rfl (Sub.cons rfl (Sub.cons (congrArg (fun z => some (Value.int IntKind.u32 z)) (by rw [show bitN (j + 1) (crc (~~~s) (l.take k) ^^^ BitVec.ofNat 32 c'.toNat) = bit (bitN j (crc (~~~s) (l.take k) ^^^ BitVec.ofNat 32 c'.toNat)) from rfl, bit_F ‹_›])) (Sub.cons rfl (Sub.cons (congrArg (fun z => some (Value.int IntKind.i64 z)) (wrap_i64 (by omega) (by omega))) Sub.nil))))) (List.Perm.refl _)
  ·have hj : j = 8 := by have := h2; simp at this; omega
   refine At.exitC (At.thenX (At.thenX (At.blkX (At.blkN (At.thenN (At.region (tM rfl rfl (tV (Val.bin rfl rfl rfl) rfl (tA rfl rfl (tE ?_))))))))))
   exact At.again (k + 1) (by omega) (by omega) (Sub.cons rfl (Sub.cons rfl (Sub.cons (congrArg (fun z => some (Value.int IntKind.u32 z)) (by rw [hj, crcByte_bits, crc_take_succ _ _ _ _ hc'])) (Sub.cons (congrArg (fun z => some (Value.int IntKind.i64 z)) (wrap_i64 (by omega) (by omega))) Sub.nil)))) (List.Perm.refl _)
 ·have hk : k = l.length := by have := h1; simp at this; omega
  refine At.exitC (At.thenX (At.thenX (At.blkX (At.thenN (tR (tM rfl rfl (tV (Val.com rfl) rfl (tA rfl rfl (tE (At.retC (At.ret1 (.inl rfl) rfl rfl rfl (fun w hw => ?_))))))))))))
  exact ⟨by rw [com32, hk, List.take_length]; rfl, hw.mod⟩
theorem rsum_p (A : Option Addr) (l : List UInt8) (c : Nat) (w : World) (hb : Bytes w A l) (hlen : l.length ≤ 140737488355328) :
    PureC Tryz.prog 88 [.slice A l.length c] (b32 (sumOn 0 l)) w := by
 refine enter0 Tryz.func88 rfl Tryz.ntmps88 rfl ?_
 simp only [envOf]
 refine tR (tA rfl rfl (tE (tR (tM rfl rfl (At.callP (fun w hw => rsumOn_p 0 _ _ _ w (hb.mod hw.mod) hlen) Tryz.call109 rfl rfl (tA rfl rfl (tE (At.retC (At.ret1 (.inl rfl) rfl rfl rfl (fun w hw => ?_))))))))))
 exact ⟨rfl, hw.mod⟩
theorem rsum_n (A : Option Addr) (l : List UInt8) (n c : Nat) (w : World) (hn : l.length = n) (hb : Bytes w A l) (hlen : n ≤ 140737488355328) : PureC Tryz.prog 88 [.slice A n c] (b32 (sumOn 0 l)) w := by
  subst hn; exact rsum_p A l c w hb hlen
theorem lay_rem (n : Nat) : IntKind.u8.wrap ((n : Int).tmod 256) = ((UInt8.ofNat n).toNat : Int) := by
  rw [show (n : Int).tmod 256 = ((n % 256 : Nat) : Int) from by rw [Int.tmod_eq_emod_of_nonneg (by omega)]; omega, wrap_u8_nat, ofNat_mod]
theorem lay_quo (n : Nat) (h : n < 18446744073709551616) : IntKind.u64.wrap ((n : Int).tdiv 256) = ((n / 256 : Nat) : Int) := by
  rw [show (n : Int).tdiv 256 = ((n / 256 : Nat) : Int) from by rw [Int.tdiv_eq_ediv_of_nonneg (by omega)]; omega, wrap_u64 (by omega) (by omega)]
theorem rlay_p (v : Value) (l : List UInt8) (x cnt : Nat) (w : World) (ho : w.ownsRow 0 5 1 v l.length (l.map bv)) (hx : x < 18446744073709551616) (hc : cnt ≤ 8) (hlen : l.length + cnt ≤ 140737488355328) :
    RowUpd Tryz.prog 57 [v, .int .u64 (x : Int), .int .i64 (cnt : Int)] v 5 1 l.length (l.map bv) (l ++ le cnt x).length ((l ++ le cnt x).map bv) w := by
 refine enter (feet [brow 5 v l]) [brow 5 v l] Tryz.func57 rfl Tryz.ntmps57 rfl (Rep.one ho) ?_
 simp only [envOf]
 refine tR (tA rfl rfl (tE (At.seq (tR (tA rfl rfl (tE (At.block ?_)))))))
 skip
 refine At.loop (σ := Nat × Value) (fun s => s.1 ≤ cnt) (fun s => [(0, s.2), (1, .int .u64 ((x / 256 ^ s.1 : Nat) : Int)), (2, .int .i64 (cnt : Int)), (7, .int .i64 (s.1 : Int))]) (fun s => [brow 5 s.2 (l ++ (le cnt x).take s.1)]) (fun s => cnt - s.1) (0, v) (Nat.zero_le _) (Sub.cons rfl (Sub.cons (congrArg (fun z => some (Value.int IntKind.u64 z)) (by simp)) (Sub.cons rfl (Sub.cons rfl Sub.nil)))) (by simp [List.take_zero]) ?_
 intro s hs
 obtain ⟨k, vk⟩ := s
 dsimp only at hs ⊢
 refine At.seq (tR (tM rfl rfl (tM rfl rfl (tV (Val.bin rfl rfl rfl) rfl (tE ?_)))))
 refine At.cond rfl (fun h1 => ?_) (fun h1 => ?_)
 ·have hk : k < cnt := by have := h1; simp at this; omega
  refine At.skipC (At.thenN (At.seq (At.block (tR (tM rfl rfl (tM rfl rfl (tV (Val.rem rfl rfl (by decide)) rfl (tV (Val.conv Tryz.underlying34 Tryz.underlying5 rfl) rfl ?_))))))))
  rw [lay_rem]
  refine At.buildSl (fun a ha => by simp only [List.map_toArray, List.map_cons, List.map_nil, ha.eval (x := (.tmp 16)) rfl]; try rfl) (bs_45_1 _ ) rfl (fun b2 => (At.append (i := 1) (sz := 1) (by_ := 1) Tryz.underlying45 info_5 rfl rfl rfl rfl rfl rfl rfl rfl rfl (fun w hw j u hj => by rw [Nat.zero_add]; exact ((hw.blk (i := 0) rfl).cell j).trans hj) (by simp [Value.oneCell']) (by rw [List.length_append, List.length_take, le_length]; omega) (by rw [List.length_append, List.length_take, le_length]; omega) rfl (fun v3 => ?_)))
  simp only [sc0, scS]
  refine At.drop 0 ?_
  simp only [ec0, ecS]
  refine tA rfl rfl (At.nil ?_)
  rw [brow_snoc, List.append_assoc, ← le_take_succ _ _ _ hk]
  refine At.thenN (At.region (tM rfl rfl (tV (Val.quo rfl rfl (by decide)) rfl ?_)))
  rw [lay_quo _ (Nat.lt_of_le_of_lt (Nat.div_le_self _ _) hx), Nat.div_div_eq_div_mul, ← Nat.pow_succ]
  refine tA rfl rfl (At.nil (At.blkN (At.thenN (At.region (tM rfl rfl (tV (Val.bin rfl rfl rfl) rfl (tA rfl rfl (tE ?_))))))))
  exact At.again (k + 1, v3) (show k + 1 ≤ cnt by omega) (by dsimp only; omega) (Sub.cons rfl (Sub.cons rfl (Sub.cons rfl (Sub.cons (congrArg (fun z => some (Value.int IntKind.i64 z)) (wrap_i64 (by omega) (by omega))) Sub.nil)))) (List.Perm.refl _)
 ·have hk : k = cnt := by have := h1; simp at this; omega
  refine At.exitC (At.thenX (At.thenX (At.blkX (At.thenN (tR (tM rfl rfl (tA rfl rfl (tE (At.retC (At.ret1 (.inl rfl) rfl rfl rfl (fun w hw => ?_)))))))))))
  exact ⟨vk, rfl, by have := hw; rw [hk, le_take_all] at this; exact this⟩
end Go.Proofs.YthdmlpjhcalliaaGreatDoor
namespace Go.Wk
open Go
def lineL (b : List UInt8) : List UInt8 := closeL (b ++ zs (64 - b.length))
theorem lineL_length {b : List UInt8} (h : b.length ≤ 60) : (lineL b).length = 64 := closeL_length (by simp [zs]; omega)
theorem zs_append (m n : Nat) : zs m ++ zs n = zs (m + n) := by simp [zs]
theorem zs_succ (n : Nat) : zs n ++ [0] = zs (n + 1) := zs_append n 1
theorem lineL_take {b : List UInt8} (h : b.length ≤ 60) : (b ++ zs (64 - b.length)).take 60 = b ++ zs (60 - b.length) := by
  rw [show 64 - b.length = (60 - b.length) + 4 by omega, ← zs_append, ← List.append_assoc, List.take_append_of_le_length (by simp [zs]; omega), List.take_of_length_le (by simp [zs]; omega)]
theorem lineL_row {b : List UInt8} (h : b.length ≤ 60) : lineL b = (b ++ zs (60 - b.length)) ++ le 4 (sumOn 0 (b ++ zs (60 - b.length))).toNat := by
  unfold lineL closeL; rw [lineL_take h]
def superB (p i c : Nat) : List UInt8 := [70, 85, 82, 82, 79, 87, 48, 49] ++ le 4 p ++ le 4 i ++ le 4 c
theorem superB_length (p i c : Nat) : (superB p i c).length = 20 := by simp [superB, le_length]
def zline : Value := .agg ((zs 64).map bv).toArray
def lineV (b : List UInt8) : Value := .agg ((lineL b).map bv).toArray
theorem toU64 {n : Int} (h0 : 0 ≤ n) (h1 : n < 18446744073709551616) : IntKind.u64.wrap n = ((n.toNat : Nat) : Int) := by rw [wrap_u64 h0 h1]; omega
end Go.Wk
namespace Go.Wk
open Go
def num (l : List UInt8) (at_ n : Nat) : Nat := fromLe ((l.drop at_).take n)
theorem fromLe_append : ∀ (a b : List UInt8), fromLe (a ++ b) = fromLe a + 256 ^ a.length * fromLe b
  | [], b => by simp [fromLe]
  | c :: a, b => by
    simp only [List.cons_append, fromLe, fromLe_append a b, List.length_cons, Nat.pow_succ]
    rw [Nat.mul_add, Nat.add_assoc, ← Nat.mul_assoc, Nat.mul_comm 256 (256 ^ a.length)]
theorem num_zero (l : List UInt8) (at_ : Nat) : num l at_ 0 = 0 := by simp [num, fromLe]
theorem num_succ {l : List UInt8} {at_ k : Nat} {c : UInt8} (h : l[at_ + k]? = some c) : num l at_ (k + 1) = num l at_ k + 256 ^ k * c.toNat := by
  have hk : at_ + k < l.length := (List.getElem?_eq_some_iff.1 h).1
  have h1 : (l.drop at_)[k]? = some c := by rw [List.getElem?_drop]; exact h
  unfold num
  rw [List.take_add_one, h1]
  simp only [Option.toList_some]
  rw [fromLe_append]
  simp only [List.length_take, List.length_drop, fromLe]
  rw [show min k (l.length - at_) = k by omega]
  simp
theorem num_lt {l : List UInt8} (at_ n : Nat) : num l at_ n < 256 ^ n := by
  have h := fromLe_lt ((l.drop at_).take n)
  exact Nat.lt_of_lt_of_le h (Nat.pow_le_pow_right (by decide) (by simp; omega))
theorem num_or {l : List UInt8} {at_ k : Nat} {c : UInt8} (h : l[at_ + k]? = some c) (hk : k < 8) :
    ib .or .u64 ((num l at_ k : Nat) : Int) (IntKind.u64.wrap ((c.toNat : Int) * 2 ^ min (8 * (k : Int)).toNat IntKind.u64.bits)) = ((num l at_ (k + 1) : Nat) : Int) := by
  have e8 : (8 * (k : Int)).toNat = 8 * k := by omega
  have h1 : num l at_ k < 256 ^ k := num_lt at_ k
  have hp : 256 ^ k = 2 ^ (8 * k) := by rw [Nat.pow_mul]
  have hle : 256 ^ (k + 1) ≤ 18446744073709551616 := by
    rw [show (18446744073709551616 : Nat) = 256 ^ 8 from rfl]; exact Nat.pow_le_pow_right (by decide) (by omega)
  have h2 : num l at_ (k + 1) < 256 ^ (k + 1) := num_lt at_ (k + 1)
  have h3 := num_succ h
  have hx : (BitVec.ofNat 64 (num l at_ k)).toNat = num l at_ k := by rw [BitVec.toNat_ofNat]; omega
  have hy : (BitVec.ofNat 64 (256 ^ k * c.toNat)).toNat = 256 ^ k * c.toNat := by rw [BitVec.toNat_ofNat]; omega
  have e : IntKind.u64.wrap ((c.toNat : Int) * 2 ^ min (8 * (k : Int)).toNat IntKind.u64.bits) = ((256 ^ k * c.toNat : Nat) : Int) := by
    rw [e8, show min (8 * k) IntKind.u64.bits = 8 * k from Nat.min_eq_left (by show 8 * k ≤ 64; omega)]
    rw [show (c.toNat : Int) * 2 ^ (8 * k) = ((256 ^ k * c.toNat : Nat) : Int) from by rw [hp]; push_cast; rw [Int.mul_comm]]
    exact wrap_u64 (by omega) (by omega)
  rw [e, ← hx, ← hy, or64, BitVec.toNat_or, hx, hy, h3]
  congr 1
  rw [hp, Nat.or_comm, ← Nat.two_pow_add_eq_or_of_lt (by rw [← hp]; exact h1), Nat.add_comm]
theorem cut_bytes {w : World} {L o c at_ n : Nat} {l : List UInt8} (hb : Bytes w (some ⟨L, o, none⟩) l) (hc : l.length ≤ c) (hn : at_ + n ≤ l.length) :
    Bytes w (some ⟨L, if c = at_ then o else o + at_ * 1, none⟩) ((l.drop at_).take n) := fun k u hk => by
  have hk' : k < ((l.drop at_).take n).length := (List.getElem?_eq_some_iff.1 hk).1
  have hkn : k < n := by simp at hk'; omega
  have h1 : l[at_ + k]? = some u := by
    rw [List.getElem?_take, if_pos hkn, List.getElem?_drop] at hk; exact hk
  obtain ⟨b, o', hbo, hcell⟩ := hb _ _ h1
  simp only [Option.some.injEq, Addr.mk.injEq] at hbo
  obtain ⟨rfl, rfl, _⟩ := hbo
  rw [if_neg (by omega)]
  exact ⟨L, o + at_ * 1, rfl, by rw [← hcell]; congr 2; omega⟩
abbrev eyeC (L o m c at_ : Nat) : List Value := [.slice (some ⟨L, o, none⟩) m c, .int .i64 (at_ : Nat)]
def allZero (l : List UInt8) : Prop := ∀ c ∈ l, c = 0
instance (l : List UInt8) : Decidable (allZero l) := by unfold allZero; infer_instance
theorem allZero_at {l : List UInt8} {k : Nat} {c : UInt8} (h : l[k]? = some c) (hz : allZero l) : c = 0 := hz c (List.mem_of_getElem? h)
theorem zero_byte {c : UInt8} (h : (c.toNat : Int) = 0) : c = 0 := by
  apply UInt8.toNat_inj.1; simpa using h
end Go.Wk
namespace Go.Wk
open Go
theorem num_cons {l : List UInt8} {a m : Nat} {c : UInt8} (h : l[a]? = some c) : num l a (m + 1) = num l (a + 1) m * 256 + c.toNat := by
  have hk : a < l.length := (List.getElem?_eq_some_iff.1 h).1
  have e := List.getElem?_eq_getElem hk
  rw [h] at e
  obtain rfl := Option.some.inj e
  unfold num
  rw [List.drop_eq_getElem_cons hk, List.take_succ_cons, fromLe]
  omega
theorem le_num {l : List UInt8} {a n : Nat} (h : a + n ≤ l.length) : le n (num l a n) = (l.drop a).take n := by
  have := le_fromLe ((l.drop a).take n)
  rw [show ((l.drop a).take n).length = n by simp; omega] at this
  exact this
theorem allZero_eq {l : List UInt8} (h : allZero l) : l = zs l.length := List.eq_replicate_iff.2 ⟨rfl, h⟩
theorem zs_allZero (n : Nat) : allZero (zs n) := fun c hc => (List.mem_replicate.1 hc).2
theorem take_add_drop (l : List UInt8) (a b : Nat) : l.take (a + b) = l.take a ++ (l.drop a).take b := List.take_add
theorem wholeB_iff {l : List UInt8} : wholeB l = true ↔ closeL l = l := by unfold wholeB; exact decide_eq_true_iff
theorem whole_line {l b : List UInt8} (hb : b.length ≤ 60) (hl : l.length = 64) : lineL b = l ↔ wholeB l = true ∧ l.take 60 = b ++ zs (60 - b.length) := by
  rw [wholeB_iff, lineL_row hb]
  have e60 : (b ++ zs (60 - b.length)).length = 60 := by simp [zs]; omega
  constructor
  · intro h
    have h60 : l.take 60 = b ++ zs (60 - b.length) := by rw [← h, List.take_append_of_le_length (by omega), List.take_of_length_le (by omega)]
    refine ⟨?_, h60⟩
    unfold closeL
    rw [h60, h]
  · rintro ⟨h1, h2⟩
    unfold closeL at h1
    rw [h2] at h1
    exact h1
def mark1 : List UInt8 := [70, 85, 82, 82, 79, 87, 48, 49]
theorem super_take {l : List UInt8} (hl : l.length = 64) : l.take 60 = superB (num l 8 4) (num l 12 4) (num l 16 4) ++ zs 40 ↔ (l.drop 0).take 8 = mark1 ∧ allZero ((l.drop 20).take 40) := by
  have e : l.take 60 = l.take 8 ++ (l.drop 8).take 4 ++ (l.drop 12).take 4 ++ (l.drop 16).take 4 ++ (l.drop 20).take 40 := by
    rw [show 60 = 20 + 40 from rfl, take_add_drop, show 20 = 16 + 4 from rfl, take_add_drop, show 16 = 12 + 4 from rfl, take_add_drop, show 12 = 8 + 4 from rfl, take_add_drop]
  rw [e, superB, le_num (by omega), le_num (by omega), le_num (by omega)]
  have h8 : (l.take 8).length = 8 := by simp; omega
  have h40 : ((l.drop 20).take 40).length = 40 := by simp; omega
  constructor
  · intro h
    simp only [List.append_assoc] at h
    have h1 := List.append_inj h (by rw [h8]; rfl)
    refine ⟨by rw [List.drop_zero, h1.1]; rfl, ?_⟩
    have h2 := List.append_cancel_left (List.append_cancel_left (List.append_cancel_left h1.2))
    rw [h2]; exact zs_allZero 40
  · rintro ⟨h1, h2⟩
    rw [List.drop_zero] at h1
    have h3 := allZero_eq h2
    rw [h40] at h3
    rw [h1, h3]; rfl
def SupLine (l : List UInt8) : Prop := lineL (superB (num l 8 4) (num l 12 4) (num l 16 4)) = l
instance (l : List UInt8) : Decidable (SupLine l) := by unfold SupLine; infer_instance
theorem supLine_iff {l : List UInt8} (hl : l.length = 64) : SupLine l ↔ wholeB l = true ∧ (l.drop 0).take 8 = mark1 ∧ allZero ((l.drop 20).take 40) := by
  unfold SupLine
  rw [whole_line (by rw [superB_length]; decide) hl, superB_length, show 60 - 20 = 40 from rfl, super_take hl]
end Go.Wk
namespace Go.Wk
open Go
theorem seal_nat {a : BitVec 64} {v : BitVec 32} (h : v ≠ 0) : (sealW a v).toNat = (checkW a v).toNat * 4294967296 + v.toNat := by
  rw [seal_some h, BitVec.toNat_or, BitVec.toNat_shiftLeft, BitVec.toNat_setWidth, BitVec.toNat_setWidth]
  have h1 := (checkW a v).isLt
  have h2 := v.isLt
  rw [Nat.mod_eq_of_lt (a := (checkW a v).toNat) (by omega), Nat.mod_eq_of_lt (a := v.toNat) (by omega), Nat.shiftLeft_eq, Nat.mod_eq_of_lt (by omega), Nat.mul_comm]
  rw [show 2 ^ 32 * (checkW a v).toNat ||| v.toNat = 2 ^ 32 * (checkW a v).toNat + v.toNat from (Nat.two_pow_add_eq_or_of_lt (by omega) _).symm]
theorem low32 (x : BitVec 64) : IntKind.u32.wrap ((x.toNat : Int).tmod 4294967296) = ((x.setWidth 32).toNat : Int) := by
  rw [Int.tmod_eq_emod_of_nonneg (by omega), wrap_u32 (by omega) (by omega), BitVec.toNat_setWidth]; omega
theorem low64 (x : BitVec 64) : IntKind.i64.wrap ((x.toNat : Int).tmod 4294967296) = ((x.setWidth 32).toNat : Int) := by
  rw [Int.tmod_eq_emod_of_nonneg (by omega), wrap_i64 (by omega) (by omega), BitVec.toNat_setWidth]; omega
theorem i64_32 (v : BitVec 32) : IntKind.i64.wrap (v.toNat : Int) = (v.toNat : Int) := wrap_i64 (by omega) (by have := v.isLt; omega)
theorem words_eq {a b : List (BitVec 64)} : decide ((a.map fun x => (x.toNat : Int)) = b.map fun x => (x.toNat : Int)) = decide (a = b) := by
  rw [decide_eq_decide]
  constructor
  · intro h
    refine List.map_inj_right (f := fun x : BitVec 64 => (x.toNat : Int)) ?_ |>.1 h
    intro x y hxy
    apply BitVec.eq_of_toNat_eq
    exact Int.ofNat_inj.1 hxy
  · rintro rfl; rfl
theorem run_equal_words {P : Program} {t e n : Nat} (ht : P.underlying t = some (.array n e)) (he : P.underlying e = some (.int .u64)) (hA : ∀ w, (isAgg e).run P w = .ok false w) (hs : ∀ w, (sizeOf e).run P w = .ok 1 w)
    (az bs : List (BitVec 64)) (ha : az.length = n) (hb : bs.length = n) (w : World) : (Op.equal t (.agg (az.map b64).toArray) (.agg (bs.map b64).toArray)).run P w = .ok (decide (az = bs)) w := by
  have := run_equal_arr ht he hA hs (az.map fun x => (x.toNat : Int)) (bs.map fun x => (x.toNat : Int)) (by simpa using ha) (by simpa using hb) w
  rw [words_eq, List.map_map, List.map_map] at this
  exact this
theorem run_same_words {P : Program} {t e n : Nat} (ht : P.underlying t = some (.array n e)) (he : P.underlying e = some (.int .u64)) (hA : ∀ w, (isAgg e).run P w = .ok false w) (hs : ∀ w, (sizeOf e).run P w = .ok 1 w)
    (az : List (BitVec 64)) (ha : az.length = n) (w : World) : (Op.equal t (.agg (az.map b64).toArray) (.agg (az.map b64).toArray)).run P w = .ok true w := by
  have := run_equal_words ht he hA hs az az ha ha w
  rw [decide_eq_true rfl] at this
  exact this
end Go.Wk
namespace Go.Wk
open Go
def one (b : Bool) : BitVec 32 := if b then 1 else 0
end Go.Wk
namespace Go.Wk
open Go
theorem le_append : ∀ (n m u v : Nat), u < 256 ^ n → le n u ++ le m v = le (n + m) (u + 256 ^ n * v)
  | 0, m, u, v, h => by
    have : u = 0 := by simpa using h
    subst this; simp [le]
  | n + 1, m, u, v, h => by
    rw [show n + 1 + m = (n + m) + 1 by omega]
    simp only [le, List.cons_append]
    have h1 : u / 256 < 256 ^ n := by rw [Nat.pow_succ] at h; exact Nat.div_lt_of_lt_mul (by rw [Nat.mul_comm]; exact h)
    rw [le_append n m (u / 256) v h1]
    have e : u + 256 ^ (n + 1) * v = u + 256 * (256 ^ n * v) := by rw [Nat.pow_succ, Nat.mul_comm (256 ^ n) 256, Nat.mul_assoc]
    rw [e]
    congr 1
    · rw [← ofNat_mod (u + 256 * (256 ^ n * v)), ← ofNat_mod u]; congr 1; omega
    · congr 1; omega
end Go.Wk
namespace Go.Wk
open Go
theorem seal_low (a : BitVec 64) (v : BitVec 32) : (sealW a v).setWidth 32 = v := by
  by_cases h : v = 0
  · rw [seal_zero h, h]; rfl
  · apply BitVec.eq_of_toNat_eq
    rw [BitVec.toNat_setWidth, seal_nat h]
    have := v.isLt
    omega
end Go.Wk
namespace Go.Wk
open Go
end Go.Wk
namespace Go.Proofs.YthdmlpjhcalliaaGreatDoor
open Go Go.Wk
theorem shr_nat (n : Nat) : (n : Int).fdiv (2 ^ min (8 : Int).toNat IntKind.u64.bits) = ((n / 256 : Nat) : Int) := by
  rw [show (2 : Int) ^ min (8 : Int).toNat IntKind.u64.bits = ((256 : Nat) : Int) from rfl, Int.fdiv_eq_ediv_of_nonneg _ (by omega)]; rfl
theorem str_get {s : ByteArray} {k : Nat} {c : UInt8} (h : s.data.toList[k]? = some c) : s[((k : Int)).toNat]? = some c := by
  rw [Int.toNat_natCast]
  have hk : k < s.data.size := by
    rcases Nat.lt_or_ge k s.data.size with h1 | h1
    · exact h1
    · rw [List.getElem?_eq_none (by simpa using h1)] at h; cases h
  rw [getElem?_pos s k hk]
  simp [List.getElem?_eq_getElem (show k < s.data.toList.length by simpa using hk)] at h
  rw [← h]; rfl
theorem List.take_succ_of_get {α : Type} {l : List α} {k : Nat} {c : α} (h : l[k]? = some c) : l.take (k + 1) = l.take k ++ [c] := by rw [List.take_add_one, h]; rfl
theorem penNumber_p (b : Nat) (a : List UInt8) (x n : Nat) (w : World) (hh : Holds w b 100 (penC a)) (ha : a.length + n ≤ 64) (hx : x < 18446744073709551616) (h8 : n ≤ 8) :
    Upd Tryz.prog 54 [.pointer (some ⟨b, 0, none⟩), .int .u64 (x : Int), .int .i64 (n : Int)] (blk b 100 (penC a)) (.tuple #[]) (blk b 100 (penC (a ++ le n x))) w := by
 refine enter (feet [blk b 100 (penC a)]) [blk b 100 (penC a)] Tryz.func54 rfl Tryz.ntmps54 rfl (Rep.one hh) ?_
 simp only [envOf]
 refine tR (tM rfl rfl (tM rfl rfl (tE (At.block ?_))))
 skip
 refine At.loop (σ := Nat) (fun k => k ≤ n) (fun k => [(0, .pointer (some ⟨b, 0, none⟩)), (1, .int .u64 ((x / 256 ^ k : Nat) : Int)), (6, .int .i64 (n : Int)), (7, .int .i64 (k : Int))]) (fun k => [blk b 100 (penC (a ++ (le n x).take k))]) (fun k => n - k) 0 (Nat.zero_le _) (Sub.cons rfl (Sub.cons (congrArg (fun z => some (Value.int IntKind.u64 z)) (by simp)) (Sub.cons rfl (Sub.cons rfl Sub.nil)))) (by simp) ?_
 intro k hs
 refine tR (tV (Val.bin rfl rfl rfl) rfl (tE (At.seq ?_)))
 refine At.cond rfl (fun h1 => ?_) (fun h1 => ?_)
 ·have hk : k < n := by have := h1; simp at this; omega
  have hL : (a ++ (le n x).take k).length = a.length + k := by rw [List.length_append, List.length_take, le_length]; omega
  refine At.skipC (At.thenN (At.seq (At.block (At.seq (At.tail 10 rfl (by decide +kernel) ?_)))))
  simp only [List.take_succ_cons, List.take_zero, List.drop_succ_cons, List.drop_zero]
  refine qM rfl rfl (qM rfl rfl (qV (Val.nilCheck rfl) rfl (qV (Val.field 64 rfl fo_100_1 rfl) rfl (qV (Val.load (i := 0) Tryz.isAgg3 rfl rfl (penC_at (a := (a ++ (le n x).take k)) (by omega))) rfl (qM rfl rfl (qV (Val.conv Tryz.underlying34 Tryz.underlying5 rfl) rfl ?_))))))
  rw [wrap_u8_nat]
  refine qV (Val.nilCheck rfl) rfl (qV (Val.field 0 rfl fo_100_0 rfl) rfl (qV (Val.indexArr ((a ++ (le n x).take k)).length (by omega) Tryz.underlying39 Tryz.sizeOf5 rfl rfl (by omega) (by omega)) rfl (QAt.fin ?_)))
  refine At.store (i := 0) Tryz.sizeOf5 rfl rfl rfl rfl (by rw [penC_len (by omega)]; omega) ?_
  simp only [sc0, scS]
  refine tE (tR (tM rfl rfl (tV (Val.shr rfl rfl (by decide)) rfl ?_)))
  rw [shr_nat]
  refine tA rfl rfl (tE (At.region (tM rfl rfl (tV (Val.nilCheck rfl) rfl (tV (Val.field 64 rfl fo_100_1 rfl) rfl (tV (Val.load (i := 0) Tryz.isAgg3 rfl rfl (penC_at' (a := (a ++ (le n x).take k)) (by omega))) rfl (tV (Val.bin rfl rfl rfl) rfl ?_)))))))
  rw [wrap_i64 (n := (((a ++ (le n x).take k).length : Nat) : Int) + 1) (by omega) (by omega)]
  refine tV (Val.nilCheck rfl) rfl (tV (Val.field 64 rfl fo_100_1 rfl) rfl ?_)
  refine At.store (i := 0) Tryz.sizeOf3 rfl rfl rfl rfl (by rw [List.length_set, penC_len (by omega)]; omega) ?_
  simp only [sc0, scS]
  refine At.nil ?_
  rw [show (((a ++ (le n x).take k).length : Nat) : Int) + 1 = (((a ++ (le n x).take k).length + 1 : Nat) : Int) from by omega, penC_step (c := UInt8.ofNat (x / 256 ^ k)) (by omega), List.append_assoc, ← le_take_succ _ _ _ hk]
  refine At.blkN (At.thenN (At.region (tV (Val.bin rfl rfl rfl) rfl (tM rfl rfl (tE ?_)))))
  exact At.again (k + 1) (by omega) (by omega) (Sub.cons rfl (Sub.cons (congrArg (fun z => some (Value.int IntKind.u64 z)) (by rw [Nat.div_div_eq_div_mul, ← Nat.pow_succ])) (Sub.cons rfl (Sub.cons (congrArg (fun z => some (Value.int IntKind.i64 z)) (wrap_i64 (by omega) (by omega))) Sub.nil)))) (List.Perm.refl _)
 ·have hk : k = n := by have := h1; simp at this; omega
  refine At.exitC (At.thenX (At.thenX (At.blkX (At.ret0 (.inr rfl) rfl rfl  (fun w hw => ?_)))))
  exact ⟨rfl, by have := hw; rw [hk, le_take_all] at this; exact this⟩
theorem penText_p (b : Nat) (a : List UInt8) (s : ByteArray) (w : World) (hh : Holds w b 100 (penC a)) (ha : a.length + s.data.toList.length ≤ 64) :
    Upd Tryz.prog 53 [.pointer (some ⟨b, 0, none⟩), .string s] (blk b 100 (penC a)) (.tuple #[]) (blk b 100 (penC (a ++ s.data.toList))) w := by
 refine enter (feet [blk b 100 (penC a)]) [blk b 100 (penC a)] Tryz.func53 rfl Tryz.ntmps53 rfl (Rep.one hh) ?_
 have hs : s.size = s.data.toList.length := Array.length_toList.symm
 simp only [envOf]
 refine At.mid 15 13 [blkP b 100 (fun cs => cs[64]? = some (.int .i64 (a.length : Nat)))] [blk b 100 (putAt (penC a) (if 64 = a.length then 0 else 0 + a.length * 1) (s.data.toList.map bv))] rfl (by decide +kernel) (by decide) rfl rfl (fun w hw => hw.blkP (i := 0) _ rfl (penC_at (by omega))) (fun w hw => hw.blkP (i := 0) _ rfl (by unfold putAt; rw [List.getElem?_append_right (by simp [penC_len (a := a) (by omega)]; split <;> omega), List.getElem?_drop, ← penC_at (a := a) (by omega)]; congr 1; simp [penC_len (a := a) (by omega)]; split <;> omega)) ?_
 simp only [List.take_succ_cons, List.take_zero, List.drop_succ_cons, List.drop_zero]
 refine PAt.val (Val.move rfl) rfl rfl rfl rfl (PAt.val (Val.nilCheck rfl) rfl rfl rfl rfl (PAt.val (Val.field 64 rfl fo_100_1 rfl) rfl rfl rfl rfl (PAt.val (Val.loadP (i := 0) Tryz.isAgg3 rfl rfl (fun cs h => h)) rfl rfl rfl rfl (PAt.val (Val.move rfl) rfl rfl rfl rfl (PAt.val (Val.nilCheck rfl) rfl rfl rfl rfl (PAt.val (Val.field 0 rfl fo_100_0 rfl) rfl rfl rfl rfl (PAt.val (Val.move rfl) rfl rfl rfl rfl (PAt.val (Val.nilCheck rfl) rfl rfl rfl rfl (PAt.val (Val.field 64 rfl fo_100_1 rfl) rfl rfl rfl rfl (PAt.val (Val.loadP (i := 0) Tryz.isAgg3 rfl rfl (fun cs h => h)) rfl rfl rfl rfl (PAt.val (Val.cutArr a.length 64 (if 64 = a.length then 0 else 0 + a.length * 1) (64 - a.length) (64 - a.length) Tryz.underlying39 Tryz.sizeOf5 rfl ⟨_, _, rfl, by omega, by omega⟩ rfl (by omega) (by omega) rfl rfl rfl) rfl rfl rfl rfl (PAt.val (Val.move rfl) rfl rfl rfl rfl ?_))))))))))))
 refine PAt.mid (fun a' w' ha' hw' => copyStr_step (i := 0) Tryz.underlying45 Tryz.sizeOf5 rfl rfl rfl (by omega) (by rw [penC_len (by omega)]; split <;> omega) a' w' ha' hw') rfl rfl rfl (PAt.val (Val.bin rfl rfl rfl) rfl rfl rfl rfl ?_)
 rw [wrap_i64 (by omega) (by omega)]
 refine PAt.fin (tV (Val.nilCheck rfl) rfl (tV (Val.field 64 rfl fo_100_1 rfl) rfl ?_))
 refine At.store (i := 0) Tryz.sizeOf3 rfl rfl rfl rfl (by unfold putAt; simp [penC_len (a := a) (by omega)]; split <;> omega) ?_
 simp only [sc0, scS]
 refine At.nil ?_
 have hz : putAt (penC a) (if 64 = a.length then 0 else 0 + a.length * 1) (s.data.toList.map bv) = putAt (penC a) a.length (s.data.toList.map bv) := by
   split
   · rename_i h64
     have : s.data.toList = [] := List.eq_nil_of_length_eq_zero (by omega)
     rw [this]; simp [putAt]
   · simp
 rw [hz, hs, show ((a.length : Nat) : Int) + ((s.data.toList.length : Nat) : Int) = ((a.length + s.data.toList.length : Nat) : Int) from by omega, penC_put ha]
 refine At.ret0 (.inr rfl) rfl rfl  (fun w hw => ?_)
 exact ⟨rfl, hw⟩
theorem letters_p (v : Value) (l : List UInt8) (s : ByteArray) (w : World) (ho : w.ownsRow 0 5 1 v l.length (l.map bv)) (hlen : l.length + s.data.toList.length ≤ 140737488355328) :
    RowUpd Tryz.prog 56 [v, .string s] v 5 1 l.length (l.map bv) (l ++ s.data.toList).length ((l ++ s.data.toList).map bv) w := by
 refine enter (feet [brow 5 v l]) [brow 5 v l] Tryz.func56 rfl Tryz.ntmps56 rfl (Rep.one ho) ?_
 have hs : s.size = s.data.toList.length := Array.length_toList.symm
 simp only [envOf]
 refine tR (tA rfl rfl (tE (At.seq (tR (tA rfl rfl (tE (At.block ?_)))))))
 skip
 refine At.loop (σ := Nat × Value) (fun s' => s'.1 ≤ s.data.toList.length) (fun s' => [(0, s'.2), (1, .string s), (5, .int .i64 (s'.1 : Int))]) (fun s' => [brow 5 s'.2 (l ++ s.data.toList.take s'.1)]) (fun s' => s.data.toList.length - s'.1) (0, v) (Nat.zero_le _) (Sub.cons rfl (Sub.cons rfl (Sub.cons rfl Sub.nil))) (by simp) ?_
 intro s' hs
 obtain ⟨k, vk⟩ := s'
 dsimp only at hs ⊢
 refine At.seq (tR (tM rfl rfl (tM rfl rfl (tV (Val.lenStr Tryz.underlying9 rfl) rfl (tV (Val.bin rfl rfl rfl) rfl (tE ?_))))))
 refine At.cond rfl (fun h1 => ?_) (fun h1 => ?_)
 ·have hk : k < s.data.toList.length := by have := h1; simp at this; omega
  obtain ⟨c, hc⟩ : ∃ c, s.data.toList[k]? = some c := ⟨_, List.getElem?_eq_getElem hk⟩
  refine At.skipC (At.thenN (At.seq (At.block (At.region (tM rfl rfl (tM rfl rfl (tM rfl rfl (tV (Val.indexStr Tryz.underlying9 rfl rfl (c := c) (by omega) (str_get hc)) rfl (At.buildSl (fun a ha => by simp only [List.map_toArray, List.map_cons, List.map_nil, ha.eval (x := (.tmp 15)) rfl]; try rfl) (bs_45_1 _ ) rfl (fun b2 => (At.append (i := 1) (sz := 1) (by_ := 1) Tryz.underlying45 info_5 rfl rfl rfl rfl rfl rfl rfl rfl rfl (fun w hw j u hj => by rw [Nat.zero_add]; exact ((hw.blk (i := 0) rfl).cell j).trans hj) (by simp [Value.oneCell']) (by rw [List.length_append, List.length_take]; omega) (by rw [List.length_append, List.length_take]; omega) rfl (fun v3 => ?_))))))))))))
  simp only [sc0, scS]
  refine At.drop 0 ?_
  simp only [ec0, ecS]
  refine tA rfl rfl (At.nil ?_)
  rw [brow_snoc, List.append_assoc, ← List.take_succ_of_get hc]
  refine At.blkN (At.thenN (At.region (tM rfl rfl (tV (Val.bin rfl rfl rfl) rfl (tA rfl rfl (tE ?_))))))
  exact At.again (k + 1, v3) (show k + 1 ≤ _ by omega) (by dsimp only; omega) (Sub.cons rfl (Sub.cons rfl (Sub.cons (congrArg (fun z => some (Value.int IntKind.i64 z)) (wrap_i64 (by omega) (by omega))) Sub.nil))) (List.Perm.refl _)
 ·have hk : k = s.data.toList.length := by have := h1; simp at this; omega
  refine At.exitC (At.thenX (At.thenX (At.blkX (At.thenN (tR (tM rfl rfl (tA rfl rfl (tE (At.retC (At.ret1 (.inl rfl) rfl rfl rfl (fun w hw => ?_)))))))))))
  exact ⟨vk, rfl, by have := hw; rw [hk, List.take_length] at this; exact this⟩
end Go.Proofs.YthdmlpjhcalliaaGreatDoor
namespace Go.Proofs.YthdmlpjhcalliaaGreatDoor
open Go Go.Wk
def bytesW (ws : List (BitVec 64)) : List UInt8 := ws.flatMap fun x => le 8 x.toNat
theorem bytesW_append (a b : List (BitVec 64)) : bytesW (a ++ b) = bytesW a ++ bytesW b := by simp [bytesW]
theorem bytesW_length (a : List (BitVec 64)) : (bytesW a).length = 8 * a.length := by
  induction a with
  | nil => rfl
  | cons c a ih => simp only [bytesW, List.flatMap_cons, List.length_append, List.length_cons, le_length] at *; rw [ih]; omega
theorem bytesW_snoc (a : List (BitVec 64)) (x : BitVec 64) : bytesW (a ++ [x]) = bytesW a ++ le 8 x.toNat := by rw [bytesW_append]; simp [bytesW]
def SlotWd (a : Int) : Prop := 2048 ≤ a ∧ a ≤ 18431 ∧ (a - 2048) % 8 = 0 ∧ (a - 2048) % 64 ≤ 16
instance (a : Int) : Decidable (SlotWd a) := by unfold SlotWd; infer_instance
def hasAt (L : List (Int × BitVec 64)) (a : Int) : Bool := L.any fun d => d.1 == a
theorem hasAt_T {L : List (Int × BitVec 64)} {a : Int} : hasAt L a = true ↔ ∃ (i : Nat) (d : Int × BitVec 64), L[i]? = some d ∧ d.1 = a := by
  unfold hasAt
  rw [List.any_eq_true]
  constructor
  · rintro ⟨d, hd, h⟩
    obtain ⟨i, hi, rfl⟩ := List.getElem_of_mem hd
    exact ⟨i, _, List.getElem?_eq_getElem hi, by simpa using h⟩
  · rintro ⟨i, d, hd, h⟩
    exact ⟨d, List.mem_of_getElem? hd, by simpa using h⟩
def OkAt (L : List (Int × BitVec 64)) (j : Nat) : Prop := ∀ c, L[j]? = some c → SlotWd c.1 ∧ hasAt (L.take j) c.1 = false
def GoodUn (L : List (Int × BitVec 64)) : Prop := 1 ≤ L.length ∧ L.length ≤ 8 ∧ ∀ j, j < L.length → OkAt L j
noncomputable instance (L : List (Int × BitVec 64)) : Decidable (GoodUn L) := Classical.propDecidable _
theorem good_no1 {L : List (Int × BitVec 64)} {j : Nat} {c : Int × BitVec 64} (h : L[j]? = some c) (hn : ¬ SlotWd c.1) : ¬ GoodUn L := fun g => hn (g.2.2 j (List.getElem?_eq_some_iff.1 h).1 c h).1
theorem good_no2 {L : List (Int × BitVec 64)} {j : Nat} {c : Int × BitVec 64} (h : L[j]? = some c) (hn : hasAt (L.take j) c.1 = true) : ¬ GoodUn L := fun g => by
  have := (g.2.2 j (List.getElem?_eq_some_iff.1 h).1 c h).2
  rw [hn] at this; cases this
theorem okAt_of {L : List (Int × BitVec 64)} {j : Nat} {c : Int × BitVec 64} (h : L[j]? = some c) (h1 : SlotWd c.1) (h2 : hasAt (L.take j) c.1 = false) : OkAt L j := fun d hd => by
  rw [h] at hd; obtain rfl := Option.some.inj hd; exact ⟨h1, h2⟩
theorem wrap_over {a : Int} (h : ¬ -9223372036854773760 ≤ a) (h0 : -9223372036854775808 ≤ a) : IntKind.i64.wrap (a - 2048) = a - 2048 + 18446744073709551616 := by
  have e : (a - 2048) % (2 ^ 64 : Int) = a - 2048 + 18446744073709551616 := by
    rw [show (2 : Int) ^ 64 = 18446744073709551616 from rfl]; omega
  unfold IntKind.wrap
  show (let m := (a - 2048) % (2 ^ 64 : Int); if (IntKind.i64.signed && decide (m ≥ (2 ^ (64 - 1) : Int))) = true then m - (2 ^ 64 : Int) else m) = _
  rw [e]
  rw [if_neg]
  simp [IntKind.signed]
  omega
theorem bytes_n (v : Value) (ws : List (BitVec 64)) (w : World) (hv : RdW w v ws) (hlen : ws.length ≤ 1000000) :
    NewRow Tryz.prog 85 [v] 5 1 (bytesW ws).length ((bytesW ws).map bv) w := by
 refine enter (feet []) [] Tryz.func85 rfl Tryz.ntmps85 rfl ⟨by simp, by simp, by simp, Mod.refl _ _⟩ ?_
 simp only [envOf]
 refine tR (tA rfl rfl (tE (tR (tM rfl rfl (tV (Val.lenRd hv Tryz.underlying136 rfl) rfl (tV (Val.mulI rfl rfl (by omega) (by omega)) rfl ?_))))))
 rw [show (8 : Int) * (ws.length : Int) = ((8 * ws.length : Nat) : Int) from by omega]
 refine At.makeRow0B (c := 8 * ws.length) Tryz.underlying45 info_5 rfl rfl rfl rfl rfl (by omega) rfl (fun v1 => (tA rfl rfl (tE (At.seq (tR (tM rfl rfl (tV (Val.lenRd hv Tryz.underlying136 rfl) rfl (tM rfl rfl (tE (At.block ?_))))))))))
 skip
 refine At.loop (σ := Nat × Value) (fun s => s.1 ≤ ws.length) (fun s => [(3, s.2), (11, v), (12, .int .i64 (ws.length : Int)), (13, .int .i64 (s.1 : Int))]) (fun s => [brow 5 s.2 (bytesW (ws.take s.1))]) (fun s => ws.length - s.1) (0, v1) (Nat.zero_le _) (Sub.cons rfl (Sub.cons rfl (Sub.cons rfl (Sub.cons rfl Sub.nil)))) (List.Perm.refl _) ?_
 intro s hs
 obtain ⟨k, vk⟩ := s
 dsimp only at hs ⊢
 refine tR (tV (Val.bin rfl rfl rfl) rfl (tE (At.seq ?_)))
 refine At.cond rfl (fun h2 => ?_) (fun h2 => ?_)
 ·try simp only [vN_T, vN_F, nmE_T, nmE_F, wI_T, wI_F, data_T, data_F, ino_T, ino_F, notT, notF, bneT, bneF, beqT, beqF, decT, decF] at h2
  have hk : k < ws.length := by omega
  have hbl := bytesW_length (ws.take k)
  have htl : (ws.take k).length = k := by rw [List.length_take]; omega
  refine At.skipC (At.thenN (At.seq (At.block (tR (At.idxF hv Tryz.underlying136 Tryz.sizeOf34 rfl rfl (by omega) (by omega) rfl rfl (fun b3 o4 q5 hq6 hc7 => (tV (Val.loadOld Tryz.isAgg34 rfl hc7 (fun h => by simp [feet] at h)) rfl (tA rfl rfl (tE (tR (tM rfl rfl (At.callP (fun w hw => lay_p q5 w) Tryz.call106 rfl rfl (At.alloc zero_156 zc_156 rfl (fun b9 => (At.storeAll (i := 0) Tryz.sizeOf156 rfl rfl (by simp [le_length]) (by simp [Value.oneCell']) rfl (by simp) ?_)))))))))))))))
  simp only [sc0, scS]
  refine tE (At.region (tM rfl rfl (tV (Val.cutArr 0 8 0 8 8 Tryz.underlying156 Tryz.sizeOf5 rfl rfl rfl (by decide) (by decide) rfl rfl rfl) rfl (At.appendBlkB (i := 1) (j := 0) (m := le 8 q5.toNat) (by_ := 1) Tryz.underlying45 info_5 rfl rfl rfl rfl rfl rfl rfl rfl (le_length ..) (by omega) (by omega) rfl (fun v10 => ?_)))))
  simp only [sc0, scS]
  refine tA rfl rfl (At.nil (At.blkN (At.thenN (At.region ?_))))
  first | refine tV (Val.addI rfl rfl (by omega) (by omega)) rfl ?_ | refine tV (Val.bin rfl rfl rfl) rfl ?_
  refine tM rfl rfl (tE (At.drop 0 ?_))
  simp only [ec0, ecS]
  exact At.again (k + 1, v10) (show k + 1 ≤ _ by omega) (by dsimp only; omega) (Sub.cons rfl (Sub.cons rfl (Sub.cons rfl (Sub.cons (congrArg (fun z => some (Value.int IntKind.i64 z)) (by omega)) Sub.nil)))) (by rw [List.take_succ_of_get (by have := hq6; rwa [Int.toNat_natCast] at this), bytesW_snoc])
 ·try simp only [vN_T, vN_F, nmE_T, nmE_F, wI_T, wI_F, data_T, data_F, ino_T, ino_F, notT, notF, bneT, bneF, beqT, beqF, decT, decF] at h2
  obtain rfl : k = ws.length := by omega
  rw [List.take_length]
  refine At.exitC (At.thenX (At.thenX (At.blkX (At.thenN (tR (tM rfl rfl (tA rfl rfl (tE (At.retC (At.ret1 (.inl rfl) rfl rfl rfl (fun w hw => ?_)))))))))))
  exact ⟨vk, rfl, hw.drop (List.singleton_sublist.2 (List.mem_of_getElem? (i := 0) rfl))⟩
theorem undoEq_p (c : Int × BitVec 64) (bc : Nat) (a : Int) (w : World) (hc : w.cell? ⟨bc, 0, none⟩ = some (.int .i64 a)) :
    PureC Tryz.prog 105 [.agg #[.int .i64 c.1, b64 c.2], .pointer (some ⟨bc, 0, none⟩)] (.bool (c.1 == a)) w := by
 refine enter0 Tryz.func105 rfl Tryz.ntmps105 rfl ?_
 simp only [envOf]
 refine tR (At.box rfl rfl rfl (fun b1 => (tA rfl rfl (tE (tR (tV (Val.field 0 rfl fo_62_0 rfl) rfl (tV (Val.load (i := 0) Tryz.isAgg3 rfl rfl rfl) rfl (tV (Val.field 0 rfl fo_62_0 rfl) rfl (tV (Val.loadOld Tryz.isAgg3 rfl hc (fun h => h)) rfl (tV (Val.bin rfl rfl rfl) rfl (tA rfl rfl (tE (At.retC (At.ret1 (.inl rfl) rfl rfl rfl (fun w hw => ?_)))))))))))))))
 exact ⟨rfl, hw.mod⟩
theorem undoIdx_x (v : Value) (L : List (Int × BitVec 64)) (bc : Nat) (a : Int) (w : World) (hv : RdP w v L) (hc : w.cell? ⟨bc, 0, none⟩ = some (.int .i64 a)) (hlen : L.length ≤ 140737488355328) :
    SomeC Tryz.prog 114 [v, .func (.func 105) #[] #[.pointer (some ⟨bc, 0, none⟩)]] (fun r => ∃ n : Int, r = .int .i64 n ∧ (0 ≤ n ↔ hasAt L a = true)) w := by
 refine enter0 Tryz.func114 rfl Tryz.ntmps114 rfl ?_
 simp only [envOf]
 refine tR (tA rfl rfl (tE (At.seq (tR (tM rfl rfl (tV (Val.lenRd hv Tryz.underlying40 rfl) rfl (tM rfl rfl (tE (At.block ?_)))))))))
 skip
 refine At.loop (σ := Nat) (fun k => k ≤ L.length ∧ hasAt (L.take k) a = false) (fun k => [(0, v), (1, .func (.func 105) #[] #[.pointer (some ⟨bc, 0, none⟩)]), (7, .int .i64 (L.length : Int)), (8, .int .i64 (k : Int))]) (fun k => []) (fun k => L.length - k) 0 ⟨Nat.zero_le _, rfl⟩ (Sub.cons rfl (Sub.cons rfl (Sub.cons rfl (Sub.cons rfl Sub.nil)))) (List.Perm.refl _) ?_
 intro k hs
 refine tR (tV (Val.bin rfl rfl rfl) rfl (tE (At.seq ?_)))
 refine At.cond rfl (fun h1 => ?_) (fun h1 => ?_)
 ·try simp only [vN_T, vN_F, nmE_T, nmE_F, wI_T, wI_F, data_T, data_F, ino_T, ino_F, notT, notF, bneT, bneF, beqT, beqF, decT, decF] at h1
  have hk : k < L.length := by omega
  refine At.skipC (At.thenN (At.seq (At.block (tR (tM rfl rfl (tA rfl rfl (tE (tR (tM rfl rfl (tM rfl rfl (tM rfl rfl (At.idxP hv Tryz.underlying40 Tryz.sizeOf62 rfl rfl (by omega) (by omega) rfl rfl (fun b2 o3 q4 hq5 hc6 hd7 => (tV (Val.loadPair Tryz.isAgg62 Tryz.sizeOf62 rfl hc6 hd7 (fun h => h)) rfl (At.callV rfl Tryz.call105 rfl rfl (fun w hw => undoEq_p q4 bc a w (hw.mod.cell hc)) (tE ?_))))))))))))))))
  refine At.cond rfl (fun h8 => ?_) (fun h8 => ?_)
  ·try simp only [vN_T, vN_F, nmE_T, nmE_F, wI_T, wI_F, data_T, data_F, ino_T, ino_F, notT, notF, bneT, bneF, beqT, beqF, decT, decF] at h8
   refine tR (tM rfl rfl (tA rfl rfl (tE (At.retC (At.blkR (At.thenR (At.thenR (At.blkR (At.thenR (At.ret1 (.inl rfl) rfl rfl rfl (fun w hw => ?_)))))))))))
   exact ⟨_, ⟨(k : Int), rfl, ⟨fun _ => hasAt_T.2 ⟨k, _, (by have := hq5; rwa [Int.toNat_natCast] at this), by assumption⟩, fun _ => by omega⟩⟩, rfl, hw.mod⟩
  ·try simp only [vN_T, vN_F, nmE_T, nmE_F, wI_T, wI_F, data_T, data_F, ino_T, ino_F, notT, notF, bneT, bneF, beqT, beqF, decT, decF] at h8
   refine At.skipC (At.blkN (At.thenN (At.region ?_)))
   first | refine tV (Val.addI rfl rfl (by omega) (by omega)) rfl ?_ | refine tV (Val.bin rfl rfl rfl) rfl ?_
   refine tM rfl rfl (tE ?_)
   exact At.again (k + 1) ⟨by omega, by rw [List.take_succ_of_get (by have := hq5; rwa [Int.toNat_natCast] at this)]; unfold hasAt; rw [List.any_append]; unfold hasAt at hs; rw [hs.2]; simp; assumption⟩ (by omega) (Sub.cons rfl (Sub.cons rfl (Sub.cons rfl (Sub.cons (congrArg (fun z => some (Value.int IntKind.i64 z)) (by omega)) Sub.nil)))) (List.Perm.refl _)
 ·try simp only [vN_T, vN_F, nmE_T, nmE_F, wI_T, wI_F, data_T, data_F, ino_T, ino_F, notT, notF, bneT, bneF, beqT, beqF, decT, decF] at h1
  obtain rfl : k = L.length := by omega
  refine At.exitC (At.thenX (At.thenX (At.blkX (At.thenN (tR (tA rfl rfl (tE (At.retC (At.ret1 (.inl rfl) rfl rfl rfl (fun w hw => ?_))))))))))
  exact ⟨_, ⟨-1, rfl, by have h2 := hs.2; rw [List.take_length] at h2; rw [h2]; decide⟩, rfl, hw.mod⟩
theorem undoHas_p (v : Value) (L : List (Int × BitVec 64)) (bc : Nat) (a : Int) (w : World) (hv : RdP w v L) (hc : w.cell? ⟨bc, 0, none⟩ = some (.int .i64 a)) (hlen : L.length ≤ 140737488355328) :
    PureC Tryz.prog 104 [v, .func (.func 105) #[] #[.pointer (some ⟨bc, 0, none⟩)]] (.bool (hasAt L a)) w := by
 refine enter0 Tryz.func104 rfl Tryz.ntmps104 rfl ?_
 simp only [envOf]
 refine tR (tA rfl rfl (tE (tR (tM rfl rfl (tM rfl rfl (At.callX (fun w hw => undoIdx_x v L bc a w (hv.mod hw.mod) (hw.mod.cell hc) hlen) Tryz.call114 rfl rfl (fun v1 hv2 => ?_)))))))
 obtain ⟨n, rfl, hn⟩ := hv2
 refine tV (Val.bin rfl rfl rfl) rfl (tA rfl rfl (tE (At.retC (At.ret1 (.inl rfl) rfl rfl rfl (fun w hw => ?_)))))
 exact ⟨retB (by apply Bool.eq_iff_iff.2; rw [decide_eq_true_eq]; exact hn), hw.mod⟩
theorem goodUn_p (v : Value) (L : List (Int × BitVec 64)) (w : World) (hv : RdP w v L) (hlen : L.length ≤ 140737488355328) (hbd : ∀ c ∈ L, -9223372036854775808 ≤ c.1 ∧ c.1 ≤ 9223372036854775807) :
    PureC Tryz.prog 84 [v] (.bool (decide (GoodUn L))) w := by
 refine enter0 Tryz.func84 rfl Tryz.ntmps84 rfl ?_
 simp only [envOf]
 refine tR (tA rfl rfl (tE (At.seq (tR (At.weaken [(0, _), (2, _)] (Sub.cons rfl (Sub.cons rfl Sub.nil)) ?_)))))
 refine At.boolMeet 8 13 (decide (L.length = 0 ∨ 8 < L.length)) ?_ ?_
 ·simp only [List.take_succ_cons, List.take_zero]
  refine tM rfl rfl (tV (Val.lenRd hv Tryz.underlying40 rfl) rfl (tV (Val.bin rfl rfl rfl) rfl (tM rfl rfl ?_)))
  refine At.split (t := 9) rfl (fun h1 => ?_) (fun h1 => ?_)
  ·try simp only [vN_T, vN_F, nmE_T, nmE_F, wI_T, wI_F, data_T, data_F, ino_T, ino_F, notT, notF, bneT, bneF, beqT, beqF, decT, decF] at h1
   refine At.no rfl rfl rfl rfl (At.no rfl rfl rfl rfl (At.no rfl rfl rfl rfl (tV (Val.pickT rfl rfl) rfl (At.nil ?_))))
   exact At.boolEnd rfl (by first | rfl | exact (decide_eq_true (by omega)).symm | exact (decide_eq_false (by omega)).symm | (apply Bool.eq_iff_iff.2; simp only [decide_eq_true_eq, beq_iff_eq, bne_iff_ne, ne_eq, wI_T, data_T, ino_T, vN_T, nmE_T, Bool.not_eq_true', wI_F, data_F, ino_F, vN_F, nmE_F, decide_eq_false_iff_not]; omega)) (by repeat (first | exact Sub.nil | refine Sub.cons rfl ?_))
  ·try simp only [vN_T, vN_F, nmE_T, nmE_F, wI_T, wI_F, data_T, data_F, ino_T, ino_F, notT, notF, bneT, bneF, beqT, beqF, decT, decF] at h1
   refine At.yes rfl rfl (tM rfl rfl (At.yes rfl rfl (tV (Val.lenRd hv Tryz.underlying40 rfl) rfl (At.yes rfl rfl (tV (Val.bin rfl rfl rfl) rfl (tV (Val.pickF rfl rfl) rfl (At.nil ?_)))))))
   exact At.boolEnd rfl (by first | rfl | exact (decide_eq_true (by omega)).symm | exact (decide_eq_false (by omega)).symm | (apply Bool.eq_iff_iff.2; simp only [decide_eq_true_eq, beq_iff_eq, bne_iff_ne, ne_eq, wI_T, data_T, ino_T, vN_T, nmE_T, Bool.not_eq_true', wI_F, data_F, ino_F, vN_F, nmE_F, decide_eq_false_iff_not]; omega)) (by repeat (first | exact Sub.nil | refine Sub.cons rfl ?_))
 ·simp only [List.drop_succ_cons, List.drop_zero]
  refine tE ?_
  refine At.cond rfl (fun h2 => ?_) (fun h2 => ?_)
  ·try simp only [vN_T, vN_F, nmE_T, nmE_F, wI_T, wI_F, data_T, data_F, ino_T, ino_F, notT, notF, bneT, bneF, beqT, beqF, decT, decF] at h2
   refine tR (tA rfl rfl (tE (At.retC (At.thenR (At.ret1 (.inl rfl) rfl rfl rfl (fun w hw => ?_))))))
   exact ⟨retB (by first | exact (decide_eq_false (fun g => by have h1 := g.1; have h2 := g.2.1; omega)).symm | exact (decide_eq_false (good_no1 hqk hno)).symm | exact (decide_eq_false (good_no2 hqk (by assumption))).symm | exact (decide_eq_true ⟨by omega, by omega, hs.2⟩).symm), hw.mod⟩
  ·try simp only [vN_T, vN_F, nmE_T, nmE_F, wI_T, wI_F, data_T, data_F, ino_T, ino_F, notT, notF, bneT, bneF, beqT, beqF, decT, decF] at h2
   refine At.skipC (At.thenN (At.seq (tR (tM rfl rfl (tV (Val.lenRd hv Tryz.underlying40 rfl) rfl (tM rfl rfl (tE (At.block ?_))))))))
   skip
   refine At.loop (σ := Nat) (fun k => k ≤ L.length ∧ ∀ j, j < k → OkAt L j) (fun k => [(0, v), (14, v), (15, .int .i64 (L.length : Int)), (16, .int .i64 (k : Int))]) (fun k => []) (fun k => L.length - k) 0 ⟨Nat.zero_le _, fun j h => by omega⟩ (Sub.cons rfl (Sub.cons rfl (Sub.cons rfl (Sub.cons rfl Sub.nil)))) (List.Perm.refl _) ?_
   intro k hs
   refine tR (tV (Val.bin rfl rfl rfl) rfl (tE (At.seq ?_)))
   refine At.cond rfl (fun h3 => ?_) (fun h3 => ?_)
   ·try simp only [vN_T, vN_F, nmE_T, nmE_F, wI_T, wI_F, data_T, data_F, ino_T, ino_F, notT, notF, bneT, bneF, beqT, beqF, decT, decF] at h3
    have hk : k < L.length := by omega
    refine At.skipC (At.thenN (At.seq (At.block (tR (tM rfl rfl (At.idxP hv Tryz.underlying40 Tryz.sizeOf62 rfl rfl (by omega) (by omega) rfl rfl (fun b4 o5 q6 hq7 hc8 hd9 => (tV (Val.loadPair Tryz.isAgg62 Tryz.sizeOf62 rfl hc8 hd9 (fun h => h)) rfl (At.alloc Tryz.zeroValue62 rfl rfl (fun b10 => (tA rfl rfl (At.storeAll (i := 0) Tryz.sizeOf62 rfl rfl rfl (by simp [Value.oneCell']) rfl rfl ?_))))))))))))
    simp only [sc0, scS]
    refine At.nil ?_
    have hqk := hq7
    rw [Int.toNat_natCast] at hqk
    have hbq := hbd _ (List.mem_of_getElem? hqk)
    refine At.thenN (tR (tV (Val.field 0 rfl fo_62_0 rfl) rfl (tV (Val.load (i := 0) Tryz.isAgg3 rfl rfl rfl) rfl (tV (Val.bin rfl rfl rfl) rfl ?_))))
    by_cases hlo : -9223372036854773760 ≤ q6.1
    ·rw [wrap_i64 (n := q6.1 - 2048) (by omega) (by omega)]
     refine tA rfl rfl (tE (At.seq (tR (At.weaken [(0, _), (14, _), (15, _), (16, _), (17, _), (18, _), (19, _), (20, _), (4, _), (3, _), (21, _), (22, _), (23, _), (5, _)] (Sub.cons rfl (Sub.cons rfl (Sub.cons rfl (Sub.cons rfl (Sub.cons rfl (Sub.cons rfl (Sub.cons rfl (Sub.cons rfl (Sub.cons rfl (Sub.cons rfl (Sub.cons rfl (Sub.cons rfl (Sub.cons rfl (Sub.cons rfl Sub.nil)))))))))))))) ?_))))
     refine At.boolMeet 13 36 (!decide (SlotWd q6.1)) ?_ ?_
     ·simp only [List.take_succ_cons, List.take_zero]
      refine tM rfl rfl (At.callP (fun w hw => within_p _ _ _ w) Tryz.call51 rfl rfl (tV (Val.not rfl) rfl (tM rfl rfl ?_)))
      refine At.split (t := 27) rfl (fun h11 => ?_) (fun h11 => ?_)
      ·try simp only [vN_T, vN_F, nmE_T, nmE_F, wI_T, wI_F, data_T, data_F, ino_T, ino_F, notT, notF, bneT, bneF, beqT, beqF, decT, decF] at h11
       refine At.no rfl rfl rfl rfl (At.no rfl rfl rfl rfl (At.no rfl rfl rfl rfl (tV (Val.pickT rfl rfl) rfl (tM rfl rfl (At.no rfl rfl rfl rfl (At.no rfl rfl rfl rfl (At.no rfl rfl rfl rfl (tV (Val.pickT rfl rfl) rfl (At.nil ?_)))))))))
       exact At.boolEnd rfl (by first | (rw [decide_eq_true (show SlotWd q6.1 by unfold SlotWd; omega)]; rfl) | (rw [decide_eq_false (show ¬ SlotWd q6.1 by unfold SlotWd; omega)]; rfl) | (apply Bool.eq_iff_iff.2; simp only [Bool.not_eq_true', decide_eq_false_iff_not, decide_eq_true_eq]; unfold SlotWd; omega)) (by repeat (first | exact Sub.nil | refine Sub.cons rfl ?_))
      ·try simp only [vN_T, vN_F, nmE_T, nmE_F, wI_T, wI_F, data_T, data_F, ino_T, ino_F, notT, notF, bneT, bneF, beqT, beqF, decT, decF] at h11
       refine At.yes rfl rfl (tM rfl rfl (At.yes rfl rfl ?_))
       first | refine tV (Val.remI rfl rfl (by omega) (by decide)) rfl ?_ | refine tV (Val.rem rfl rfl (by decide)) rfl ?_
       refine At.yes rfl rfl (tV (Val.bin rfl rfl rfl) rfl (tV (Val.pickF rfl rfl) rfl (tM rfl rfl ?_)))
       refine At.split (t := 32) rfl (fun h12 => ?_) (fun h12 => ?_)
       ·try simp only [vN_T, vN_F, nmE_T, nmE_F, wI_T, wI_F, data_T, data_F, ino_T, ino_F, notT, notF, bneT, bneF, beqT, beqF, decT, decF] at h12
        refine At.no rfl rfl rfl rfl (At.no rfl rfl rfl rfl (At.no rfl rfl rfl rfl (tV (Val.pickT rfl rfl) rfl (At.nil ?_))))
        exact At.boolEnd rfl (by first | (rw [decide_eq_true (show SlotWd q6.1 by unfold SlotWd; omega)]; rfl) | (rw [decide_eq_false (show ¬ SlotWd q6.1 by unfold SlotWd; omega)]; rfl) | (apply Bool.eq_iff_iff.2; simp only [Bool.not_eq_true', decide_eq_false_iff_not, decide_eq_true_eq]; unfold SlotWd; omega)) (by repeat (first | exact Sub.nil | refine Sub.cons rfl ?_))
       ·try simp only [vN_T, vN_F, nmE_T, nmE_F, wI_T, wI_F, data_T, data_F, ino_T, ino_F, notT, notF, bneT, bneF, beqT, beqF, decT, decF] at h12
        refine At.yes rfl rfl (tM rfl rfl (At.yes rfl rfl ?_))
        first | refine tV (Val.remI rfl rfl (by omega) (by decide)) rfl ?_ | refine tV (Val.rem rfl rfl (by decide)) rfl ?_
        refine At.yes rfl rfl (tV (Val.bin rfl rfl rfl) rfl (tV (Val.pickF rfl rfl) rfl (At.nil ?_)))
        exact At.boolEnd rfl (by first | (rw [decide_eq_true (show SlotWd q6.1 by unfold SlotWd; omega)]; rfl) | (rw [decide_eq_false (show ¬ SlotWd q6.1 by unfold SlotWd; omega)]; rfl) | (apply Bool.eq_iff_iff.2; simp only [Bool.not_eq_true', decide_eq_false_iff_not, decide_eq_true_eq]; unfold SlotWd; omega)) (by repeat (first | exact Sub.nil | refine Sub.cons rfl ?_))
     ·simp only [List.drop_succ_cons, List.drop_zero]
      refine tE ?_
      refine At.cond rfl (fun h13 => ?_) (fun h13 => ?_)
      ·try simp only [vN_T, vN_F, nmE_T, nmE_F, wI_T, wI_F, data_T, data_F, ino_T, ino_F, notT, notF, bneT, bneF, beqT, beqF, decT, decF] at h13
       have hno := h13
       refine tR (tA rfl rfl (tE (At.retC (At.thenR (At.blkR (At.thenR (At.thenR (At.blkR (At.thenR (At.ret1 (.inl rfl) rfl rfl rfl (fun w hw => ?_)))))))))))
       exact ⟨retB (by first | exact (decide_eq_false (fun g => by have h1 := g.1; have h2 := g.2.1; omega)).symm | exact (decide_eq_false (good_no1 hqk hno)).symm | exact (decide_eq_false (good_no2 hqk (by assumption))).symm | exact (decide_eq_true ⟨by omega, by omega, hs.2⟩).symm), hw.mod⟩
      ·try simp only [vN_T, vN_F, nmE_T, nmE_F, wI_T, wI_F, data_T, data_F, ino_T, ino_F, notT, notF, bneT, bneF, beqT, beqF, decT, decF] at h13
       have hyes := h13
       refine At.skipC (At.thenN (tR (tM rfl rfl (tM rfl rfl (At.cutP (k) hv Tryz.underlying40 Tryz.sizeOf62 rfl ⟨_, _, rfl, by omega, by omega⟩ (by omega) rfl rfl (fun v14 hv15 => (tV (Val.makeFunc rfl) rfl ?_)))))))
       refine At.callP (fun w hw => undoHas_p _ (L.take k) b10 q6.1 w (hv15.mod hw.mod) ((hw.blk (i := 0) rfl).cell 0) (by rw [List.length_take]; omega)) Tryz.call104 rfl rfl (tE ?_)
       refine At.cond rfl (fun h16 => ?_) (fun h16 => ?_)
       ·try simp only [vN_T, vN_F, nmE_T, nmE_F, wI_T, wI_F, data_T, data_F, ino_T, ino_F, notT, notF, bneT, bneF, beqT, beqF, decT, decF] at h16
        refine tR (tA rfl rfl (tE (At.retC (At.blkR (At.thenR (At.thenR (At.blkR (At.thenR (At.ret1 (.inl rfl) rfl rfl rfl (fun w hw => ?_))))))))))
        exact ⟨retB (by first | exact (decide_eq_false (fun g => by have h1 := g.1; have h2 := g.2.1; omega)).symm | exact (decide_eq_false (good_no1 hqk hno)).symm | exact (decide_eq_false (good_no2 hqk (by assumption))).symm | exact (decide_eq_true ⟨by omega, by omega, hs.2⟩).symm), hw.mod⟩
       ·try simp only [vN_T, vN_F, nmE_T, nmE_F, wI_T, wI_F, data_T, data_F, ino_T, ino_F, notT, notF, bneT, bneF, beqT, beqF, decT, decF] at h16
        refine At.skipC (At.blkN (At.thenN (At.region ?_)))
        first | refine tV (Val.addI rfl rfl (by omega) (by omega)) rfl ?_ | refine tV (Val.bin rfl rfl rfl) rfl ?_
        refine tM rfl rfl (tE (At.drop 0 ?_))
        simp only [ec0, ecS]
        exact At.again (k + 1) ⟨by omega, fun j hj => by rcases Nat.lt_or_ge j k with h | h; exact hs.2 j h; obtain rfl : j = k := (by omega); exact okAt_of hqk hyes (by assumption)⟩ (by omega) (Sub.cons rfl (Sub.cons rfl (Sub.cons rfl (Sub.cons (congrArg (fun z => some (Value.int IntKind.i64 z)) (by omega)) Sub.nil)))) (List.Perm.refl _)
    ·have hno : ¬ SlotWd q6.1 := by unfold SlotWd; omega
     obtain ⟨ov, hov⟩ : ∃ ov, ov = IntKind.i64.wrap (q6.1 - 2048) := ⟨_, rfl⟩
     have hov' : ov = q6.1 - 2048 + 18446744073709551616 := by rw [hov]; exact wrap_over hlo hbq.1
     rw [← hov]
     refine tA rfl rfl (tE (At.seq (tR (At.weaken [(0, _), (14, _), (15, _), (16, _), (17, _), (18, _), (19, _), (20, _), (4, _), (3, _), (21, _), (22, _), (23, _), (5, _)] (Sub.cons rfl (Sub.cons rfl (Sub.cons rfl (Sub.cons rfl (Sub.cons rfl (Sub.cons rfl (Sub.cons rfl (Sub.cons rfl (Sub.cons rfl (Sub.cons rfl (Sub.cons rfl (Sub.cons rfl (Sub.cons rfl (Sub.cons rfl Sub.nil)))))))))))))) ?_))))
     refine At.boolMeet 13 36 (!decide (SlotWd q6.1)) ?_ ?_
     ·simp only [List.take_succ_cons, List.take_zero]
      refine tM rfl rfl (At.callP (fun w hw => within_p _ _ _ w) Tryz.call51 rfl rfl (tV (Val.not rfl) rfl (tM rfl rfl ?_)))
      refine At.split (t := 27) rfl (fun h17 => ?_) (fun h17 => ?_)
      ·try simp only [vN_T, vN_F, nmE_T, nmE_F, wI_T, wI_F, data_T, data_F, ino_T, ino_F, notT, notF, bneT, bneF, beqT, beqF, decT, decF] at h17
       refine At.no rfl rfl rfl rfl (At.no rfl rfl rfl rfl (At.no rfl rfl rfl rfl (tV (Val.pickT rfl rfl) rfl (tM rfl rfl (At.no rfl rfl rfl rfl (At.no rfl rfl rfl rfl (At.no rfl rfl rfl rfl (tV (Val.pickT rfl rfl) rfl (At.nil ?_)))))))))
       exact At.boolEnd rfl (by first | (rw [decide_eq_true (show SlotWd q6.1 by unfold SlotWd; omega)]; rfl) | (rw [decide_eq_false (show ¬ SlotWd q6.1 by unfold SlotWd; omega)]; rfl) | (apply Bool.eq_iff_iff.2; simp only [Bool.not_eq_true', decide_eq_false_iff_not, decide_eq_true_eq]; unfold SlotWd; omega)) (by repeat (first | exact Sub.nil | refine Sub.cons rfl ?_))
      ·try simp only [vN_T, vN_F, nmE_T, nmE_F, wI_T, wI_F, data_T, data_F, ino_T, ino_F, notT, notF, bneT, bneF, beqT, beqF, decT, decF] at h17
       refine At.yes rfl rfl (tM rfl rfl (At.yes rfl rfl ?_))
       first | refine tV (Val.remI rfl rfl (by omega) (by decide)) rfl ?_ | refine tV (Val.rem rfl rfl (by decide)) rfl ?_
       refine At.yes rfl rfl (tV (Val.bin rfl rfl rfl) rfl (tV (Val.pickF rfl rfl) rfl (tM rfl rfl ?_)))
       refine At.split (t := 32) rfl (fun h18 => ?_) (fun h18 => ?_)
       ·try simp only [vN_T, vN_F, nmE_T, nmE_F, wI_T, wI_F, data_T, data_F, ino_T, ino_F, notT, notF, bneT, bneF, beqT, beqF, decT, decF] at h18
        refine At.no rfl rfl rfl rfl (At.no rfl rfl rfl rfl (At.no rfl rfl rfl rfl (tV (Val.pickT rfl rfl) rfl (At.nil ?_))))
        exact At.boolEnd rfl (by first | (rw [decide_eq_true (show SlotWd q6.1 by unfold SlotWd; omega)]; rfl) | (rw [decide_eq_false (show ¬ SlotWd q6.1 by unfold SlotWd; omega)]; rfl) | (apply Bool.eq_iff_iff.2; simp only [Bool.not_eq_true', decide_eq_false_iff_not, decide_eq_true_eq]; unfold SlotWd; omega)) (by repeat (first | exact Sub.nil | refine Sub.cons rfl ?_))
       ·try simp only [vN_T, vN_F, nmE_T, nmE_F, wI_T, wI_F, data_T, data_F, ino_T, ino_F, notT, notF, bneT, bneF, beqT, beqF, decT, decF] at h18
        refine At.yes rfl rfl (tM rfl rfl (At.yes rfl rfl ?_))
        first | refine tV (Val.remI rfl rfl (by omega) (by decide)) rfl ?_ | refine tV (Val.rem rfl rfl (by decide)) rfl ?_
        refine At.yes rfl rfl (tV (Val.bin rfl rfl rfl) rfl (tV (Val.pickF rfl rfl) rfl (At.nil ?_)))
        exact At.boolEnd rfl (by first | (rw [decide_eq_true (show SlotWd q6.1 by unfold SlotWd; omega)]; rfl) | (rw [decide_eq_false (show ¬ SlotWd q6.1 by unfold SlotWd; omega)]; rfl) | (apply Bool.eq_iff_iff.2; simp only [Bool.not_eq_true', decide_eq_false_iff_not, decide_eq_true_eq]; unfold SlotWd; omega)) (by repeat (first | exact Sub.nil | refine Sub.cons rfl ?_))
     ·simp only [List.drop_succ_cons, List.drop_zero]
      refine tE ?_
      refine At.cond rfl (fun h19 => ?_) (fun h19 => ?_)
      ·try simp only [vN_T, vN_F, nmE_T, nmE_F, wI_T, wI_F, data_T, data_F, ino_T, ino_F, notT, notF, bneT, bneF, beqT, beqF, decT, decF] at h19
       have hno := h19
       refine tR (tA rfl rfl (tE (At.retC (At.thenR (At.blkR (At.thenR (At.thenR (At.blkR (At.thenR (At.ret1 (.inl rfl) rfl rfl rfl (fun w hw => ?_)))))))))))
       exact ⟨retB (by first | exact (decide_eq_false (fun g => by have h1 := g.1; have h2 := g.2.1; omega)).symm | exact (decide_eq_false (good_no1 hqk hno)).symm | exact (decide_eq_false (good_no2 hqk (by assumption))).symm | exact (decide_eq_true ⟨by omega, by omega, hs.2⟩).symm), hw.mod⟩
      ·try simp only [vN_T, vN_F, nmE_T, nmE_F, wI_T, wI_F, data_T, data_F, ino_T, ino_F, notT, notF, bneT, bneF, beqT, beqF, decT, decF] at h19
       have hyes := h19
       refine At.skipC (At.thenN (tR (tM rfl rfl (tM rfl rfl (At.cutP (k) hv Tryz.underlying40 Tryz.sizeOf62 rfl ⟨_, _, rfl, by omega, by omega⟩ (by omega) rfl rfl (fun v20 hv21 => (tV (Val.makeFunc rfl) rfl ?_)))))))
       refine At.callP (fun w hw => undoHas_p _ (L.take k) b10 q6.1 w (hv21.mod hw.mod) ((hw.blk (i := 0) rfl).cell 0) (by rw [List.length_take]; omega)) Tryz.call104 rfl rfl (tE ?_)
       refine At.cond rfl (fun h22 => ?_) (fun h22 => ?_)
       ·try simp only [vN_T, vN_F, nmE_T, nmE_F, wI_T, wI_F, data_T, data_F, ino_T, ino_F, notT, notF, bneT, bneF, beqT, beqF, decT, decF] at h22
        refine tR (tA rfl rfl (tE (At.retC (At.blkR (At.thenR (At.thenR (At.blkR (At.thenR (At.ret1 (.inl rfl) rfl rfl rfl (fun w hw => ?_))))))))))
        exact ⟨retB (by first | exact (decide_eq_false (fun g => by have h1 := g.1; have h2 := g.2.1; omega)).symm | exact (decide_eq_false (good_no1 hqk hno)).symm | exact (decide_eq_false (good_no2 hqk (by assumption))).symm | exact (decide_eq_true ⟨by omega, by omega, hs.2⟩).symm), hw.mod⟩
       ·try simp only [vN_T, vN_F, nmE_T, nmE_F, wI_T, wI_F, data_T, data_F, ino_T, ino_F, notT, notF, bneT, bneF, beqT, beqF, decT, decF] at h22
        refine At.skipC (At.blkN (At.thenN (At.region ?_)))
        first | refine tV (Val.addI rfl rfl (by omega) (by omega)) rfl ?_ | refine tV (Val.bin rfl rfl rfl) rfl ?_
        refine tM rfl rfl (tE (At.drop 0 ?_))
        simp only [ec0, ecS]
        exact At.again (k + 1) ⟨by omega, fun j hj => by rcases Nat.lt_or_ge j k with h | h; exact hs.2 j h; obtain rfl : j = k := (by omega); exact okAt_of hqk hyes (by assumption)⟩ (by omega) (Sub.cons rfl (Sub.cons rfl (Sub.cons rfl (Sub.cons (congrArg (fun z => some (Value.int IntKind.i64 z)) (by omega)) Sub.nil)))) (List.Perm.refl _)
   ·try simp only [vN_T, vN_F, nmE_T, nmE_F, wI_T, wI_F, data_T, data_F, ino_T, ino_F, notT, notF, bneT, bneF, beqT, beqF, decT, decF] at h3
    obtain rfl : k = L.length := by omega
    refine At.exitC (At.thenX (At.thenX (At.blkX (At.thenN (tR (tA rfl rfl (tE (At.retC (At.ret1 (.inl rfl) rfl rfl rfl (fun w hw => ?_))))))))))
    exact ⟨retB (by first | exact (decide_eq_false (fun g => by have h1 := g.1; have h2 := g.2.1; omega)).symm | exact (decide_eq_false (good_no1 hqk hno)).symm | exact (decide_eq_false (good_no2 hqk (by assumption))).symm | exact (decide_eq_true ⟨by omega, by omega, hs.2⟩).symm), hw.mod⟩
end Go.Proofs.YthdmlpjhcalliaaGreatDoor
namespace Go.Proofs.YthdmlpjhcalliaaGreatDoor
open Go Go.Wk
theorem must_T (e : Int) (w : World) :
    PureC Tryz.prog 62 [.bool true, .int .i64 e] (.tuple #[]) w := by
 refine enter0 Tryz.func62 rfl Tryz.ntmps62 rfl ?_
 simp only [envOf]
 refine tR (tM rfl rfl (tV (Val.not rfl) rfl (tE (At.condF rfl (At.skipC (At.ret0 (.inr rfl) rfl rfl  (fun w hw => ?_)))))))
 exact ⟨rfl, hw.mod⟩
theorem must_F (e : Int) (w : World) :
    Throws0 Tryz.prog 62 [.bool false, .int .i64 e] (brk 150 e) w := by
 refine enter0 Tryz.func62 rfl Tryz.ntmps62 rfl ?_
 simp only [envOf]
 refine tR (tM rfl rfl (tV (Val.not rfl) rfl (tE (At.condT rfl (At.region (tM rfl rfl ?_))))))
 refine tV (Val.build (fun a ha => by simp only [List.map_toArray, List.map_cons, List.map_nil, ha.eval (x := (.tmp 6)) rfl] <;> rfl) (bld_150_0 _ )) rfl (tV (Val.mkIface Tryz.underlying150 rfl) rfl (At.panicOp rfl (At.fail rfl (fun w hw => ?_))))
 exact ⟨rfl, hw.mod⟩
theorem caughtSuper_idle (b1' b2' : Nat) (w : World) :
    Idle Tryz.prog 61 [.pointer (some ⟨b1', 0, none⟩), .pointer (some ⟨b2', 0, none⟩)] w := by
 refine CallsD.mono (enterC (v := .nilIface) (um' := .returning) (R := fun e w' => e = .returned (.tuple #[]) ∧ Mod (fun _ => False) w w') (fun _ => False) [] Tryz.func61 rfl Tryz.ntmps61 rfl rfl ⟨by simp, by simp, by simp, Mod.refl _ _⟩ (fun c₀ cs hu => .inr ⟨by simp [recoverD, hu], rfl, rfl⟩) ?_) (fun e u' w' h => ⟨h.2.1, h.1, h.2.2⟩)
 simp only [envOf]
 refine At.block (tR (tV (Val.ifNilNil (by kernel_rfl) rfl) rfl (tE (At.condT rfl (At.region (tA rfl rfl (At.nil (At.blkN (At.ret0 (.inr rfl) rfl rfl  (fun w hw => ?_))))))))))
 exact ⟨rfl, hw.mod⟩
theorem caughtSuper_pan (b1' b2' : Nat) (cs : List Value) (x : Value) (why : Int) (w : World) (h1 : Holds w b1' 31 cs) (hl : cs.length = 3) (h2 : Holds w b2' 67 [x]) (hne : b1' ≠ b2') :
    Catches Tryz.prog 61 [.pointer (some ⟨b1', 0, none⟩), .pointer (some ⟨b2', 0, none⟩)] (brk 150 why) (blk b1' 31 cs) (blk b2' 67 [x]) (blk b1' 31 [Value.int .i64 0, Value.int .i64 0, Value.int .i64 0]) (blk b2' 67 [.int .i64 why]) w := by
 refine CallsD.mono (enterC (v := .iface 150 (.agg #[.int .i64 why])) (um' := .panicking [{ v := .iface 150 (.agg #[.int .i64 why]), recovered := true }]) (R := fun e w' => e = .returned (.tuple #[]) ∧ Rep w (feet [(blk b1' 31 cs), (blk b2' 67 [x])]) [(blk b1' 31 [Value.int .i64 0, Value.int .i64 0, Value.int .i64 0]), (blk b2' 67 [.int .i64 why])] w') (feet [(blk b1' 31 cs), (blk b2' 67 [x])]) [(blk b1' 31 cs), (blk b2' 67 [x])] Tryz.func61 rfl Tryz.ntmps61 rfl rfl (Rep.start (by simp only [List.pairwise_cons, List.mem_singleton, forall_eq, List.not_mem_nil, false_implies, implies_true, List.Pairwise.nil, and_true]; exact fun b (hb1 : b = b1') (hb2 : b = b2') => hne (hb1.symm.trans hb2)) (fun r hr => by rcases List.mem_cons.1 hr with rfl | hr; exact h1; rcases List.mem_cons.1 hr with rfl | hr; exact h2; cases hr)) (fun c₀ cs hu => .inl (by simp [recoverD, hu])) ?_) (fun e u' w' h => ⟨h.2.1, by rw [h.1]; rfl, h.2.2⟩)
 simp only [envOf]
 refine At.block (tR (tV (Val.ifHeldNil (by kernel_rfl) rfl) rfl (tE (At.condF rfl (tR (tV (Val.assertIs Tryz.underlying150 rfl) rfl (tV (Val.extract rfl rfl) rfl (tV (Val.extract rfl rfl) rfl (tE (At.condT rfl (tR (At.alloc Tryz.zeroValue150 rfl rfl (fun b1 => (At.storeAll (i := 0) Tryz.sizeOf150 rfl rfl rfl (by simp [Value.oneCell']) rfl rfl ?_))))))))))))))
 simp only [sc0, scS]
 refine tE (tR (At.alloc Tryz.zeroValue31 rfl rfl (fun b2 => (tE (At.mid 7 6 [blk b2 31 [Value.int .i64 0, Value.int .i64 0, Value.int .i64 0], blk b1 150 [_], blkP b1' 31 (fun _ => True), blk b2' 67 ([x])] [blk b2 31 [Value.int .i64 0, Value.int .i64 0, Value.int .i64 0], blk b1 150 [_], blk b1' 31 [Value.int .i64 0, Value.int .i64 0, Value.int .i64 0], blk b2' 67 ([x])] rfl (by decide +kernel) (by decide) rfl rfl (fun w hw => hw.blkP (i := 2) (fun _ => True) rfl trivial) (fun w hw => hw.blkP (i := 2) (fun _ => True) rfl trivial) ?_)))))
 simp only [List.take_succ_cons, List.take_zero, List.drop_succ_cons, List.drop_zero]
 refine PAt.val (Val.move rfl) rfl rfl rfl rfl (PAt.val (Val.move rfl) rfl rfl rfl rfl (PAt.val (Val.loadAll (i := 0) Tryz.isAgg31 Tryz.sizeOf31 rfl rfl rfl) rfl rfl rfl rfl (PAt.val (Val.field 0 rfl fo_150_0 rfl) rfl rfl rfl rfl (PAt.val (Val.load (i := 1) Tryz.isAgg67 rfl rfl rfl) rfl rfl rfl rfl (PAt.val (Val.nilCheck rfl) rfl rfl rfl rfl (PAt.midS (fun a' w' ha' hw' => storeAll_step (i := 2) Tryz.sizeOf31 rfl rfl rfl (by simp [Value.oneCell']) rfl hl a' w' ha' hw') rfl rfl (PAt.fin (tV (Val.nilCheck rfl) rfl (At.store (i := 3) Tryz.sizeOf67 rfl rfl rfl rfl (by first | decide | simp) ?_)))))))))
 simp only [sc0, scS]
 refine At.nil (At.drop 0 (At.drop 0 ?_))
 simp only [ec0, ecS]
 refine At.blkN (At.ret0 (.inr rfl) rfl rfl  (fun w hw => ?_))
 exact ⟨rfl, hw⟩
theorem caughtHeader_idle (b1' b2' : Nat) (w : World) :
    Idle Tryz.prog 82 [.pointer (some ⟨b1', 0, none⟩), .pointer (some ⟨b2', 0, none⟩)] w := by
 refine CallsD.mono (enterC (v := .nilIface) (um' := .returning) (R := fun e w' => e = .returned (.tuple #[]) ∧ Mod (fun _ => False) w w') (fun _ => False) [] Tryz.func82 rfl Tryz.ntmps82 rfl rfl ⟨by simp, by simp, by simp, Mod.refl _ _⟩ (fun c₀ cs hu => .inr ⟨by simp [recoverD, hu], rfl, rfl⟩) ?_) (fun e u' w' h => ⟨h.2.1, h.1, h.2.2⟩)
 simp only [envOf]
 refine At.block (tR (tV (Val.ifNilNil (by kernel_rfl) rfl) rfl (tE (At.condT rfl (At.region (tA rfl rfl (At.nil (At.blkN (At.ret0 (.inr rfl) rfl rfl  (fun w hw => ?_))))))))))
 exact ⟨rfl, hw.mod⟩
theorem caughtHeader_pan (b1' b2' : Nat) (cs : List Value) (x : Value) (why : Int) (w : World) (h1 : Holds w b1' 47 cs) (hl : cs.length = 2) (h2 : Holds w b2' 67 [x]) (hne : b1' ≠ b2') :
    Catches Tryz.prog 82 [.pointer (some ⟨b1', 0, none⟩), .pointer (some ⟨b2', 0, none⟩)] (brk 150 why) (blk b1' 47 cs) (blk b2' 67 [x]) (blk b1' 47 [Value.int .i64 0, Value.int .i64 0]) (blk b2' 67 [.int .i64 why]) w := by
 refine CallsD.mono (enterC (v := .iface 150 (.agg #[.int .i64 why])) (um' := .panicking [{ v := .iface 150 (.agg #[.int .i64 why]), recovered := true }]) (R := fun e w' => e = .returned (.tuple #[]) ∧ Rep w (feet [(blk b1' 47 cs), (blk b2' 67 [x])]) [(blk b1' 47 [Value.int .i64 0, Value.int .i64 0]), (blk b2' 67 [.int .i64 why])] w') (feet [(blk b1' 47 cs), (blk b2' 67 [x])]) [(blk b1' 47 cs), (blk b2' 67 [x])] Tryz.func82 rfl Tryz.ntmps82 rfl rfl (Rep.start (by simp only [List.pairwise_cons, List.mem_singleton, forall_eq, List.not_mem_nil, false_implies, implies_true, List.Pairwise.nil, and_true]; exact fun b (hb1 : b = b1') (hb2 : b = b2') => hne (hb1.symm.trans hb2)) (fun r hr => by rcases List.mem_cons.1 hr with rfl | hr; exact h1; rcases List.mem_cons.1 hr with rfl | hr; exact h2; cases hr)) (fun c₀ cs hu => .inl (by simp [recoverD, hu])) ?_) (fun e u' w' h => ⟨h.2.1, by rw [h.1]; rfl, h.2.2⟩)
 simp only [envOf]
 refine At.block (tR (tV (Val.ifHeldNil (by kernel_rfl) rfl) rfl (tE (At.condF rfl (tR (tV (Val.assertIs Tryz.underlying150 rfl) rfl (tV (Val.extract rfl rfl) rfl (tV (Val.extract rfl rfl) rfl (tE (At.condT rfl (tR (At.alloc Tryz.zeroValue150 rfl rfl (fun b1 => (At.storeAll (i := 0) Tryz.sizeOf150 rfl rfl rfl (by simp [Value.oneCell']) rfl rfl ?_))))))))))))))
 simp only [sc0, scS]
 refine tE (tR (At.alloc Tryz.zeroValue47 rfl rfl (fun b2 => (tE (At.mid 7 6 [blk b2 47 [Value.int .i64 0, Value.int .i64 0], blk b1 150 [_], blkP b1' 47 (fun _ => True), blk b2' 67 ([x])] [blk b2 47 [Value.int .i64 0, Value.int .i64 0], blk b1 150 [_], blk b1' 47 [Value.int .i64 0, Value.int .i64 0], blk b2' 67 ([x])] rfl (by decide +kernel) (by decide) rfl rfl (fun w hw => hw.blkP (i := 2) (fun _ => True) rfl trivial) (fun w hw => hw.blkP (i := 2) (fun _ => True) rfl trivial) ?_)))))
 simp only [List.take_succ_cons, List.take_zero, List.drop_succ_cons, List.drop_zero]
 refine PAt.val (Val.move rfl) rfl rfl rfl rfl (PAt.val (Val.move rfl) rfl rfl rfl rfl (PAt.val (Val.loadAll (i := 0) Tryz.isAgg47 Tryz.sizeOf47 rfl rfl rfl) rfl rfl rfl rfl (PAt.val (Val.field 0 rfl fo_150_0 rfl) rfl rfl rfl rfl (PAt.val (Val.load (i := 1) Tryz.isAgg67 rfl rfl rfl) rfl rfl rfl rfl (PAt.val (Val.nilCheck rfl) rfl rfl rfl rfl (PAt.midS (fun a' w' ha' hw' => storeAll_step (i := 2) Tryz.sizeOf47 rfl rfl rfl (by simp [Value.oneCell']) rfl hl a' w' ha' hw') rfl rfl (PAt.fin (tV (Val.nilCheck rfl) rfl (At.store (i := 3) Tryz.sizeOf67 rfl rfl rfl rfl (by first | decide | simp) ?_)))))))))
 simp only [sc0, scS]
 refine At.nil (At.drop 0 (At.drop 0 ?_))
 simp only [ec0, ecS]
 refine At.blkN (At.ret0 (.inr rfl) rfl rfl  (fun w hw => ?_))
 exact ⟨rfl, hw⟩
theorem caughtSlot_idle (b1' b2' : Nat) (w : World) :
    Idle Tryz.prog 72 [.pointer (some ⟨b1', 0, none⟩), .pointer (some ⟨b2', 0, none⟩)] w := by
 refine CallsD.mono (enterC (v := .nilIface) (um' := .returning) (R := fun e w' => e = .returned (.tuple #[]) ∧ Mod (fun _ => False) w w') (fun _ => False) [] Tryz.func72 rfl Tryz.ntmps72 rfl rfl ⟨by simp, by simp, by simp, Mod.refl _ _⟩ (fun c₀ cs hu => .inr ⟨by simp [recoverD, hu], rfl, rfl⟩) ?_) (fun e u' w' h => ⟨h.2.1, h.1, h.2.2⟩)
 simp only [envOf]
 refine At.block (tR (tV (Val.ifNilNil (by kernel_rfl) rfl) rfl (tE (At.condT rfl (At.region (tA rfl rfl (At.nil (At.blkN (At.ret0 (.inr rfl) rfl rfl  (fun w hw => ?_))))))))))
 exact ⟨rfl, hw.mod⟩
theorem caughtSlot_pan (b1' b2' : Nat) (cs : List Value) (x : Value) (why : Int) (w : World) (h1 : Holds w b1' 33 cs) (hl : cs.length = 4) (h2 : Holds w b2' 67 [x]) (hne : b1' ≠ b2') :
    Catches Tryz.prog 72 [.pointer (some ⟨b1', 0, none⟩), .pointer (some ⟨b2', 0, none⟩)] (brk 150 why) (blk b1' 33 cs) (blk b2' 67 [x]) (blk b1' 33 [Value.int .i64 0, Value.int .i64 0, Value.int .i64 0, Value.int .i64 0]) (blk b2' 67 [.int .i64 why]) w := by
 refine CallsD.mono (enterC (v := .iface 150 (.agg #[.int .i64 why])) (um' := .panicking [{ v := .iface 150 (.agg #[.int .i64 why]), recovered := true }]) (R := fun e w' => e = .returned (.tuple #[]) ∧ Rep w (feet [(blk b1' 33 cs), (blk b2' 67 [x])]) [(blk b1' 33 [Value.int .i64 0, Value.int .i64 0, Value.int .i64 0, Value.int .i64 0]), (blk b2' 67 [.int .i64 why])] w') (feet [(blk b1' 33 cs), (blk b2' 67 [x])]) [(blk b1' 33 cs), (blk b2' 67 [x])] Tryz.func72 rfl Tryz.ntmps72 rfl rfl (Rep.start (by simp only [List.pairwise_cons, List.mem_singleton, forall_eq, List.not_mem_nil, false_implies, implies_true, List.Pairwise.nil, and_true]; exact fun b (hb1 : b = b1') (hb2 : b = b2') => hne (hb1.symm.trans hb2)) (fun r hr => by rcases List.mem_cons.1 hr with rfl | hr; exact h1; rcases List.mem_cons.1 hr with rfl | hr; exact h2; cases hr)) (fun c₀ cs hu => .inl (by simp [recoverD, hu])) ?_) (fun e u' w' h => ⟨h.2.1, by rw [h.1]; rfl, h.2.2⟩)
 simp only [envOf]
 refine At.block (tR (tV (Val.ifHeldNil (by kernel_rfl) rfl) rfl (tE (At.condF rfl (tR (tV (Val.assertIs Tryz.underlying150 rfl) rfl (tV (Val.extract rfl rfl) rfl (tV (Val.extract rfl rfl) rfl (tE (At.condT rfl (tR (At.alloc Tryz.zeroValue150 rfl rfl (fun b1 => (At.storeAll (i := 0) Tryz.sizeOf150 rfl rfl rfl (by simp [Value.oneCell']) rfl rfl ?_))))))))))))))
 simp only [sc0, scS]
 refine tE (tR (At.alloc Tryz.zeroValue33 rfl rfl (fun b2 => (tE (At.mid 7 6 [blk b2 33 [Value.int .i64 0, Value.int .i64 0, Value.int .i64 0, Value.int .i64 0], blk b1 150 [_], blkP b1' 33 (fun _ => True), blk b2' 67 ([x])] [blk b2 33 [Value.int .i64 0, Value.int .i64 0, Value.int .i64 0, Value.int .i64 0], blk b1 150 [_], blk b1' 33 [Value.int .i64 0, Value.int .i64 0, Value.int .i64 0, Value.int .i64 0], blk b2' 67 ([x])] rfl (by decide +kernel) (by decide) rfl rfl (fun w hw => hw.blkP (i := 2) (fun _ => True) rfl trivial) (fun w hw => hw.blkP (i := 2) (fun _ => True) rfl trivial) ?_)))))
 simp only [List.take_succ_cons, List.take_zero, List.drop_succ_cons, List.drop_zero]
 refine PAt.val (Val.move rfl) rfl rfl rfl rfl (PAt.val (Val.move rfl) rfl rfl rfl rfl (PAt.val (Val.loadAll (i := 0) Tryz.isAgg33 Tryz.sizeOf33 rfl rfl rfl) rfl rfl rfl rfl (PAt.val (Val.field 0 rfl fo_150_0 rfl) rfl rfl rfl rfl (PAt.val (Val.load (i := 1) Tryz.isAgg67 rfl rfl rfl) rfl rfl rfl rfl (PAt.val (Val.nilCheck rfl) rfl rfl rfl rfl (PAt.midS (fun a' w' ha' hw' => storeAll_step (i := 2) Tryz.sizeOf33 rfl rfl rfl (by simp [Value.oneCell']) rfl hl a' w' ha' hw') rfl rfl (PAt.fin (tV (Val.nilCheck rfl) rfl (At.store (i := 3) Tryz.sizeOf67 rfl rfl rfl rfl (by first | decide | simp) ?_)))))))))
 simp only [sc0, scS]
 refine At.nil (At.drop 0 (At.drop 0 ?_))
 simp only [ec0, ecS]
 refine At.blkN (At.ret0 (.inr rfl) rfl rfl  (fun w hw => ?_))
 exact ⟨rfl, hw⟩
theorem caughtSaved_idle (b1' b2' : Nat) (w : World) :
    Idle Tryz.prog 112 [.pointer (some ⟨b1', 0, none⟩), .pointer (some ⟨b2', 0, none⟩)] w := by
 refine CallsD.mono (enterC (v := .nilIface) (um' := .returning) (R := fun e w' => e = .returned (.tuple #[]) ∧ Mod (fun _ => False) w w') (fun _ => False) [] Tryz.func112 rfl Tryz.ntmps112 rfl rfl ⟨by simp, by simp, by simp, Mod.refl _ _⟩ (fun c₀ cs hu => .inr ⟨by simp [recoverD, hu], rfl, rfl⟩) ?_) (fun e u' w' h => ⟨h.2.1, h.1, h.2.2⟩)
 simp only [envOf]
 refine At.block (tR (tV (Val.ifNilNil (by kernel_rfl) rfl) rfl (tE (At.condT rfl (At.region (tA rfl rfl (At.nil (At.blkN (At.ret0 (.inr rfl) rfl rfl  (fun w hw => ?_))))))))))
 exact ⟨rfl, hw.mod⟩
theorem caughtSaved_pan (b1' b2' : Nat) (cs : List Value) (x : Value) (why : Int) (w : World) (h1 : Holds w b1' 44 cs) (hl : cs.length = 2) (h2 : Holds w b2' 67 [x]) (hne : b1' ≠ b2') :
    Catches Tryz.prog 112 [.pointer (some ⟨b1', 0, none⟩), .pointer (some ⟨b2', 0, none⟩)] (brk 150 why) (blk b1' 44 cs) (blk b2' 67 [x]) (blk b1' 44 [Value.int .u32 0, Value.slice none 0 0]) (blk b2' 67 [.int .i64 why]) w := by
 refine CallsD.mono (enterC (v := .iface 150 (.agg #[.int .i64 why])) (um' := .panicking [{ v := .iface 150 (.agg #[.int .i64 why]), recovered := true }]) (R := fun e w' => e = .returned (.tuple #[]) ∧ Rep w (feet [(blk b1' 44 cs), (blk b2' 67 [x])]) [(blk b1' 44 [Value.int .u32 0, Value.slice none 0 0]), (blk b2' 67 [.int .i64 why])] w') (feet [(blk b1' 44 cs), (blk b2' 67 [x])]) [(blk b1' 44 cs), (blk b2' 67 [x])] Tryz.func112 rfl Tryz.ntmps112 rfl rfl (Rep.start (by simp only [List.pairwise_cons, List.mem_singleton, forall_eq, List.not_mem_nil, false_implies, implies_true, List.Pairwise.nil, and_true]; exact fun b (hb1 : b = b1') (hb2 : b = b2') => hne (hb1.symm.trans hb2)) (fun r hr => by rcases List.mem_cons.1 hr with rfl | hr; exact h1; rcases List.mem_cons.1 hr with rfl | hr; exact h2; cases hr)) (fun c₀ cs hu => .inl (by simp [recoverD, hu])) ?_) (fun e u' w' h => ⟨h.2.1, by rw [h.1]; rfl, h.2.2⟩)
 simp only [envOf]
 refine At.block (tR (tV (Val.ifHeldNil (by kernel_rfl) rfl) rfl (tE (At.condF rfl (tR (tV (Val.assertIs Tryz.underlying150 rfl) rfl (tV (Val.extract rfl rfl) rfl (tV (Val.extract rfl rfl) rfl (tE (At.condT rfl (tR (At.alloc Tryz.zeroValue150 rfl rfl (fun b1 => (At.storeAll (i := 0) Tryz.sizeOf150 rfl rfl rfl (by simp [Value.oneCell']) rfl rfl ?_))))))))))))))
 simp only [sc0, scS]
 refine tE (tR (At.alloc Tryz.zeroValue44 rfl rfl (fun b2 => (tE (At.mid 7 6 [blk b2 44 [Value.int .u32 0, Value.slice none 0 0], blk b1 150 [_], blkP b1' 44 (fun _ => True), blk b2' 67 ([x])] [blk b2 44 [Value.int .u32 0, Value.slice none 0 0], blk b1 150 [_], blk b1' 44 [Value.int .u32 0, Value.slice none 0 0], blk b2' 67 ([x])] rfl (by decide +kernel) (by decide) rfl rfl (fun w hw => hw.blkP (i := 2) (fun _ => True) rfl trivial) (fun w hw => hw.blkP (i := 2) (fun _ => True) rfl trivial) ?_)))))
 simp only [List.take_succ_cons, List.take_zero, List.drop_succ_cons, List.drop_zero]
 refine PAt.val (Val.move rfl) rfl rfl rfl rfl (PAt.val (Val.move rfl) rfl rfl rfl rfl (PAt.val (Val.loadAll (i := 0) Tryz.isAgg44 Tryz.sizeOf44 rfl rfl rfl) rfl rfl rfl rfl (PAt.val (Val.field 0 rfl fo_150_0 rfl) rfl rfl rfl rfl (PAt.val (Val.load (i := 1) Tryz.isAgg67 rfl rfl rfl) rfl rfl rfl rfl (PAt.val (Val.nilCheck rfl) rfl rfl rfl rfl (PAt.midS (fun a' w' ha' hw' => storeAll_step (i := 2) Tryz.sizeOf44 rfl rfl rfl (by simp [Value.oneCell']) rfl hl a' w' ha' hw') rfl rfl (PAt.fin (tV (Val.nilCheck rfl) rfl (At.store (i := 3) Tryz.sizeOf67 rfl rfl rfl rfl (by first | decide | simp) ?_)))))))))
 simp only [sc0, scS]
 refine At.nil (At.drop 0 (At.drop 0 ?_))
 simp only [ec0, ecS]
 refine At.blkN (At.ret0 (.inr rfl) rfl rfl  (fun w hw => ?_))
 exact ⟨rfl, hw⟩
theorem caughtEntry_idle (b1' b2' : Nat) (w : World) :
    Idle Tryz.prog 77 [.pointer (some ⟨b1', 0, none⟩), .pointer (some ⟨b2', 0, none⟩)] w := by
 refine CallsD.mono (enterC (v := .nilIface) (um' := .returning) (R := fun e w' => e = .returned (.tuple #[]) ∧ Mod (fun _ => False) w w') (fun _ => False) [] Tryz.func77 rfl Tryz.ntmps77 rfl rfl ⟨by simp, by simp, by simp, Mod.refl _ _⟩ (fun c₀ cs hu => .inr ⟨by simp [recoverD, hu], rfl, rfl⟩) ?_) (fun e u' w' h => ⟨h.2.1, h.1, h.2.2⟩)
 simp only [envOf]
 refine At.block (tR (tV (Val.ifNilNil (by kernel_rfl) rfl) rfl (tE (At.condT rfl (At.region (tA rfl rfl (At.nil (At.blkN (At.ret0 (.inr rfl) rfl rfl  (fun w hw => ?_))))))))))
 exact ⟨rfl, hw.mod⟩
theorem caughtEntry_pan (b1' b2' : Nat) (cs : List Value) (x : Value) (why : Int) (w : World) (h1 : Holds w b1' 37 cs) (hl : cs.length = 8) (h2 : Holds w b2' 67 [x]) (hne : b1' ≠ b2') :
    Catches Tryz.prog 77 [.pointer (some ⟨b1', 0, none⟩), .pointer (some ⟨b2', 0, none⟩)] (brk 150 why) (blk b1' 37 cs) (blk b2' 67 [x]) (blk b1' 37 [Value.int .i64 0, Value.int .u64 0, Value.int .i64 0, Value.int .i64 0, Value.int .i64 0, Value.int .i64 0, Value.int .i64 0, Value.string ⟨#[]⟩]) (blk b2' 67 [.int .i64 why]) w := by
 refine CallsD.mono (enterC (v := .iface 150 (.agg #[.int .i64 why])) (um' := .panicking [{ v := .iface 150 (.agg #[.int .i64 why]), recovered := true }]) (R := fun e w' => e = .returned (.tuple #[]) ∧ Rep w (feet [(blk b1' 37 cs), (blk b2' 67 [x])]) [(blk b1' 37 [Value.int .i64 0, Value.int .u64 0, Value.int .i64 0, Value.int .i64 0, Value.int .i64 0, Value.int .i64 0, Value.int .i64 0, Value.string ⟨#[]⟩]), (blk b2' 67 [.int .i64 why])] w') (feet [(blk b1' 37 cs), (blk b2' 67 [x])]) [(blk b1' 37 cs), (blk b2' 67 [x])] Tryz.func77 rfl Tryz.ntmps77 rfl rfl (Rep.start (by simp only [List.pairwise_cons, List.mem_singleton, forall_eq, List.not_mem_nil, false_implies, implies_true, List.Pairwise.nil, and_true]; exact fun b (hb1 : b = b1') (hb2 : b = b2') => hne (hb1.symm.trans hb2)) (fun r hr => by rcases List.mem_cons.1 hr with rfl | hr; exact h1; rcases List.mem_cons.1 hr with rfl | hr; exact h2; cases hr)) (fun c₀ cs hu => .inl (by simp [recoverD, hu])) ?_) (fun e u' w' h => ⟨h.2.1, by rw [h.1]; rfl, h.2.2⟩)
 simp only [envOf]
 refine At.block (tR (tV (Val.ifHeldNil (by kernel_rfl) rfl) rfl (tE (At.condF rfl (tR (tV (Val.assertIs Tryz.underlying150 rfl) rfl (tV (Val.extract rfl rfl) rfl (tV (Val.extract rfl rfl) rfl (tE (At.condT rfl (tR (At.alloc Tryz.zeroValue150 rfl rfl (fun b1 => (At.storeAll (i := 0) Tryz.sizeOf150 rfl rfl rfl (by simp [Value.oneCell']) rfl rfl ?_))))))))))))))
 simp only [sc0, scS]
 refine tE (tR (At.alloc Tryz.zeroValue37 rfl rfl (fun b2 => (tE (At.mid 7 6 [blk b2 37 [Value.int .i64 0, Value.int .u64 0, Value.int .i64 0, Value.int .i64 0, Value.int .i64 0, Value.int .i64 0, Value.int .i64 0, Value.string ⟨#[]⟩], blk b1 150 [_], blkP b1' 37 (fun _ => True), blk b2' 67 ([x])] [blk b2 37 [Value.int .i64 0, Value.int .u64 0, Value.int .i64 0, Value.int .i64 0, Value.int .i64 0, Value.int .i64 0, Value.int .i64 0, Value.string ⟨#[]⟩], blk b1 150 [_], blk b1' 37 [Value.int .i64 0, Value.int .u64 0, Value.int .i64 0, Value.int .i64 0, Value.int .i64 0, Value.int .i64 0, Value.int .i64 0, Value.string ⟨#[]⟩], blk b2' 67 ([x])] rfl (by decide +kernel) (by decide) rfl rfl (fun w hw => hw.blkP (i := 2) (fun _ => True) rfl trivial) (fun w hw => hw.blkP (i := 2) (fun _ => True) rfl trivial) ?_)))))
 simp only [List.take_succ_cons, List.take_zero, List.drop_succ_cons, List.drop_zero]
 refine PAt.val (Val.move rfl) rfl rfl rfl rfl (PAt.val (Val.move rfl) rfl rfl rfl rfl (PAt.val (Val.loadAll (i := 0) Tryz.isAgg37 Tryz.sizeOf37 rfl rfl rfl) rfl rfl rfl rfl (PAt.val (Val.field 0 rfl fo_150_0 rfl) rfl rfl rfl rfl (PAt.val (Val.load (i := 1) Tryz.isAgg67 rfl rfl rfl) rfl rfl rfl rfl (PAt.val (Val.nilCheck rfl) rfl rfl rfl rfl (PAt.midS (fun a' w' ha' hw' => storeAll_step (i := 2) Tryz.sizeOf37 rfl rfl rfl (by simp [Value.oneCell']) rfl hl a' w' ha' hw') rfl rfl (PAt.fin (tV (Val.nilCheck rfl) rfl (At.store (i := 3) Tryz.sizeOf67 rfl rfl rfl rfl (by first | decide | simp) ?_)))))))))
 simp only [sc0, scS]
 refine At.nil (At.drop 0 (At.drop 0 ?_))
 simp only [ec0, ecS]
 refine At.blkN (At.ret0 (.inr rfl) rfl rfl  (fun w hw => ?_))
 exact ⟨rfl, hw⟩
theorem caughtUndos_idle (b1' b2' : Nat) (w : World) :
    Idle Tryz.prog 110 [.pointer (some ⟨b1', 0, none⟩), .pointer (some ⟨b2', 0, none⟩)] w := by
 refine CallsD.mono (enterC (v := .nilIface) (um' := .returning) (R := fun e w' => e = .returned (.tuple #[]) ∧ Mod (fun _ => False) w w') (fun _ => False) [] Tryz.func110 rfl Tryz.ntmps110 rfl rfl ⟨by simp, by simp, by simp, Mod.refl _ _⟩ (fun c₀ cs hu => .inr ⟨by simp [recoverD, hu], rfl, rfl⟩) ?_) (fun e u' w' h => ⟨h.2.1, h.1, h.2.2⟩)
 simp only [envOf]
 refine At.block (tR (tV (Val.ifNilNil (by kernel_rfl) rfl) rfl (tE (At.condT rfl (At.region (tA rfl rfl (At.nil (At.blkN (At.ret0 (.inr rfl) rfl rfl  (fun w hw => ?_))))))))))
 exact ⟨rfl, hw.mod⟩
theorem caughtUndos_pan (b1' b2' : Nat) (c0 : Value) (x : Value) (why : Int) (w : World) (h1 : Holds w b1' 40 [c0]) (hl : [c0].length = 1) (h2 : Holds w b2' 67 [x]) (hne : b1' ≠ b2') :
    Catches Tryz.prog 110 [.pointer (some ⟨b1', 0, none⟩), .pointer (some ⟨b2', 0, none⟩)] (brk 150 why) (blk b1' 40 [c0]) (blk b2' 67 [x]) (blk b1' 40 [Value.slice none 0 0]) (blk b2' 67 [.int .i64 why]) w := by
 refine CallsD.mono (enterC (v := .iface 150 (.agg #[.int .i64 why])) (um' := .panicking [{ v := .iface 150 (.agg #[.int .i64 why]), recovered := true }]) (R := fun e w' => e = .returned (.tuple #[]) ∧ Rep w (feet [(blk b1' 40 [c0]), (blk b2' 67 [x])]) [(blk b1' 40 [Value.slice none 0 0]), (blk b2' 67 [.int .i64 why])] w') (feet [(blk b1' 40 [c0]), (blk b2' 67 [x])]) [(blk b1' 40 [c0]), (blk b2' 67 [x])] Tryz.func110 rfl Tryz.ntmps110 rfl rfl (Rep.start (by simp only [List.pairwise_cons, List.mem_singleton, forall_eq, List.not_mem_nil, false_implies, implies_true, List.Pairwise.nil, and_true]; exact fun b (hb1 : b = b1') (hb2 : b = b2') => hne (hb1.symm.trans hb2)) (fun r hr => by rcases List.mem_cons.1 hr with rfl | hr; exact h1; rcases List.mem_cons.1 hr with rfl | hr; exact h2; cases hr)) (fun c₀ cs hu => .inl (by simp [recoverD, hu])) ?_) (fun e u' w' h => ⟨h.2.1, by rw [h.1]; rfl, h.2.2⟩)
 simp only [envOf]
 refine At.block (tR (tV (Val.ifHeldNil (by kernel_rfl) rfl) rfl (tE (At.condF rfl (tR (tV (Val.assertIs Tryz.underlying150 rfl) rfl (tV (Val.extract rfl rfl) rfl (tV (Val.extract rfl rfl) rfl (tE (At.condT rfl (tR (At.alloc Tryz.zeroValue150 rfl rfl (fun b1 => (At.storeAll (i := 0) Tryz.sizeOf150 rfl rfl rfl (by simp [Value.oneCell']) rfl rfl ?_))))))))))))))
 simp only [sc0, scS]
 refine tE (tR (tA rfl rfl (tE (At.mid 7 6 [blk b1 150 [_], blkP b1' 40 (fun _ => True), blk b2' 67 ([x])] [blk b1 150 [_], blk b1' 40 [Value.slice none 0 0], blk b2' 67 ([x])] rfl (by decide +kernel) (by decide) rfl rfl (fun w hw => hw.blkP (i := 1) (fun _ => True) rfl trivial) (fun w hw => hw.blkP (i := 1) (fun _ => True) rfl trivial) ?_))))
 simp only [List.take_succ_cons, List.take_zero, List.drop_succ_cons, List.drop_zero]
 refine PAt.val (Val.move rfl) rfl rfl rfl rfl (PAt.val (Val.move rfl) rfl rfl rfl rfl (PAt.val (Val.move rfl) rfl rfl rfl rfl (PAt.val (Val.field 0 rfl fo_150_0 rfl) rfl rfl rfl rfl (PAt.val (Val.load (i := 0) Tryz.isAgg67 rfl rfl rfl) rfl rfl rfl rfl (PAt.val (Val.nilCheck rfl) rfl rfl rfl rfl (PAt.midS (fun a' w' ha' hw' => storeOne_step (i := 1) (v := .slice none 0 0) (cs := [c0]) (off := 0) Tryz.sizeOf40 rfl rfl rfl rfl (by simp) a' w' ha' hw') rfl rfl (PAt.fin (tV (Val.nilCheck rfl) rfl (At.store (i := 2) Tryz.sizeOf67 rfl rfl rfl rfl (by first | decide | simp) ?_)))))))))
 simp only [sc0, scS]
 refine At.nil (At.drop 0 ?_)
 simp only [ec0, ecS]
 refine At.blkN (At.ret0 (.inr rfl) rfl rfl  (fun w hw => ?_))
 exact ⟨rfl, hw⟩
end Go.Proofs.YthdmlpjhcalliaaGreatDoor
namespace Go.Proofs.YthdmlpjhcalliaaGreatDoor
open Go Go.Wk
theorem sealR_p (a : Int) (v : BitVec 32) (w : World) :
    PureC Tryz.prog 71 [.int .i64 a, b32 v] (b64 (sealW (BitVec.ofInt 64 a) v)) w := by
 refine enter0 Tryz.func71 rfl Tryz.ntmps71 rfl ?_
 simp only [envOf]
 refine tR (tA rfl rfl (tE (At.seq (tR (tM rfl rfl (tV (Val.bin rfl rfl rfl) rfl (tE ?_)))))))
 refine At.cond rfl (fun h1 => ?_) (fun h1 => ?_)
 ·refine tR (tA rfl rfl (tE (At.retC (At.thenR (At.ret1 (.inl rfl) rfl rfl rfl (fun w hw => ?_))))))
  exact ⟨by rw [seal_zero (by have := h1; simp at this; exact BitVec.eq_of_toNat_eq (by simpa using this))]; rfl, hw.mod⟩
 ·refine At.skipC (At.thenN (tR (tA rfl rfl (tE (tR (tM rfl rfl (tM rfl rfl (tV (Val.conv Tryz.underlying3 Tryz.underlying34 rfl) rfl ?_))))))))
  rw [wrap_u64_int]
  refine At.rowNil 5 1 ?_
  refine At.callR 0 rfl (fun w hw hr => rlay_p _ [] (BitVec.ofInt 64 a).toNat 8 w hr (by have := (BitVec.ofInt 64 a).isLt; omega) (by decide) (by decide)) Tryz.call57 rfl rfl (fun v2 => ?_)
  simp only [sc0, scS]
  refine tA rfl rfl (tE (tR (tM rfl rfl (tM rfl rfl (tV (Val.conv Tryz.underlying41 Tryz.underlying34 rfl) rfl ?_)))))
  rw [wrap_u64 (n := (v.toNat : Int)) (by omega) (by have := v.isLt; omega)]
  refine At.callR 0 rfl (fun w hw hr => rlay_p _ ([] ++ le 8 (BitVec.ofInt 64 a).toNat) v.toNat 4 w hr (by have := v.isLt; omega) (by decide) (by simp [le_length])) Tryz.call57 rfl rfl (fun v3 => ?_)
  simp only [sc0, scS]
  refine tA rfl rfl (At.nil (At.rowIs (i := 0) rfl (fun A4 c5 hv => ?_)))
  subst hv
  refine At.thenN (tR (tM rfl rfl (At.callP (fun w hw => rsum_n A4 ([] ++ le 8 (BitVec.ofInt 64 a).toNat ++ le 4 v.toNat) _ c5 w rfl (row_bytes (hw.row (i := 0) rfl)) (by simp [le_length])) Tryz.call88 rfl rfl (tA rfl rfl (tE (tR (tM rfl rfl (tV (Val.conv Tryz.underlying41 Tryz.underlying34 rfl) rfl (tV (Val.bin rfl rfl rfl) rfl (tM rfl rfl (tV (Val.conv Tryz.underlying41 Tryz.underlying34 rfl) rfl (tV (Val.bin rfl rfl rfl) rfl (tA rfl rfl (tE (At.retC (At.ret1 (.inl rfl) rfl rfl rfl (fun w hw => ?_)))))))))))))))))
  have hv : v ≠ 0 := by intro e; subst e; simp at h1
  have hn := seal_nat (a := (BitVec.ofInt 64 a)) hv
  have hl := (checkW (BitVec.ofInt 64 a) v).isLt
  have hl2 := v.isLt
  exact ⟨retI (by rw [show sumOn 0 ([] ++ le 8 (BitVec.ofInt 64 a).toNat ++ le 4 v.toNat) = checkW (BitVec.ofInt 64 a) v from rfl, wrap_u64 (n := ((checkW (BitVec.ofInt 64 a) v).toNat : Int)) (by omega) (by omega), wrap_u64 (n := ((checkW (BitVec.ofInt 64 a) v).toNat : Int) * 4294967296) (by omega) (by omega), wrap_u64 (n := (v.toNat : Int)) (by omega) (by omega), wrap_u64 (by omega) (by omega), hn]; omega), hw.mod⟩
theorem unsealR_p (a : Int) (x : BitVec 64) (w : World) :
    PureC Tryz.prog 74 [.int .i64 a, b64 x] (unsealV (BitVec.ofInt 64 a) x) w := by
 refine enter0 Tryz.func74 rfl Tryz.ntmps74 rfl ?_
 simp only [envOf]
 refine tR (tA rfl rfl (tA rfl rfl (tE (tR (tM rfl rfl (tV (Val.rem rfl rfl (by decide)) rfl (tV (Val.conv Tryz.underlying34 Tryz.underlying41 rfl) rfl ?_)))))))
 rw [low32]
 refine tA rfl rfl (tE (tR (tM rfl rfl (tM rfl rfl (At.callP (fun w hw => sealR_p _ _ w) Tryz.call71 rfl rfl (tA rfl rfl (tE (At.seq (tR (tM rfl rfl (tM rfl rfl (tV (Val.bin rfl rfl rfl) rfl (tE ?_)))))))))))))
 refine At.cond rfl (fun h1 => ?_) (fun h1 => ?_)
 ·refine tR (tA rfl rfl (tA rfl rfl (tE (At.retC (At.thenR (At.ret2 (.inl rfl) rfl rfl rfl rfl (fun w hw => ?_)))))))
  exact ⟨by rw [unseal_no (bv_ne64 h1)], hw.mod⟩
 ·refine At.skipC (At.thenN (tR (tM rfl rfl (tA rfl rfl (tA rfl rfl (tE (At.retC (At.ret2 (.inl rfl) rfl rfl rfl rfl (fun w hw => ?_)))))))))
  exact ⟨by rw [unseal_yes (bv_eq64 h1)], hw.mod⟩
theorem held_T (a : Int) (x : BitVec 64) (why : Int) (w : World) (ht : Tab w) (hs : sealW (BitVec.ofInt 64 a) (x.setWidth 32) = x) :
    PureC Tryz.prog 73 [.int .i64 a, b64 x, .int .i64 why] (.int .i64 ((x.setWidth 32).toNat : Nat)) w := by
 refine enter0 Tryz.func73 rfl Tryz.ntmps73 rfl ?_
 simp only [envOf]
 refine tR (tA rfl rfl (tE (tR (tM rfl rfl (tM rfl rfl ?_)))))
 refine At.callP (fun w hw => (by have := unseal_p a x w (ht.mod hw.mod); rwa [unseal_yes hs] at this)) Tryz.call102 rfl rfl (tM rfl rfl (tV (Val.extract rfl rfl) rfl (tV (Val.extract rfl rfl) rfl (tA rfl rfl (tA rfl rfl (tE (tR (tM rfl rfl (tV (Val.bin rfl rfl rfl) rfl (tM rfl rfl (At.callP (fun w hw => must_T _ w) Tryz.call62 rfl rfl (tE (tR (tM rfl rfl (tV (Val.conv Tryz.underlying41 Tryz.underlying3 rfl) rfl ?_)))))))))))))))
 rw [i64_32]
 refine tA rfl rfl (tE (At.retC (At.ret1 (.inl rfl) rfl rfl rfl (fun w hw => ?_))))
 exact ⟨rfl, hw.mod⟩
theorem held_F (a : Int) (x : BitVec 64) (why : Int) (w : World) (ht : Tab w) (hs : ¬ sealW (BitVec.ofInt 64 a) (x.setWidth 32) = x) :
    Throws0 Tryz.prog 73 [.int .i64 a, b64 x, .int .i64 why] (brk 150 why) w := by
 refine enter0 Tryz.func73 rfl Tryz.ntmps73 rfl ?_
 simp only [envOf]
 refine tR (tA rfl rfl (tE (tR (tM rfl rfl (tM rfl rfl ?_)))))
 refine At.callP (fun w hw => (by have := unseal_p a x w (ht.mod hw.mod); rwa [unseal_no hs] at this)) Tryz.call102 rfl rfl (tM rfl rfl (tV (Val.extract rfl rfl) rfl (tV (Val.extract rfl rfl) rfl (tA rfl rfl (tA rfl rfl (tE (tR (tM rfl rfl (tV (Val.bin rfl rfl rfl) rfl (tM rfl rfl (At.callT0 (fun w hw => must_F _ w) Tryz.call62 rfl (At.thenE (At.fail rfl (fun w hw => ?_))))))))))))))
 exact ⟨rfl, hw.mod⟩
def GoodH (p n o : Int) : Prop := 5 ≤ p ∧ p ≤ 1023 ∧ 1 ≤ o ∧ o ≤ 256 ∧ (n = 0 ∨ 5 ≤ n ∧ n ≤ 1023)
instance (p n o : Int) : Decidable (GoodH p n o) := by unfold GoodH; infer_instance
def GoodH1 (n o : Int) : Prop := 1 ≤ o ∧ o ≤ 256 ∧ (n = 0 ∨ 5 ≤ n ∧ n ≤ 1023)
instance (n o : Int) : Decidable (GoodH1 n o) := by unfold GoodH1; infer_instance
def hdr (p n o : Int) : List (BitVec 64) := [sealW (BitVec.ofInt 64 (512 * p)) (BitVec.ofInt 32 n), sealW (BitVec.ofInt 64 (512 * p + 8)) (BitVec.ofInt 32 o)]
def packHdrV (p n o : Int) : Value := if GoodH p n o then .tuple #[.agg ((hdr p n o).map b64).toArray, .int .i64 0] else .tuple #[.agg #[.int .u64 0, .int .u64 0], .int .i64 33]
theorem packHdr_yes {p n o : Int} (h : GoodH p n o) : packHdrV p n o = .tuple #[.agg ((hdr p n o).map b64).toArray, .int .i64 0] := if_pos h
theorem packHdr_no {p n o : Int} (h : ¬ GoodH p n o) : packHdrV p n o = .tuple #[.agg #[.int .u64 0, .int .u64 0], .int .i64 33] := if_neg h
theorem hdr_cells (p n o : Int) : (.agg ((hdr p n o).map b64).toArray : Value) = .agg #[b64 (sealW (BitVec.ofInt 64 (512 * p)) (BitVec.ofInt 32 n)), b64 (sealW (BitVec.ofInt 64 (512 * p + 8)) (BitVec.ofInt 32 o))] := rfl
theorem goodHdr_p (p n o : Int) (w : World) :
    PureC Tryz.prog 79 [.int .i64 p, .agg #[.int .i64 n, .int .i64 o]] (.bool (decide (GoodH p n o))) w := by
 refine enter0 Tryz.func79 rfl Tryz.ntmps79 rfl ?_
 simp only [envOf]
 refine tR (At.box rfl rfl rfl (fun b1 => (tA rfl rfl (tE (tR (tM rfl rfl (At.callP (fun w hw => isData_p _ w) Tryz.call83 rfl rfl (tM rfl rfl ?_))))))))
 refine At.split (t := 7) rfl (fun h2 => ?_) (fun h2 => ?_)
 ·try simp only [wI_T, wI_F, data_T, data_F, ino_T, ino_F, notT, notF, bneT, bneF, beqT, beqF, decT, decF] at h2
  refine At.yes rfl rfl (tV (Val.field 1 rfl fo_47_1 rfl) rfl (At.yes rfl rfl (tV (Val.load (i := 0) Tryz.isAgg3 rfl rfl rfl) rfl (At.yes rfl rfl (At.callP (fun w hw => isInode_p _ w) Tryz.call59 rfl rfl (tV (Val.pickT rfl rfl) rfl (tM rfl rfl ?_)))))))
  refine At.split (t := 12) rfl (fun h3 => ?_) (fun h3 => ?_)
  ·try simp only [wI_T, wI_F, data_T, data_F, ino_T, ino_F, notT, notF, bneT, bneF, beqT, beqF, decT, decF] at h3
   refine At.yes rfl rfl (tV (Val.field 0 rfl fo_47_0 rfl) rfl (At.yes rfl rfl (tV (Val.load (i := 0) Tryz.isAgg3 rfl rfl rfl) rfl (At.yes rfl rfl (tV (Val.bin rfl rfl rfl) rfl (At.yes rfl rfl (tM rfl rfl ?_)))))))
   refine At.split (t := 16) rfl (fun h4 => ?_) (fun h4 => ?_)
   ·try simp only [wI_T, wI_F, data_T, data_F, ino_T, ino_F, notT, notF, bneT, bneF, beqT, beqF, decT, decF] at h4
    refine At.no rfl rfl rfl rfl (At.no rfl rfl rfl rfl (At.no rfl rfl rfl rfl (At.yes rfl rfl (tV (Val.pickT rfl rfl) rfl (tV (Val.pickT rfl rfl) rfl (tA rfl rfl (tE (At.retC (At.ret1 (.inl rfl) rfl rfl rfl (fun w hw => ?_))))))))))
    exact ⟨retB (by first | exact (decide_eq_true (by unfold GoodH; omega)).symm | exact (decide_eq_false (by unfold GoodH; omega)).symm | (apply Bool.eq_iff_iff.2; simp only [decide_eq_true_eq, data_T, ino_T]; unfold GoodH; omega)), hw.mod⟩
   ·try simp only [wI_T, wI_F, data_T, data_F, ino_T, ino_F, notT, notF, bneT, bneF, beqT, beqF, decT, decF] at h4
    refine At.yes rfl rfl (tV (Val.field 0 rfl fo_47_0 rfl) rfl (At.yes rfl rfl (tV (Val.load (i := 0) Tryz.isAgg3 rfl rfl rfl) rfl (At.yes rfl rfl (At.callP (fun w hw => isData_p _ w) Tryz.call83 rfl rfl (At.yes rfl rfl (tV (Val.pickF rfl rfl) rfl (tV (Val.pickT rfl rfl) rfl (tA rfl rfl (tE (At.retC (At.ret1 (.inl rfl) rfl rfl rfl (fun w hw => ?_)))))))))))))
    exact ⟨retB (by first | exact (decide_eq_true (by unfold GoodH; omega)).symm | exact (decide_eq_false (by unfold GoodH; omega)).symm | (apply Bool.eq_iff_iff.2; simp only [decide_eq_true_eq, data_T, ino_T]; unfold GoodH; omega)), hw.mod⟩
  ·try simp only [wI_T, wI_F, data_T, data_F, ino_T, ino_F, notT, notF, bneT, bneF, beqT, beqF, decT, decF] at h3
   refine At.no rfl rfl rfl rfl (At.no rfl rfl rfl rfl (At.no rfl rfl rfl rfl (At.no rfl rfl rfl rfl (At.noU rfl rfl rfl (At.noU rfl rfl rfl (At.noU rfl rfl rfl (At.no rfl rfl rfl rfl (tV (Val.pickF rfl rfl) rfl (tA rfl rfl (tE (At.retC (At.ret1 (.inl rfl) rfl rfl rfl (fun w hw => ?_)))))))))))))
   exact ⟨retB (by first | exact (decide_eq_true (by unfold GoodH; omega)).symm | exact (decide_eq_false (by unfold GoodH; omega)).symm | (apply Bool.eq_iff_iff.2; simp only [decide_eq_true_eq, data_T, ino_T]; unfold GoodH; omega)), hw.mod⟩
 ·try simp only [wI_T, wI_F, data_T, data_F, ino_T, ino_F, notT, notF, bneT, bneF, beqT, beqF, decT, decF] at h2
  refine At.no rfl rfl rfl rfl (At.no rfl rfl rfl rfl (At.no rfl rfl rfl rfl (tV (Val.pickF rfl rfl) rfl (tM rfl rfl (At.no rfl rfl rfl rfl (At.no rfl rfl rfl rfl (At.no rfl rfl rfl rfl (At.no rfl rfl rfl rfl (At.noU rfl rfl rfl (At.noU rfl rfl rfl (At.noU rfl rfl rfl (At.no rfl rfl rfl rfl (tV (Val.pickF rfl rfl) rfl (tA rfl rfl (tE (At.retC (At.ret1 (.inl rfl) rfl rfl rfl (fun w hw => ?_))))))))))))))))))
  exact ⟨retB (by first | exact (decide_eq_true (by unfold GoodH; omega)).symm | exact (decide_eq_false (by unfold GoodH; omega)).symm | (apply Bool.eq_iff_iff.2; simp only [decide_eq_true_eq, data_T, ino_T]; unfold GoodH; omega)), hw.mod⟩
theorem goodHdrR_p (n o : Int) (w : World) :
    PureC Tryz.prog 81 [.agg #[.int .i64 n, .int .i64 o]] (.bool (decide (GoodH1 n o))) w := by
 refine enter0 Tryz.func81 rfl Tryz.ntmps81 rfl ?_
 simp only [envOf]
 refine tR (At.box rfl rfl rfl (fun b1 => (tA rfl rfl (tE (tR (tV (Val.field 1 rfl fo_47_1 rfl) rfl (tV (Val.load (i := 0) Tryz.isAgg3 rfl rfl rfl) rfl (At.callP (fun w hw => inodeR_p _ w) Tryz.call60 rfl rfl (tM rfl rfl ?_)))))))))
 refine At.split (t := 6) rfl (fun h2 => ?_) (fun h2 => ?_)
 ·try simp only [wI_T, wI_F, data_T, data_F, ino_T, ino_F, notT, notF, bneT, bneF, beqT, beqF, decT, decF] at h2
  refine At.yes rfl rfl (tV (Val.field 0 rfl fo_47_0 rfl) rfl (At.yes rfl rfl (tV (Val.load (i := 0) Tryz.isAgg3 rfl rfl rfl) rfl (At.yes rfl rfl (tV (Val.bin rfl rfl rfl) rfl (At.yes rfl rfl (tM rfl rfl ?_)))))))
  refine At.split (t := 10) rfl (fun h3 => ?_) (fun h3 => ?_)
  ·try simp only [wI_T, wI_F, data_T, data_F, ino_T, ino_F, notT, notF, bneT, bneF, beqT, beqF, decT, decF] at h3
   refine At.no rfl rfl rfl rfl (At.no rfl rfl rfl rfl (At.no rfl rfl rfl rfl (At.yes rfl rfl (tV (Val.pickT rfl rfl) rfl (tV (Val.pickT rfl rfl) rfl (tA rfl rfl (tE (At.retC (At.ret1 (.inl rfl) rfl rfl rfl (fun w hw => ?_))))))))))
   exact ⟨retB (by first | exact (decide_eq_true (by unfold GoodH1; omega)).symm | exact (decide_eq_false (by unfold GoodH1; omega)).symm | (apply Bool.eq_iff_iff.2; simp only [decide_eq_true_eq, data_T, ino_T]; unfold GoodH1; omega)), hw.mod⟩
  ·try simp only [wI_T, wI_F, data_T, data_F, ino_T, ino_F, notT, notF, bneT, bneF, beqT, beqF, decT, decF] at h3
   refine At.yes rfl rfl (tV (Val.field 0 rfl fo_47_0 rfl) rfl (At.yes rfl rfl (tV (Val.load (i := 0) Tryz.isAgg3 rfl rfl rfl) rfl (At.yes rfl rfl (At.callP (fun w hw => dataR_p _ w) Tryz.call80 rfl rfl (At.yes rfl rfl (tV (Val.pickF rfl rfl) rfl (tV (Val.pickT rfl rfl) rfl (tA rfl rfl (tE (At.retC (At.ret1 (.inl rfl) rfl rfl rfl (fun w hw => ?_)))))))))))))
   exact ⟨retB (by first | exact (decide_eq_true (by unfold GoodH1; omega)).symm | exact (decide_eq_false (by unfold GoodH1; omega)).symm | (apply Bool.eq_iff_iff.2; simp only [decide_eq_true_eq, data_T, ino_T]; unfold GoodH1; omega)), hw.mod⟩
 ·try simp only [wI_T, wI_F, data_T, data_F, ino_T, ino_F, notT, notF, bneT, bneF, beqT, beqF, decT, decF] at h2
  refine At.no rfl rfl rfl rfl (At.no rfl rfl rfl rfl (At.no rfl rfl rfl rfl (At.no rfl rfl rfl rfl (At.noU rfl rfl rfl (At.noU rfl rfl rfl (At.noU rfl rfl rfl (At.no rfl rfl rfl rfl (tV (Val.pickF rfl rfl) rfl (tA rfl rfl (tE (At.retC (At.ret1 (.inl rfl) rfl rfl rfl (fun w hw => ?_)))))))))))))
  exact ⟨retB (by first | exact (decide_eq_true (by unfold GoodH1; omega)).symm | exact (decide_eq_false (by unfold GoodH1; omega)).symm | (apply Bool.eq_iff_iff.2; simp only [decide_eq_true_eq, data_T, ino_T]; unfold GoodH1; omega)), hw.mod⟩
theorem packHdr_p (p n o : Int) (w : World) (ht : Tab w) :
    PureC Tryz.prog 35 [.int .i64 p, .agg #[.int .i64 n, .int .i64 o]] (packHdrV p n o) w := by
 refine enter0 Tryz.func35 rfl Tryz.ntmps35 rfl ?_
 simp only [envOf]
 refine tR (At.box rfl rfl rfl (fun b1 => (At.alloc zero_58 zc_58 rfl (fun b2 => (tA rfl rfl (tE (At.seq (tR (tM rfl rfl (tV (Val.loadAll (i := 1) Tryz.isAgg47 Tryz.sizeOf47 rfl rfl rfl) rfl (At.callP (fun w hw => goodHdr_p _ _ _ w) Tryz.call79 rfl rfl (tV (Val.not rfl) rfl (tE ?_)))))))))))))
 refine At.cond rfl (fun h3 => ?_) (fun h3 => ?_)
 ·have hg : ¬ GoodH p n o := by simpa using h3
  refine tR ?_
  refine tV (Val.build (fun a ha => by simp only [List.map_toArray, List.map_cons, List.map_nil] <;> rfl) (bld_58_)) rfl (At.storeAll (i := 0) Tryz.sizeOf58 rfl rfl rfl (by simp [Value.oneCell']) rfl (by simp) ?_)
  simp only [sc0, scS]
  refine tA rfl rfl (tE (At.retC (At.thenR (At.ret2 (.inl rfl) rfl rfl (ResOf.all (i := 0) Tryz.isAgg58 Tryz.sizeOf58 rfl rfl (by simp)) rfl (fun w hw => ?_)))))
  exact ⟨by rw [packHdr_no hg], hw.mod⟩
 ·have hg : GoodH p n o := by simpa using h3
  have hg' := hg
  unfold GoodH at hg'
  refine At.skipC (At.thenN (tR (tM rfl rfl (tV (Val.bin rfl rfl rfl) rfl ?_))))
  rw [wrap_i64 (n := p * 512) (by omega) (by omega), Int.mul_comm p 512]
  refine tA rfl rfl (tE (At.seq (At.tail 12 rfl (by decide +kernel) ?_)))
  simp only [List.take_succ_cons, List.take_zero, List.drop_succ_cons, List.drop_zero]
  refine qM rfl rfl (qV (Val.field 0 rfl fo_47_0 rfl) rfl (qV (Val.load (i := 1) Tryz.isAgg3 rfl rfl rfl) rfl (qV (Val.conv Tryz.underlying3 Tryz.underlying41 rfl) rfl ?_)))
  rw [wrap_u32_int n]
  refine QAt.callP (fun w hw => seal_p (512 * p) (BitVec.ofInt 32 n) w (ht.mod hw.mod)) Tryz.call69 rfl rfl (qM rfl rfl (qV (Val.bin rfl rfl rfl) rfl ?_))
  rw [wrap_i64 (n := 512 * p + 8) (by omega) (by omega)]
  refine qV (Val.field 1 rfl fo_47_1 rfl) rfl (qV (Val.load (i := 1) Tryz.isAgg3 rfl rfl rfl) rfl (qV (Val.conv Tryz.underlying3 Tryz.underlying41 rfl) rfl ?_))
  rw [wrap_u32_int o]
  refine QAt.callP (fun w hw => seal_p (512 * p + 8) (BitVec.ofInt 32 o) w (ht.mod hw.mod)) Tryz.call69 rfl rfl ?_
  refine qV (Val.build (fun a ha => by simp only [List.map_toArray, List.map_cons, List.map_nil, ha.eval (x := (.tmp 18)) rfl, ha.eval (x := (.tmp 24)) rfl] <;> rfl) (bld_58_0_1 _ _ )) rfl (QAt.fin (At.storeAll (i := 0) Tryz.sizeOf58 rfl rfl rfl (by simp [Value.oneCell']) rfl (by simp) ?_))
  simp only [sc0, scS]
  refine tA rfl rfl (tE (At.retC (At.ret2 (.inl rfl) rfl rfl (ResOf.all (i := 0) Tryz.isAgg58 Tryz.sizeOf58 rfl rfl (by simp)) rfl (fun w hw => ?_))))
  exact ⟨by rw [packHdr_yes hg, hdr_cells], hw.mod⟩
theorem packHdrR_p (p n o : Int) (w : World) :
    PureC Tryz.prog 36 [.int .i64 p, .agg #[.int .i64 n, .int .i64 o]] (packHdrV p n o) w := by
 refine enter0 Tryz.func36 rfl Tryz.ntmps36 rfl ?_
 simp only [envOf]
 refine tR (At.box rfl rfl rfl (fun b1 => (At.alloc zero_58 zc_58 rfl (fun b2 => (tA rfl rfl (tE (At.seq (tR (tM rfl rfl (At.callP (fun w hw => dataR_p _ w) Tryz.call80 rfl rfl (tV (Val.not rfl) rfl (tM rfl rfl ?_))))))))))))
 refine At.split (t := 10) rfl (fun h3 => ?_) (fun h3 => ?_)
 ·try simp only [wI_T, wI_F, data_T, data_F, ino_T, ino_F, notT, notF, bneT, bneF, beqT, beqF, decT, decF] at h3
  refine At.no rfl rfl rfl rfl (At.no rfl rfl rfl rfl (At.no rfl rfl rfl rfl (tV (Val.pickT rfl rfl) rfl (tE (At.condT rfl (tR ?_))))))
  refine tV (Val.build (fun a ha => by simp only [List.map_toArray, List.map_cons, List.map_nil] <;> rfl) (bld_58_)) rfl (At.storeAll (i := 0) Tryz.sizeOf58 rfl rfl rfl (by simp [Value.oneCell']) rfl (by simp) ?_)
  simp only [sc0, scS]
  refine tA rfl rfl (tE (At.retC (At.thenR (At.ret2 (.inl rfl) rfl rfl (ResOf.all (i := 0) Tryz.isAgg58 Tryz.sizeOf58 rfl rfl (by simp)) rfl (fun w hw => ?_)))))
  exact ⟨by rw [packHdr_no (by unfold GoodH; omega)], hw.mod⟩
 ·try simp only [wI_T, wI_F, data_T, data_F, ino_T, ino_F, notT, notF, bneT, bneF, beqT, beqF, decT, decF] at h3
  refine At.yes rfl rfl (tV (Val.loadAll (i := 1) Tryz.isAgg47 Tryz.sizeOf47 rfl rfl rfl) rfl (At.yes rfl rfl (At.callP (fun w hw => goodHdrR_p _ _ w) Tryz.call81 rfl rfl (At.yes rfl rfl (tV (Val.not rfl) rfl (tV (Val.pickF rfl rfl) rfl (tE ?_)))))))
  refine At.cond rfl (fun h4 => ?_) (fun h4 => ?_)
  ·try simp only [wI_T, wI_F, data_T, data_F, ino_T, ino_F, notT, notF, bneT, bneF, beqT, beqF, decT, decF] at h4
   have hg : ¬ GoodH p n o := by unfold GoodH; unfold GoodH1 at *; omega
   refine tR ?_
   refine tV (Val.build (fun a ha => by simp only [List.map_toArray, List.map_cons, List.map_nil] <;> rfl) (bld_58_)) rfl (At.storeAll (i := 0) Tryz.sizeOf58 rfl rfl rfl (by simp [Value.oneCell']) rfl (by simp) ?_)
   simp only [sc0, scS]
   refine tA rfl rfl (tE (At.retC (At.thenR (At.ret2 (.inl rfl) rfl rfl (ResOf.all (i := 0) Tryz.isAgg58 Tryz.sizeOf58 rfl rfl (by simp)) rfl (fun w hw => ?_)))))
   exact ⟨by rw [packHdr_no hg], hw.mod⟩
  ·try simp only [wI_T, wI_F, data_T, data_F, ino_T, ino_F, notT, notF, bneT, bneF, beqT, beqF, decT, decF] at h4
   have hg : GoodH p n o := by unfold GoodH; unfold GoodH1 at *; omega
   have hg' := hg
   unfold GoodH at hg'
   refine At.skipC (At.thenN (tR (At.alloc zero_58 zc_58 rfl (fun b5 => (tE (tR (tM rfl rfl (tV (Val.bin rfl rfl rfl) rfl ?_))))))))
   rw [wrap_i64 (n := 512 * p) (by omega) (by omega)]
   refine tV (Val.field 0 rfl fo_47_0 rfl) rfl (tV (Val.load (i := 2) Tryz.isAgg3 rfl rfl rfl) rfl (tV (Val.conv Tryz.underlying3 Tryz.underlying41 rfl) rfl ?_))
   rw [wrap_u32_int n]
   refine At.callP (fun w hw => sealR_p (512 * p) (BitVec.ofInt 32 n) w) Tryz.call71 rfl rfl (tV (Val.indexArr 0 rfl Tryz.underlying58 Tryz.sizeOf34 rfl rfl (by decide) (by decide)) rfl ?_)
   refine At.store (i := 0) Tryz.sizeOf34 rfl rfl rfl rfl (by first | (simp; done) | (simp; omega)) ?_
   simp only [sc0, scS]
   refine tE (tR (tM rfl rfl (tV (Val.bin rfl rfl rfl) rfl ?_)))
   rw [wrap_i64 (n := 512 * p) (by omega) (by omega)]
   refine tV (Val.bin rfl rfl rfl) rfl ?_
   rw [wrap_i64 (n := 512 * p + 8) (by omega) (by omega)]
   refine tV (Val.field 1 rfl fo_47_1 rfl) rfl (tV (Val.load (i := 2) Tryz.isAgg3 rfl rfl rfl) rfl (tV (Val.conv Tryz.underlying3 Tryz.underlying41 rfl) rfl ?_))
   rw [wrap_u32_int o]
   refine At.callP (fun w hw => sealR_p (512 * p + 8) (BitVec.ofInt 32 o) w) Tryz.call71 rfl rfl (tV (Val.indexArr 1 rfl Tryz.underlying58 Tryz.sizeOf34 rfl rfl (by decide) (by decide)) rfl ?_)
   refine At.store (i := 0) Tryz.sizeOf34 rfl rfl rfl rfl (by first | (simp; done) | (simp; omega)) ?_
   simp only [sc0, scS]
   refine tE (tR (tV (Val.loadAll (i := 0) Tryz.isAgg58 Tryz.sizeOf58 rfl rfl (by simp)) rfl (At.storeAll (i := 1) Tryz.sizeOf58 rfl rfl (by simp) (by simp [Value.oneCell']) rfl (by simp) ?_)))
   simp only [sc0, scS]
   refine tA rfl rfl (tE (At.retC (At.ret2 (.inl rfl) rfl rfl (ResOf.all (i := 1) Tryz.isAgg58 Tryz.sizeOf58 rfl rfl (by simp)) rfl (fun w hw => ?_))))
   exact ⟨by rw [packHdr_yes hg, hdr_cells]; rfl, hw.mod⟩
end Go.Proofs.YthdmlpjhcalliaaGreatDoor
namespace Go.Proofs.YthdmlpjhcalliaaGreatDoor
open Go Go.Wk
theorem filled_p (v : Value) (l : List UInt8) (n : Nat) (w : World) (ho : w.ownsRow 0 5 1 v l.length (l.map bv)) (hlen : l.length ≤ 140737488355328) (hn : n ≤ 140737488355328) :
    RowUpd Tryz.prog 89 [v, .int .i64 (n : Int)] v 5 1 l.length (l.map bv) (l ++ zs (n - l.length)).length ((l ++ zs (n - l.length)).map bv) w := by
 refine enter (feet [brow 5 v l]) [brow 5 v l] Tryz.func89 rfl Tryz.ntmps89 rfl (Rep.one ho) ?_
 simp only [envOf]
 refine tR (tA rfl rfl (tE (At.seq (At.block ?_))))
 skip
 refine At.loop (σ := Nat × Value) (fun s => s.1 ≤ n - l.length) (fun s => [(0, s.2), (1, .int .i64 (n : Int))]) (fun s => [brow 5 s.2 (l ++ zs s.1)]) (fun s => n - l.length - s.1) (0, v) (Nat.zero_le _) (Sub.cons rfl (Sub.cons rfl Sub.nil)) (by simp [zs]) ?_
 intro s hs
 obtain ⟨k, vk⟩ := s
 dsimp only at hs ⊢
 refine At.seq (tR (tM rfl rfl (tV (Val.lenRow (i := 0) Tryz.underlying45 rfl rfl) rfl (tM rfl rfl (tV (Val.bin rfl rfl rfl) rfl (tE ?_))))))
 refine At.cond rfl (fun h1 => ?_) (fun h1 => ?_)
 ·have hk : l.length + k < n := by have := h1; simp [zs_length] at this; omega
  refine At.skipC (At.thenN (At.block (At.region (tM rfl rfl (At.buildSl (fun a ha => by simp only [List.map_toArray, List.map_cons, List.map_nil, ha.eval (x := (.const (.int .u8 (0)))) rfl]; try rfl) (bs_45_1 _ ) rfl (fun b2 => (At.append (i := 1) (sz := 1) (by_ := 1) Tryz.underlying45 info_5 rfl rfl rfl rfl rfl rfl rfl rfl rfl (fun w hw j u hj => by rw [Nat.zero_add]; exact ((hw.blk (i := 0) rfl).cell j).trans hj) (by simp [Value.oneCell']) (by rw [List.length_append, zs_length]; omega) (by rw [List.length_append, zs_length]; omega) rfl (fun v3 => ?_))))))))
  simp only [sc0, scS]
  refine At.drop 0 ?_
  simp only [ec0, ecS]
  refine tA rfl rfl (At.nil ?_)
  rw [show Value.int .u8 0 = bv 0 from rfl, brow_snoc, List.append_assoc, zs_succ]
  refine At.blkN (At.thenN ?_)
  exact At.again (k + 1, v3) (show k + 1 ≤ _ by omega) (by dsimp only; omega) (Sub.cons rfl (Sub.cons rfl Sub.nil)) (List.Perm.refl _)
 ·have hk : k = n - l.length := by have := h1; simp [zs_length] at this; omega
  refine At.exitC (At.thenX (At.thenX (At.blkX (At.thenN (tR (tM rfl rfl (tA rfl rfl (tE (At.retC (At.ret1 (.inl rfl) rfl rfl rfl (fun w hw => ?_)))))))))))
  exact ⟨vk, rfl, by have := hw; rw [hk] at this; exact this⟩
theorem line_p (v : Value) (l : List UInt8) (w : World) (ho : w.ownsRow 0 5 1 v l.length (l.map bv)) (hlen : l.length ≤ 60) :
    Use Tryz.prog 58 [v] (brow 5 v l) (lineV l) w := by
 refine enter (feet [brow 5 v l]) [brow 5 v l] Tryz.func58 rfl Tryz.ntmps58 rfl (Rep.one ho) ?_
 have hL := lineL_row hlen
 have hL4 := lineL_length hlen
 have h60 : (l ++ zs (60 - l.length)).length = 60 := by simp [zs]; omega
 simp only [envOf]
 refine tR (At.alloc zero_39 zc_39 rfl (fun b1 => (tE (tR (tM rfl rfl (At.callR 1 rfl (fun w hw hr => filled_p _ _ 60 w hr (by omega) (by decide)) Tryz.call89 rfl rfl (fun v2 => ?_)))))))
 simp only [sc0, scS]
 refine tA rfl rfl (At.nil (At.rowIs (i := 1) rfl (fun A3 c4 hv => ?_)))
 subst hv
 refine At.thenN (tR (tM rfl rfl (At.callP (fun w hw => rsum_n A3 (l ++ zs (60 - l.length)) _ c4 w rfl (row_bytes (hw.row (i := 1) rfl)) (by omega)) Tryz.call88 rfl rfl (tA rfl rfl (tE (tR (tM rfl rfl (tM rfl rfl (tV (Val.conv Tryz.underlying41 Tryz.underlying34 rfl) rfl ?_)))))))))
 rw [wrap_u64 (n := ((sumOn 0 (l ++ zs (60 - l.length))).toNat : Int)) (by omega) (by have := (sumOn 0 (l ++ zs (60 - l.length))).isLt; omega)]
 refine At.callR 1 rfl (fun w hw hr => rlay_p _ _ _ 4 w hr (by have := (sumOn 0 (l ++ zs (60 - l.length))).isLt; omega) (by decide) (by omega)) Tryz.call57 rfl rfl (fun v5 => ?_)
 simp only [sc0, scS]
 refine tA rfl rfl (At.nil ?_)
 rw [← hL]
 refine At.thenN (tR (At.alloc zero_39 zc_39 rfl (fun b6 => (tE (At.seq (tR (tA rfl rfl (tE (At.block ?_)))))))))
 skip
 refine At.loop (σ := Nat) (fun k => k ≤ 64) (fun k => [(0, v5), (2, .pointer (some ⟨b1, 0, none⟩)), (4, .pointer (some ⟨b6, 0, none⟩)), (5, .int .i64 (k : Int))]) (fun k => [blk b6 39 ((fillTo (lineL l) (zs 64) k).map bv), blk b1 39 (List.replicate 64 (Value.int .u8 0)), rowR v5 5 1 ((lineL l).length) ((lineL l).map bv)]) (fun k => 64 - k) 0 (by omega) (Sub.cons rfl (Sub.cons rfl (Sub.cons rfl (Sub.cons rfl Sub.nil)))) (List.Perm.refl _) ?_
 intro k hs
 refine At.seq (tR (tM rfl rfl (tV (Val.bin rfl rfl rfl) rfl (tE ?_))))
 refine At.cond rfl (fun h7 => ?_) (fun h7 => ?_)
 ·have hk : k < 64 := by have := h7; simp at this; omega
  obtain ⟨c, hc⟩ : ∃ c, (lineL l)[k]? = some c := ⟨_, List.getElem?_eq_getElem (by omega)⟩
  refine At.skipC (At.thenN (At.seq (At.block (At.region (tM rfl rfl (tM rfl rfl (tM rfl rfl (tV (Val.indexRow (i := 2) k (by simp) Tryz.underlying45 Tryz.sizeOf5 rfl rfl rfl (by omega) (by omega)) rfl ?_))))))))
  refine tV (Val.loadRow (i := 2) (u := bv c) Tryz.isAgg5 rfl rfl (by rw [List.getElem?_map, hc]; rfl)) rfl ?_
  refine tV (Val.indexArr k (by simp) Tryz.underlying39 Tryz.sizeOf5 rfl rfl (by omega) (by omega)) rfl ?_
  refine At.store (i := 0) (v := bv c) Tryz.sizeOf5 rfl rfl rfl rfl (by rw [fill_len (by simp [hL4, zs_length]), hL4]; exact hk) ?_
  simp only [sc0, scS]
  rw [fill_step hc (by simp [hL4, zs_length])]
  refine At.nil (At.blkN (At.thenN (At.region (tM rfl rfl (tV (Val.bin rfl rfl rfl) rfl (tA rfl rfl (tE ?_)))))))
  exact At.again (k + 1) (by omega) (by omega) (Sub.cons rfl (Sub.cons rfl (Sub.cons rfl (Sub.cons (congrArg (fun z => some (Value.int IntKind.i64 z)) (wrap_i64 (by omega) (by omega))) Sub.nil)))) (List.Perm.refl _)
 ·have hk : k = 64 := by have := h7; simp at this; omega
  refine At.exitC (At.thenX (At.thenX (At.blkX (At.thenN (tR (tV (Val.loadAll (i := 0) Tryz.isAgg39 Tryz.sizeOf39 rfl rfl (by rw [fill_len (by simp [hL4, zs_length]), hL4])) rfl (At.storeAll (i := 1) Tryz.sizeOf39 rfl rfl (by rw [fill_len (by simp [hL4, zs_length]), hL4]) (by simp [Value.oneCell']) rfl (by simp) ?_)))))))
  simp only [sc0, scS]
  refine tE (At.retC (At.ret1 (.inl rfl) rfl rfl (ResOf.all (i := 1) Tryz.isAgg39 Tryz.sizeOf39 rfl rfl (by rw [fill_len (by simp [hL4, zs_length]), hL4])) (fun w hw => ?_)))
  exact ⟨by rw [hk, fillTo_all hL4 (zs_length 64)]; rfl, hw.drop (List.nil_sublist _)⟩
end Go.Proofs.YthdmlpjhcalliaaGreatDoor
namespace Go.Proofs.YthdmlpjhcalliaaGreatDoor
open Go Go.Wk
def undoWs (L : List (Int × BitVec 64)) : List (BitVec 64) := L.flatMap fun c => [BitVec.ofInt 64 c.1, c.2]
theorem undoWs_snoc (L : List (Int × BitVec 64)) (c : Int × BitVec 64) : undoWs (L ++ [c]) = undoWs L ++ [BitVec.ofInt 64 c.1, c.2] := by simp [undoWs]
theorem undoWs_length (L : List (Int × BitVec 64)) : (undoWs L).length = 2 * L.length := by
  induction L with
  | nil => rfl
  | cons c L ih => unfold undoWs at *; simp only [List.flatMap_cons, List.length_append, List.length_cons, List.length_nil, ih]; omega
def recB (L : List (Int × BitVec 64)) : List UInt8 := bytesW (undoWs L)
theorem recB_length (L : List (Int × BitVec 64)) : (recB L).length = 16 * L.length := by unfold recB; rw [bytesW_length, undoWs_length]; omega
theorem recB_snoc (L : List (Int × BitVec 64)) (c : Int × BitVec 64) : recB (L ++ [c]) = recB L ++ le 8 (BitVec.ofInt 64 c.1).toNat ++ le 8 c.2.toNat := by
  unfold recB; rw [undoWs_snoc, bytesW_append, List.append_assoc]; rfl
def headB (n : Int) (s : BitVec 32) : List UInt8 := le 8 (sealW (BitVec.ofInt 64 512) (BitVec.ofInt 32 n)).toNat ++ le 8 (sealW (BitVec.ofInt 64 520) s).toNat
theorem headB_length (n : Int) (s : BitVec 32) : (headB n s).length = 16 := by unfold headB; rw [List.length_append, le_length, le_length]
theorem bytesW_two (x y : BitVec 64) : bytesW [x, y] = le 8 x.toNat ++ le 8 y.toNat := by simp [bytesW]
def undoB (L : List (Int × BitVec 64)) : List UInt8 := headB L.length (sumOn 0 (recB L)) ++ zs 48 ++ recB L
theorem undoB_length (L : List (Int × BitVec 64)) : (undoB L).length = 64 + 16 * L.length := by unfold undoB; rw [List.length_append, List.length_append, headB_length, zs_length, recB_length]
noncomputable def packB (L : List (Int × BitVec 64)) : List UInt8 := if GoodUn L then undoB L else []
noncomputable def packE (L : List (Int × BitVec 64)) : Int := if GoodUn L then 0 else 35
theorem packB_T {L : List (Int × BitVec 64)} (h : GoodUn L) : packB L = undoB L := if_pos h
theorem packB_F {L : List (Int × BitVec 64)} (h : ¬ GoodUn L) : packB L = [] := if_neg h
theorem packE_T {L : List (Int × BitVec 64)} (h : GoodUn L) : packE L = 0 := if_pos h
theorem packE_F {L : List (Int × BitVec 64)} (h : ¬ GoodUn L) : packE L = 35 := if_neg h
theorem over_head {n : Int} {s : BitVec 32} : (zs 64).take 0 ++ headB n s ++ (zs 64).drop (0 + (headB n s).length) = headB n s ++ zs 48 := by
  rw [headB_length]; rfl
theorem hasAt_hit {L : List (Int × BitVec 64)} {j k : Nat} {d : Int × BitVec 64} {a : Int} (h : L[j]? = some d) (hj : j < k) (e : d.1 = a) : hasAt (L.take k) a = true :=
  hasAt_T.2 ⟨j, d, by rw [List.getElem?_take, if_pos hj]; exact h, e⟩
theorem hasAt_step {L : List (Int × BitVec 64)} {j : Nat} {d : Int × BitVec 64} {a : Int} (h : L[j]? = some d) (e : ¬ d.1 = a) (h0 : hasAt (L.take j) a = false) : hasAt (L.take (j + 1)) a = false := by
  rw [List.take_succ_of_get h]; unfold hasAt at *; rw [List.any_append, h0]; simp; exact e
theorem pr_eq {L : List (Int × BitVec 64)} {k : Nat} {a b : Int × BitVec 64} (h1 : L[(k : Int).toNat]? = some a) (h2 : L[k]? = some b) : a = b := by
  rw [Int.toNat_natCast, h2] at h1; exact (Option.some.inj h1).symm
theorem recBytes_n (v : Value) (L : List (Int × BitVec 64)) (w : World) (hv : RdW w v (undoWs L)) (hlen : L.length ≤ 8) : NewRow Tryz.prog 85 [v] 5 1 (recB L).length ((recB L).map bv) w := bytes_n v (undoWs L) w hv (by rw [undoWs_length]; omega)
theorem headBytes_n (v : Value) (n : Int) (s : BitVec 32) (w : World) (hv : RdW w v [sealW (BitVec.ofInt 64 512) (BitVec.ofInt 32 n), sealW (BitVec.ofInt 64 520) s]) : NewRow Tryz.prog 85 [v] 5 1 (headB n s).length ((headB n s).map bv) w := by
  have := bytes_n v _ w hv (by simp); rwa [bytesW_two] at this
theorem sumRd_p (v : Value) (l : List UInt8) (w : World) (hv : RdB w v l) (ht : Tab w) (hlen : l.length ≤ 140737488355328) : PureC Tryz.prog 86 [v] (b32 (sumOn 0 l)) w := by
  obtain ⟨A, c, rfl, hb, _⟩ := hv.bytes; exact sum_p A l c w hb ht hlen
theorem rsumRd_p (v : Value) (l : List UInt8) (w : World) (hv : RdB w v l) (hlen : l.length ≤ 140737488355328) : PureC Tryz.prog 88 [v] (b32 (sumOn 0 l)) w := by
  obtain ⟨A, c, rfl, hb, _⟩ := hv.bytes; exact rsum_p A l c w hb hlen
theorem slotWord_p (a : Int) (w : World) :
    PureC Tryz.prog 108 [.int .i64 a] (.bool (decide (SlotWd a))) w := by
 refine enter0 Tryz.func108 rfl Tryz.ntmps108 rfl ?_
 simp only [envOf]
 refine tR (tA rfl rfl (tE (At.seq (tR (tA rfl rfl (tE (At.block ?_)))))))
 skip
 refine At.loop (σ := Nat) (fun k => 1 ≤ k ∧ k ≤ 257 ∧ ¬ (SlotWd a ∧ (a - 2048) / 64 + 1 < k)) (fun k => [(0, .int .i64 a), (3, .int .i64 (k : Int))]) (fun k => []) (fun k => 257 - k) 1 ⟨by omega, by omega, fun h => by have h1 := h.1; unfold SlotWd at h1; omega⟩ (Sub.cons rfl (Sub.cons rfl Sub.nil)) (List.Perm.refl _) ?_
 intro k hs
 refine At.seq (tR (tM rfl rfl (tV (Val.bin rfl rfl rfl) rfl (tE ?_))))
 refine At.cond rfl (fun h1 => ?_) (fun h1 => ?_)
 ·try simp only [vN_T, vN_F, nmE_T, nmE_F, wI_T, wI_F, data_T, data_F, ino_T, ino_F, notT, notF, bneT, bneF, beqT, beqF, decT, decF] at h1
  have hk : k ≤ 256 := by omega
  refine At.skipC (At.thenN (At.seq (At.block (tR (tM rfl rfl (At.callP (fun w hw => slotAtR_p k w) Tryz.call20 rfl rfl (tA rfl rfl (At.nil ?_))))))))
  rw [slotAt_T (ino_T.2 ⟨by omega, by omega⟩)]
  refine At.thenN (tR (At.weaken [(0, _), (3, _), (5, _), (6, _), (9, _), (10, _), (4, _)] (Sub.cons rfl (Sub.cons rfl (Sub.cons rfl (Sub.cons rfl (Sub.cons rfl (Sub.cons rfl (Sub.cons rfl Sub.nil))))))) ?_))
  refine At.boolMeet 15 25 (decide (a = 2048 + 64 * ((k : Int) - 1) ∨ a = 2048 + 64 * ((k : Int) - 1) + 8 ∨ a = 2048 + 64 * ((k : Int) - 1) + 16)) ?_ ?_
  ·simp only [List.take_succ_cons, List.take_zero]
   refine tM rfl rfl (tM rfl rfl (tV (Val.bin rfl rfl rfl) rfl (tM rfl rfl ?_)))
   refine At.split (t := 14) rfl (fun h2 => ?_) (fun h2 => ?_)
   ·try simp only [vN_T, vN_F, nmE_T, nmE_F, wI_T, wI_F, data_T, data_F, ino_T, ino_F, notT, notF, bneT, bneF, beqT, beqF, decT, decF] at h2
    refine At.no rfl rfl rfl rfl (At.no rfl rfl rfl rfl (At.no rfl rfl rfl rfl (At.no rfl rfl rfl rfl (tV (Val.pickT rfl rfl) rfl (tM rfl rfl (At.no rfl rfl rfl rfl (At.no rfl rfl rfl rfl (At.no rfl rfl rfl rfl (At.no rfl rfl rfl rfl (tV (Val.pickT rfl rfl) rfl (At.nil ?_)))))))))))
    exact At.boolEnd rfl (by first | rfl | exact (decide_eq_true (by omega)).symm | exact (decide_eq_false (by omega)).symm | (apply Bool.eq_iff_iff.2; simp only [decide_eq_true_eq, beq_iff_eq, bne_iff_ne, ne_eq, wI_T, data_T, ino_T, vN_T, nmE_T, Bool.not_eq_true', wI_F, data_F, ino_F, vN_F, nmE_F, decide_eq_false_iff_not]; omega)) (by repeat (first | exact Sub.nil | refine Sub.cons rfl ?_))
   ·try simp only [vN_T, vN_F, nmE_T, nmE_F, wI_T, wI_F, data_T, data_F, ino_T, ino_F, notT, notF, bneT, bneF, beqT, beqF, decT, decF] at h2
    refine At.yes rfl rfl (tM rfl rfl (At.yes rfl rfl (tM rfl rfl (At.yes rfl rfl ?_))))
    first | refine tV (Val.addI rfl rfl (by omega) (by omega)) rfl ?_ | refine tV (Val.bin rfl rfl rfl) rfl ?_
    refine At.yes rfl rfl (tV (Val.bin rfl rfl rfl) rfl (tV (Val.pickF rfl rfl) rfl (tM rfl rfl ?_)))
    refine At.split (t := 20) rfl (fun h3 => ?_) (fun h3 => ?_)
    ·try simp only [vN_T, vN_F, nmE_T, nmE_F, wI_T, wI_F, data_T, data_F, ino_T, ino_F, notT, notF, bneT, bneF, beqT, beqF, decT, decF] at h3
     refine At.no rfl rfl rfl rfl (At.no rfl rfl rfl rfl (At.no rfl rfl rfl rfl (At.no rfl rfl rfl rfl (tV (Val.pickT rfl rfl) rfl (At.nil ?_)))))
     exact At.boolEnd rfl (by first | rfl | exact (decide_eq_true (by omega)).symm | exact (decide_eq_false (by omega)).symm | (apply Bool.eq_iff_iff.2; simp only [decide_eq_true_eq, beq_iff_eq, bne_iff_ne, ne_eq, wI_T, data_T, ino_T, vN_T, nmE_T, Bool.not_eq_true', wI_F, data_F, ino_F, vN_F, nmE_F, decide_eq_false_iff_not]; omega)) (by repeat (first | exact Sub.nil | refine Sub.cons rfl ?_))
    ·try simp only [vN_T, vN_F, nmE_T, nmE_F, wI_T, wI_F, data_T, data_F, ino_T, ino_F, notT, notF, bneT, bneF, beqT, beqF, decT, decF] at h3
     refine At.yes rfl rfl (tM rfl rfl (At.yes rfl rfl (tM rfl rfl (At.yes rfl rfl ?_))))
     first | refine tV (Val.addI rfl rfl (by omega) (by omega)) rfl ?_ | refine tV (Val.bin rfl rfl rfl) rfl ?_
     refine At.yes rfl rfl (tV (Val.bin rfl rfl rfl) rfl (tV (Val.pickF rfl rfl) rfl (At.nil ?_)))
     exact At.boolEnd rfl (by first | rfl | exact (decide_eq_true (by omega)).symm | exact (decide_eq_false (by omega)).symm | (apply Bool.eq_iff_iff.2; simp only [decide_eq_true_eq, beq_iff_eq, bne_iff_ne, ne_eq, wI_T, data_T, ino_T, vN_T, nmE_T, Bool.not_eq_true', wI_F, data_F, ino_F, vN_F, nmE_F, decide_eq_false_iff_not]; omega)) (by repeat (first | exact Sub.nil | refine Sub.cons rfl ?_))
  ·simp only [List.drop_succ_cons, List.drop_zero]
   refine tE ?_
   refine At.cond rfl (fun h4 => ?_) (fun h4 => ?_)
   ·try simp only [vN_T, vN_F, nmE_T, nmE_F, wI_T, wI_F, data_T, data_F, ino_T, ino_F, notT, notF, bneT, bneF, beqT, beqF, decT, decF] at h4
    refine tR (tA rfl rfl (tE (At.retC (At.blkR (At.thenR (At.thenR (At.blkR (At.thenR (At.ret1 (.inl rfl) rfl rfl rfl (fun w hw => ?_))))))))))
    exact ⟨retB (decide_eq_true (by unfold SlotWd; omega)).symm, hw.mod⟩
   ·try simp only [vN_T, vN_F, nmE_T, nmE_F, wI_T, wI_F, data_T, data_F, ino_T, ino_F, notT, notF, bneT, bneF, beqT, beqF, decT, decF] at h4
    refine At.skipC (At.blkN (At.thenN (At.region (tM rfl rfl ?_))))
    first | refine tV (Val.addI rfl rfl (by omega) (by omega)) rfl ?_ | refine tV (Val.bin rfl rfl rfl) rfl ?_
    refine tA rfl rfl (tE ?_)
    exact At.again (k + 1) ⟨by omega, by omega, fun h => by have h1 := h.1; have h2 := h.2; have h3 := hs.2.2; unfold SlotWd at *; omega⟩ (by omega) (Sub.cons rfl (Sub.cons (congrArg (fun z => some (Value.int IntKind.i64 z)) (by omega)) Sub.nil)) (List.Perm.refl _)
 ·try simp only [vN_T, vN_F, nmE_T, nmE_F, wI_T, wI_F, data_T, data_F, ino_T, ino_F, notT, notF, bneT, bneF, beqT, beqF, decT, decF] at h1
  obtain rfl : k = 257 := by omega
  refine At.exitC (At.thenX (At.thenX (At.blkX (At.thenN (tR (tA rfl rfl (tE (At.retC (At.ret1 (.inl rfl) rfl rfl rfl (fun w hw => ?_))))))))))
  exact ⟨retB (decide_eq_false (fun h => hs.2.2 ⟨h, by unfold SlotWd at h; omega⟩)).symm, hw.mod⟩
theorem goodUnR_p (v : Value) (L : List (Int × BitVec 64)) (w : World) (hv : RdP w v L) (hlen : L.length ≤ 140737488355328) :
    PureC Tryz.prog 87 [v] (.bool (decide (GoodUn L))) w := by
 refine enter0 Tryz.func87 rfl Tryz.ntmps87 rfl ?_
 simp only [envOf]
 refine tR (tA rfl rfl (tE (At.seq (tR (At.weaken [(0, _), (2, _)] (Sub.cons rfl (Sub.cons rfl Sub.nil)) ?_)))))
 refine At.boolMeet 8 13 (decide (L.length = 0 ∨ 8 < L.length)) ?_ ?_
 ·simp only [List.take_succ_cons, List.take_zero]
  refine tM rfl rfl (tV (Val.lenRd hv Tryz.underlying40 rfl) rfl (tV (Val.bin rfl rfl rfl) rfl (tM rfl rfl ?_)))
  refine At.split (t := 9) rfl (fun h1 => ?_) (fun h1 => ?_)
  ·try simp only [vN_T, vN_F, nmE_T, nmE_F, wI_T, wI_F, data_T, data_F, ino_T, ino_F, notT, notF, bneT, bneF, beqT, beqF, decT, decF] at h1
   refine At.no rfl rfl rfl rfl (At.no rfl rfl rfl rfl (At.no rfl rfl rfl rfl (tV (Val.pickT rfl rfl) rfl (At.nil ?_))))
   exact At.boolEnd rfl (by first | rfl | exact (decide_eq_true (by omega)).symm | exact (decide_eq_false (by omega)).symm | (apply Bool.eq_iff_iff.2; simp only [decide_eq_true_eq, beq_iff_eq, bne_iff_ne, ne_eq, wI_T, data_T, ino_T, vN_T, nmE_T, Bool.not_eq_true', wI_F, data_F, ino_F, vN_F, nmE_F, decide_eq_false_iff_not]; omega)) (by repeat (first | exact Sub.nil | refine Sub.cons rfl ?_))
  ·try simp only [vN_T, vN_F, nmE_T, nmE_F, wI_T, wI_F, data_T, data_F, ino_T, ino_F, notT, notF, bneT, bneF, beqT, beqF, decT, decF] at h1
   refine At.yes rfl rfl (tM rfl rfl (At.yes rfl rfl (tV (Val.lenRd hv Tryz.underlying40 rfl) rfl (At.yes rfl rfl (tV (Val.bin rfl rfl rfl) rfl (tV (Val.pickF rfl rfl) rfl (At.nil ?_)))))))
   exact At.boolEnd rfl (by first | rfl | exact (decide_eq_true (by omega)).symm | exact (decide_eq_false (by omega)).symm | (apply Bool.eq_iff_iff.2; simp only [decide_eq_true_eq, beq_iff_eq, bne_iff_ne, ne_eq, wI_T, data_T, ino_T, vN_T, nmE_T, Bool.not_eq_true', wI_F, data_F, ino_F, vN_F, nmE_F, decide_eq_false_iff_not]; omega)) (by repeat (first | exact Sub.nil | refine Sub.cons rfl ?_))
 ·simp only [List.drop_succ_cons, List.drop_zero]
  refine tE ?_
  refine At.cond rfl (fun h2 => ?_) (fun h2 => ?_)
  ·try simp only [vN_T, vN_F, nmE_T, nmE_F, wI_T, wI_F, data_T, data_F, ino_T, ino_F, notT, notF, bneT, bneF, beqT, beqF, decT, decF] at h2
   refine tR (tA rfl rfl (tE (At.retC (At.thenR (At.ret1 (.inl rfl) rfl rfl rfl (fun w hw => ?_))))))
   exact ⟨retB (decide_eq_false (fun g => by have h1 := g.1; have h2 := g.2.1; omega)).symm, hw.mod⟩
  ·try simp only [vN_T, vN_F, nmE_T, nmE_F, wI_T, wI_F, data_T, data_F, ino_T, ino_F, notT, notF, bneT, bneF, beqT, beqF, decT, decF] at h2
   refine At.skipC (At.thenN (At.seq (tR (tA rfl rfl (tE (At.block ?_))))))
   skip
   refine At.loop (σ := Nat) (fun k => k ≤ L.length ∧ ∀ j, j < k → OkAt L j) (fun k => [(0, v), (3, .int .i64 (k : Int))]) (fun k => []) (fun k => L.length - k) 0 ⟨Nat.zero_le _, fun j h => by omega⟩ (Sub.cons rfl (Sub.cons rfl Sub.nil)) (List.Perm.refl _) ?_
   intro k hs
   refine At.seq (tR (tM rfl rfl (tM rfl rfl (tV (Val.lenRd hv Tryz.underlying40 rfl) rfl (tV (Val.bin rfl rfl rfl) rfl (tE ?_))))))
   refine At.cond rfl (fun h3 => ?_) (fun h3 => ?_)
   ·try simp only [vN_T, vN_F, nmE_T, nmE_F, wI_T, wI_F, data_T, data_F, ino_T, ino_F, notT, notF, bneT, bneF, beqT, beqF, decT, decF] at h3
    have hk : k < L.length := by omega
    refine At.skipC (At.thenN (At.seq (At.block (tR (tM rfl rfl (tM rfl rfl (At.idxP hv Tryz.underlying40 Tryz.sizeOf62 rfl rfl (by omega) (by omega) rfl rfl (fun b4 o5 q6 hq7 hc8 hd9 => (tV (Val.field o5 rfl fo_62_0 rfl) rfl (tV (Val.loadOld Tryz.isAgg3 rfl hc8 (fun h => h)) rfl ?_))))))))))
    have hqk := hq7
    rw [Int.toNat_natCast] at hqk
    refine At.callP (fun w hw => slotWord_p q6.1 w) Tryz.call108 rfl rfl (tA rfl rfl (tE (At.seq (tR (tM rfl rfl (tV (Val.not rfl) rfl (tE ?_)))))))
    refine At.cond rfl (fun h10 => ?_) (fun h10 => ?_)
    ·try simp only [vN_T, vN_F, nmE_T, nmE_F, wI_T, wI_F, data_T, data_F, ino_T, ino_F, notT, notF, bneT, bneF, beqT, beqF, decT, decF] at h10
     have hno := h10
     refine tR (tA rfl rfl (tE (At.retC (At.thenR (At.blkR (At.thenR (At.thenR (At.blkR (At.thenR (At.ret1 (.inl rfl) rfl rfl rfl (fun w hw => ?_)))))))))))
     exact ⟨retB (decide_eq_false (good_no1 hqk hno)).symm, hw.mod⟩
    ·try simp only [vN_T, vN_F, nmE_T, nmE_F, wI_T, wI_F, data_T, data_F, ino_T, ino_F, notT, notF, bneT, bneF, beqT, beqF, decT, decF] at h10
     have hyes := h10
     refine At.skipC (At.thenN (tR (tA rfl rfl (tE (At.block ?_)))))
     skip
     refine At.loop (σ := Nat) (fun j => j ≤ k ∧ hasAt (L.take j) q6.1 = false) (fun j => [(0, v), (3, .int .i64 (k : Int)), (5, .int .i64 (j : Int))]) (fun j => []) (fun j => k - j) 0 ⟨Nat.zero_le _, rfl⟩ (Sub.cons rfl (Sub.cons rfl (Sub.cons rfl Sub.nil))) (List.Perm.refl _) ?_
     intro j hs'
     refine At.seq (tR (tM rfl rfl (tM rfl rfl (tV (Val.bin rfl rfl rfl) rfl (tE ?_)))))
     refine At.cond rfl (fun h11 => ?_) (fun h11 => ?_)
     ·try simp only [vN_T, vN_F, nmE_T, nmE_F, wI_T, wI_F, data_T, data_F, ino_T, ino_F, notT, notF, bneT, bneF, beqT, beqF, decT, decF] at h11
      have hj : j < k := by omega
      refine At.skipC (At.thenN (At.seq (At.block (At.seq (At.quiet rfl (by decide +kernel) (qM rfl rfl (qM rfl rfl (QAt.idxP hv Tryz.underlying40 Tryz.sizeOf62 rfl rfl (by omega) (by omega) rfl rfl (fun b12 o13 q14 hq15 hc16 hd17 => (qV (Val.field o13 rfl fo_62_0 rfl) rfl (qV (Val.loadOld Tryz.isAgg3 rfl hc16 (fun h => h)) rfl (qM rfl rfl (qM rfl rfl (QAt.idxP hv Tryz.underlying40 Tryz.sizeOf62 rfl rfl (by omega) (by omega) rfl rfl (fun b18 o19 q20 hq21 hc22 hd23 => (qV (Val.field o19 rfl fo_62_0 rfl) rfl (qV (Val.loadOld Tryz.isAgg3 rfl hc22 (fun h => h)) rfl (qV (Val.bin rfl rfl rfl) rfl (QAt.fin (At.thenN ?_))))))))))))))))))))
      refine At.cond rfl (fun h24 => ?_) (fun h24 => ?_)
      ·try simp only [vN_T, vN_F, nmE_T, nmE_F, wI_T, wI_F, data_T, data_F, ino_T, ino_F, notT, notF, bneT, bneF, beqT, beqF, decT, decF] at h24
       refine tR (tA rfl rfl (tE (At.retC (At.blkR (At.thenR (At.thenR (At.blkR (At.blkR (At.thenR (At.thenR (At.blkR (At.thenR (At.ret1 (.inl rfl) rfl rfl rfl (fun w hw => ?_))))))))))))))
       exact ⟨retB (decide_eq_false (good_no2 hqk (hasAt_hit (by have := hq15; rwa [Int.toNat_natCast] at this) hj (by rw [← pr_eq hq21 hqk]; assumption)))).symm, hw.mod⟩
      ·try simp only [vN_T, vN_F, nmE_T, nmE_F, wI_T, wI_F, data_T, data_F, ino_T, ino_F, notT, notF, bneT, bneF, beqT, beqF, decT, decF] at h24
       refine At.skipC (At.blkN (At.thenN (At.region (tM rfl rfl ?_))))
       first | refine tV (Val.addI rfl rfl (by omega) (by omega)) rfl ?_ | refine tV (Val.bin rfl rfl rfl) rfl ?_
       refine tA rfl rfl (tE ?_)
       exact At.again (j + 1) ⟨by omega, hasAt_step (by have := hq15; rwa [Int.toNat_natCast] at this) (by rw [← pr_eq hq21 hqk]; assumption) hs'.2⟩ (by omega) (Sub.cons rfl (Sub.cons rfl (Sub.cons (congrArg (fun z => some (Value.int IntKind.i64 z)) (by omega)) Sub.nil))) (List.Perm.refl _)
     ·try simp only [vN_T, vN_F, nmE_T, nmE_F, wI_T, wI_F, data_T, data_F, ino_T, ino_F, notT, notF, bneT, bneF, beqT, beqF, decT, decF] at h11
      obtain rfl : k = j := by omega
      refine At.exitC (At.thenX (At.thenX (At.blkX (At.blkN (At.thenN (At.region (tM rfl rfl ?_)))))))
      first | refine tV (Val.addI rfl rfl (by omega) (by omega)) rfl ?_ | refine tV (Val.bin rfl rfl rfl) rfl ?_
      refine tA rfl rfl (tE ?_)
      exact At.again (k + 1) ⟨by omega, fun i hi => by rcases Nat.lt_or_ge i k with h | h; exact hs.2 i h; obtain rfl : i = k := (by omega); exact okAt_of hqk hyes hs'.2⟩ (by omega) (Sub.cons rfl (Sub.cons (congrArg (fun z => some (Value.int IntKind.i64 z)) (by omega)) Sub.nil)) (List.Perm.refl _)
   ·try simp only [vN_T, vN_F, nmE_T, nmE_F, wI_T, wI_F, data_T, data_F, ino_T, ino_F, notT, notF, bneT, bneF, beqT, beqF, decT, decF] at h3
    obtain rfl : k = L.length := by omega
    refine At.exitC (At.thenX (At.thenX (At.blkX (At.thenN (tR (tA rfl rfl (tE (At.retC (At.ret1 (.inl rfl) rfl rfl rfl (fun w hw => ?_))))))))))
    exact ⟨retB (decide_eq_true ⟨by omega, by omega, hs.2⟩).symm, hw.mod⟩
theorem packUn_n (v : Value) (L : List (Int × BitVec 64)) (w : World) (ht : Tab w) (hv : RdP w v L) (hlen : L.length ≤ 140737488355328) (hbd : ∀ c ∈ L, -9223372036854775808 ≤ c.1 ∧ c.1 ≤ 9223372036854775807) :
    NewRowT Tryz.prog 42 [v] (fun v => .tuple #[v, .int .i64 (packE L)]) 5 1 (packB L).length ((packB L).map bv) w := by
 refine enter0 Tryz.func42 rfl Tryz.ntmps42 rfl ?_
 simp only [envOf]
 refine tR (tA rfl rfl (tA rfl rfl (tE (At.seq (tR (tM rfl rfl (At.callP (fun w hw => goodUn_p v L w (hv.mod hw.mod) hlen hbd) Tryz.call84 rfl rfl (tV (Val.not rfl) rfl (tE ?_)))))))))
 refine At.cond rfl (fun h1 => ?_) (fun h1 => ?_)
 ·try simp only [vN_T, vN_F, nmE_T, nmE_F, wI_T, wI_F, data_T, data_F, ino_T, ino_F, notT, notF, bneT, bneF, beqT, beqF, decT, decF] at h1
  have hg : ¬ GoodUn L := by simpa using h1
  refine tR (tA rfl rfl (tA rfl rfl (At.nil (At.rowNilB 5 (At.thenN (At.retC (At.thenR (At.ret2 (.inl rfl) rfl rfl rfl rfl (fun w hw => ?_)))))))))
  exact ⟨_, by rw [packE_F hg], by rw [packB_F hg]; exact (hw.drop (List.singleton_sublist.2 (List.mem_of_getElem? (i := 0) rfl))).f0⟩
 ·try simp only [vN_T, vN_F, nmE_T, nmE_F, wI_T, wI_F, data_T, data_F, ino_T, ino_F, notT, notF, bneT, bneF, beqT, beqF, decT, decF] at h1
  have hg : GoodUn L := by simpa using h1
  have hL8 : L.length ≤ 8 := hg.2.1
  refine At.skipC (At.thenN (tR (tA rfl rfl (At.nil (At.rowNilW 34 (At.thenN (At.seq (tR (tM rfl rfl (tV (Val.lenRd hv Tryz.underlying40 rfl) rfl (tM rfl rfl (tE (At.block ?_)))))))))))))
  skip
  refine At.loop (σ := Nat × Value) (fun s => s.1 ≤ L.length) (fun s => [(0, v), (12, v), (13, .int .i64 (L.length : Int)), (14, .int .i64 (s.1 : Int)), (4, s.2)]) (fun s => [wrow 34 s.2 (undoWs (L.take s.1))]) (fun s => L.length - s.1) (0, .slice none 0 0) (Nat.zero_le _) (Sub.cons rfl (Sub.cons rfl (Sub.cons rfl (Sub.cons rfl (Sub.cons rfl Sub.nil))))) (List.Perm.refl _) ?_
  intro s hs
  obtain ⟨k, vk⟩ := s
  dsimp only at hs ⊢
  refine tR (tV (Val.bin rfl rfl rfl) rfl (tE (At.seq ?_)))
  refine At.cond rfl (fun h2 => ?_) (fun h2 => ?_)
  ·try simp only [vN_T, vN_F, nmE_T, nmE_F, wI_T, wI_F, data_T, data_F, ino_T, ino_F, notT, notF, bneT, bneF, beqT, beqF, decT, decF] at h2
   have hk : k < L.length := by omega
   refine At.skipC (At.thenN (At.seq (At.block (tR (At.idxP hv Tryz.underlying40 Tryz.sizeOf62 rfl rfl (by omega) (by omega) rfl rfl (fun b3 o4 q5 hq6 hc7 hd8 => (tV (Val.loadPair Tryz.isAgg62 Tryz.sizeOf62 rfl hc7 hd8 (fun h => h)) rfl (At.alloc Tryz.zeroValue62 rfl rfl (fun b9 => (At.storeAll (i := 0) Tryz.sizeOf62 rfl rfl rfl (by simp [Value.oneCell']) rfl rfl ?_))))))))))
   simp only [sc0, scS]
   refine tE (At.region (tM rfl rfl (tV (Val.field 0 rfl fo_62_0 rfl) rfl (tV (Val.load (i := 0) Tryz.isAgg3 rfl rfl rfl) rfl (tV (Val.conv Tryz.underlying3 Tryz.underlying34 rfl) rfl ?_)))))
   rw [wrap_u64_int q5.1]
   refine tV (Val.field 1 rfl fo_62_1 rfl) rfl (tV (Val.load (i := 0) Tryz.isAgg34 rfl rfl rfl) rfl (At.buildSl (fun a ha => by simp only [List.map_toArray, List.map_cons, List.map_nil, ha.eval (x := (.tmp 21)) rfl, ha.eval (x := (.tmp 23)) rfl]; try rfl) (bs_136_2 _ _ ) rfl (fun b10 => ?_)))
   refine At.appendWs (i := 2) (j := 0) (ms := [BitVec.ofInt 64 q5.1, q5.2]) (by_ := 8) Tryz.underlying136 info_34 rfl rfl rfl rfl rfl rfl rfl rfl rfl (by rw [undoWs_length, List.length_take]; omega) (by rw [undoWs_length, List.length_take]; omega) rfl (fun v11 => ?_)
   simp only [sc0, scS]
   refine At.drop 0 ?_
   simp only [ec0, ecS]
   refine tA rfl rfl (At.nil (At.blkN (At.thenN (At.region ?_))))
   first | refine tV (Val.addI rfl rfl (by omega) (by omega)) rfl ?_ | refine tV (Val.bin rfl rfl rfl) rfl ?_
   refine tM rfl rfl (tE (At.drop 0 ?_))
   simp only [ec0, ecS]
   exact At.again (k + 1, v11) (show k + 1 ≤ _ by omega) (by dsimp only; omega) (Sub.cons rfl (Sub.cons rfl (Sub.cons rfl (Sub.cons (congrArg (fun z => some (Value.int IntKind.i64 z)) (by omega)) (Sub.cons rfl Sub.nil))))) (by rw [List.take_succ_of_get (by have := hq6; rwa [Int.toNat_natCast] at this), undoWs_snoc])
  ·try simp only [vN_T, vN_F, nmE_T, nmE_F, wI_T, wI_F, data_T, data_F, ino_T, ino_F, notT, notF, bneT, bneF, beqT, beqF, decT, decF] at h2
   obtain rfl : k = L.length := by omega
   rw [List.take_length]
   refine At.exitC (At.thenX (At.thenX (At.blkX (At.thenN (tR (tM rfl rfl (At.callN (fun w hw => recBytes_n _ L w (row_rd (hw.row (i := 0) rfl) (by decide)) hL8) Tryz.call85 rfl rfl (fun v12 => (tA rfl rfl (tE (tR (At.makeRowB (n := 64) Tryz.underlying45 info_5 rfl rfl rfl rfl rfl (by omega) rfl (fun v13 => (tA rfl rfl (tE (tR (tM rfl rfl (tM rfl rfl (tV (Val.lenRd hv Tryz.underlying40 rfl) rfl (tV (Val.conv Tryz.underlying3 Tryz.underlying41 rfl) rfl ?_))))))))))))))))))))
   rw [wrap_u32_int (L.length : Int)]
   refine At.callP (fun w hw => seal_p 512 (BitVec.ofInt 32 (L.length : Int)) w (ht.mod hw.mod)) Tryz.call69 rfl rfl (tM rfl rfl ?_)
   refine At.callP (fun w hw => sumRd_p _ (recB L) w (row_rd (hw.row (i := 1) rfl) (by decide)) (ht.mod hw.mod) (by rw [recB_length]; omega)) Tryz.call86 rfl rfl (At.callP (fun w hw => seal_p 520 (sumOn 0 (recB L)) w (ht.mod hw.mod)) Tryz.call69 rfl rfl (At.buildSl (fun a ha => by simp only [List.map_toArray, List.map_cons, List.map_nil, ha.eval (x := (.tmp 34)) rfl, ha.eval (x := (.tmp 37)) rfl]; try rfl) (bs_136_2 _ _ ) rfl (fun b14 => (At.callN (fun w hw => headBytes_n _ (L.length : Int) (sumOn 0 (recB L)) w ((hw.blk (i := 0) rfl).words rfl)) Tryz.call85 rfl rfl (fun v15 => (At.rowSome (i := 2) rfl (by decide) (fun b16 c17 hv => ?_)))))))
   subst hv
   refine At.copyRowB (i := 2) (j := 0) (o := 0) Tryz.underlying45 Tryz.sizeOf5 rfl rfl rfl rfl (by rw [headB_length]; decide) (by rw [headB_length]; decide) (by rw [headB_length]; decide) rfl ?_
   simp only [sc0, scS]
   rw [over_head]
   refine tE (tR (tM rfl rfl (tM rfl rfl ?_)))
   refine At.appendRowB (i := 2) (j := 3) (by_ := 1) Tryz.underlying45 info_5 rfl rfl rfl rfl rfl rfl rfl rfl (by rw [List.length_append, headB_length, zs_length, recB_length]; omega) (by rw [List.length_append, headB_length, zs_length, recB_length]; omega) rfl (fun v18 => ?_)
   simp only [sc0, scS]
   refine tA rfl rfl (tA rfl rfl (tE (At.retC (At.ret2 (.inl rfl) rfl rfl rfl rfl (fun w hw => ?_)))))
   exact ⟨_, by rw [packE_T hg], by rw [packB_T hg]; exact (hw.drop (List.singleton_sublist.2 (List.mem_of_getElem? (i := 2) rfl))).f0⟩
end Go.Proofs.YthdmlpjhcalliaaGreatDoor
namespace Go.Proofs.YthdmlpjhcalliaaGreatDoor
open Go Go.Wk
theorem eyeNumber_p (b L o c at' n : Nat) (l : List UInt8) (w : World) (hh : Holds w b 113 (eyeC L o l.length c at')) (hb : Bytes w (some ⟨L, o, none⟩) l) (hne : L ≠ b) (hc : l.length ≤ c) (hm : l.length ≤ 140737488355328) (hn : at' + n ≤ l.length) (h8 : n ≤ 8) :
    Upd Tryz.prog 78 [.pointer (some ⟨b, 0, none⟩), .int .i64 (n : Int)] (blk b 113 (eyeC L o l.length c at')) (.int .u64 (num l at' n : Nat)) (blk b 113 (eyeC L o l.length c (at' + n))) w := by
 refine enter (feet [(blk b 113 (eyeC L o l.length c at'))]) [(blk b 113 (eyeC L o l.length c at'))] Tryz.func78 rfl Tryz.ntmps78 rfl (Rep.one hh) ?_
 have hS : ¬ feet [(blk b 113 (eyeC L o l.length c at'))] L := fun ⟨r, hr, hx⟩ => by rcases List.mem_singleton.1 hr with rfl; exact hne hx
 simp only [envOf]
 refine tR (tA rfl rfl (tE (tR (tA rfl rfl (tE (At.seq (tR (tM rfl rfl (tM rfl rfl (tE (At.block ?_)))))))))))
 skip
 refine At.loop (σ := Nat) (fun k => k ≤ n) (fun k => [(0, .pointer (some ⟨b, 0, none⟩)), (1, .int .i64 (n : Int)), (5, .int .u64 (num l at' k : Nat)), (7, .int .i64 (n : Int)), (8, .int .i64 (k : Int))]) (fun k => [blk b 113 (eyeC L o l.length c at')]) (fun k => n - k) 0 (Nat.zero_le _) (Sub.cons rfl (Sub.cons rfl (Sub.cons (congrArg (fun z => some (Value.int IntKind.u64 z)) (by rw [num_zero]; rfl)) (Sub.cons rfl (Sub.cons rfl Sub.nil))))) (List.Perm.refl _) ?_
 intro k hs
 refine tR (tV (Val.bin rfl rfl rfl) rfl (tE (At.seq ?_)))
 refine At.cond rfl (fun h1 => ?_) (fun h1 => ?_)
 ·have hk : k < n := by have := h1; simp at this; omega
  obtain ⟨u, hu⟩ : ∃ u, l[at' + k]? = some u := ⟨_, List.getElem?_eq_getElem (by omega)⟩
  obtain ⟨b', o', hbo, hcell⟩ := hb _ _ hu
  simp only [Option.some.injEq, Addr.mk.injEq] at hbo
  obtain ⟨rfl, rfl, _⟩ := hbo
  refine At.skipC (At.thenN (At.seq (At.block (tR (tM rfl rfl (tA rfl rfl (tE (At.quiet rfl (by decide +kernel) (qM rfl rfl (qM rfl rfl (qV (Val.nilCheck rfl) rfl (qV (Val.field 0 rfl fo_113_0 rfl) rfl (qV (Val.load (i := 0) Tryz.isAgg45 rfl rfl rfl) rfl (qM rfl rfl (qV (Val.nilCheck rfl) rfl (qV (Val.field 1 rfl fo_113_1 rfl) rfl (qV (Val.load (i := 0) Tryz.isAgg3 rfl rfl rfl) rfl (qM rfl rfl (qV (Val.bin rfl rfl rfl) rfl ?_)))))))))))))))))))
  rw [wrap_i64 (n := (at' : Int) + (k : Int)) (by omega) (by omega)]
  refine qV (Val.indexSl (o + (at' + k)) (by omega) Tryz.underlying45 Tryz.sizeOf5 rfl rfl (by omega) (by omega)) rfl (qV (Val.loadOld Tryz.isAgg5 rfl hcell hS) rfl (qV (Val.conv Tryz.underlying5 Tryz.underlying34 rfl) rfl ?_))
  rw [wrap_u64 (n := (u.toNat : Int)) (by omega) (by have := u.toNat_lt; omega)]
  refine qM rfl rfl (qV (Val.bin rfl rfl rfl) rfl ?_)
  rw [wrap_i64 (n := 8 * (k : Int)) (by omega) (by omega)]
  refine qV (Val.shl rfl rfl (by omega)) rfl (qV (Val.bin rfl rfl rfl) rfl ?_)
  rw [num_or hu (by omega)]
  refine qV (Val.assign rfl) rfl (QAt.fin (At.blkN (At.thenN (At.region (tV (Val.bin rfl rfl rfl) rfl (tM rfl rfl (tE ?_)))))))
  exact At.again (k + 1) (by omega) (by omega) (Sub.cons rfl (Sub.cons rfl (Sub.cons rfl (Sub.cons rfl (Sub.cons (congrArg (fun z => some (Value.int IntKind.i64 z)) (wrap_i64 (by omega) (by omega))) Sub.nil))))) (List.Perm.refl _)
 ·have hk : k = n := by have := h1; simp at this; omega
  refine At.exitC (At.thenX (At.thenX (At.blkX (At.thenN (tR (tM rfl rfl (tV (Val.nilCheck rfl) rfl (tV (Val.field 1 rfl fo_113_1 rfl) rfl (tV (Val.load (i := 0) Tryz.isAgg3 rfl rfl rfl) rfl (tM rfl rfl (tV (Val.bin rfl rfl rfl) rfl ?_)))))))))))
  rw [wrap_i64 (n := (at' : Int) + (n : Int)) (by omega) (by omega)]
  refine tV (Val.nilCheck rfl) rfl (tV (Val.field 1 rfl fo_113_1 rfl) rfl (At.store (i := 0) Tryz.sizeOf3 rfl rfl rfl rfl (by simp) ?_))
  simp only [sc0, scS]
  refine At.nil ?_
  rw [show ([Value.slice (some ⟨L, o, none⟩) l.length c, Value.int .i64 ((at' : Int) + (n : Int))] : List Value) = eyeC L o l.length c (at' + n) from by simp]
  refine At.thenN (tR (tM rfl rfl (tA rfl rfl (tE (At.retC (At.ret1 (.inl rfl) rfl rfl rfl (fun w hw => ?_)))))))
  exact ⟨by rw [hk], hw⟩
theorem eyeHalf_p (b L o c at' : Nat) (l : List UInt8) (w : World) (hh : Holds w b 113 (eyeC L o l.length c at')) (hb : Bytes w (some ⟨L, o, none⟩) l) (hne : L ≠ b) (hc : l.length ≤ c) (hm : l.length ≤ 140737488355328) (hn : at' + 4 ≤ l.length) :
    Upd Tryz.prog 65 [.pointer (some ⟨b, 0, none⟩)] (blk b 113 (eyeC L o l.length c at')) (.int .i64 (num l at' 4 : Nat)) (blk b 113 (eyeC L o l.length c (at' + 4))) w := by
 refine enter (feet [(blk b 113 (eyeC L o l.length c at'))]) [(blk b 113 (eyeC L o l.length c at'))] Tryz.func65 rfl Tryz.ntmps65 rfl (Rep.one hh) ?_
 simp only [envOf]
 refine tR (tA rfl rfl (tE (tR (tM rfl rfl ?_))))
 refine At.call1 0 rfl (fun w hw hr => eyeNumber_p b L o c at' 4 l w hr (fun k u hk => by obtain ⟨b', o', h1, h2⟩ := hb k u hk; refine ⟨b', o', h1, hw.oldCell h2 ?_⟩; rintro ⟨r, hr', hx⟩; rcases List.mem_singleton.1 hr' with rfl; simp only [Option.some.injEq, Addr.mk.injEq] at h1; exact hne (h1.1.trans hx)) hne hc hm hn (by decide)) Tryz.call78 rfl rfl ?_
 simp only [sc0, scS]
 refine tV (Val.conv Tryz.underlying34 Tryz.underlying3 rfl) rfl (tA rfl rfl (tE (At.retC (At.ret1 (.inl rfl) rfl rfl rfl (fun w hw => ?_)))))
 exact ⟨by rw [wrap_i64 (by omega) (by have := num_lt (l := l) at' 4; omega)], hw⟩
theorem eyeZeros_T (b L o c at' n : Nat) (l : List UInt8) (why : Int) (w : World) (hh : Holds w b 113 (eyeC L o l.length c at')) (hb : Bytes w (some ⟨L, o, none⟩) l) (hne : L ≠ b) (hc : l.length ≤ c) (hm : l.length ≤ 140737488355328) (hn : at' + n ≤ l.length) (hz : allZero ((l.drop at').take n)) :
    Upd Tryz.prog 66 [.pointer (some ⟨b, 0, none⟩), .int .i64 (n : Int), .int .i64 why] (blk b 113 (eyeC L o l.length c at')) (.tuple #[]) (blk b 113 (eyeC L o l.length c (at' + n))) w := by
 refine enter (feet [(blk b 113 (eyeC L o l.length c at'))]) [(blk b 113 (eyeC L o l.length c at'))] Tryz.func66 rfl Tryz.ntmps66 rfl (Rep.one hh) ?_
 have hS : ¬ feet [(blk b 113 (eyeC L o l.length c at'))] L := fun ⟨r, hr, hx⟩ => by rcases List.mem_singleton.1 hr with rfl; exact hne hx
 have hX : ((l.drop at').take n).length = n := by simp; omega
 have hbX := cut_bytes (n := n) hb hc hn
 simp only [envOf]
 refine At.seq (At.seq (At.quiet rfl (by decide +kernel) (qM rfl rfl (qV (Val.nilCheck rfl) rfl (qV (Val.field 0 rfl fo_113_0 rfl) rfl (qV (Val.load (i := 0) Tryz.isAgg45 rfl rfl rfl) rfl (qM rfl rfl (qV (Val.nilCheck rfl) rfl (qV (Val.field 1 rfl fo_113_1 rfl) rfl (qV (Val.load (i := 0) Tryz.isAgg3 rfl rfl rfl) rfl (qM rfl rfl (qV (Val.nilCheck rfl) rfl (qV (Val.field 1 rfl fo_113_1 rfl) rfl (qV (Val.load (i := 0) Tryz.isAgg3 rfl rfl rfl) rfl (qM rfl rfl (qV (Val.bin rfl rfl rfl) rfl ?_))))))))))))))))
 rw [wrap_i64 (n := (at' : Int) + (n : Int)) (by omega) (by omega)]
 refine qV (Val.cutSl at' (at' + n) (if c = at' then o else o + at' * 1) n (c - at') Tryz.underlying45 Tryz.sizeOf5 rfl ⟨_, _, rfl, by omega, by omega⟩ ⟨_, _, rfl, by omega, by omega⟩ (by omega) (by omega) rfl (by omega) rfl) rfl (qV (Val.len (bt := #[]) Tryz.underlying45 rfl) rfl (qM rfl rfl (QAt.fin (At.thenN (At.block ?_)))))
 skip
 refine At.loop (σ := Nat) (fun k => k ≤ n) (fun k => [(0, .pointer (some ⟨b, 0, none⟩)), (1, .int .i64 (n : Int)), (2, .int .i64 why), (22, .slice (some ⟨L, if c = at' then o else o + at' * 1, none⟩) n (c - at')), (23, .int .i64 (n : Int)), (24, .int .i64 (k : Int))]) (fun k => [blk b 113 (eyeC L o l.length c at')]) (fun k => n - k) 0 (Nat.zero_le _) (Sub.cons rfl (Sub.cons rfl (Sub.cons rfl (Sub.cons rfl (Sub.cons rfl (Sub.cons rfl Sub.nil)))))) (List.Perm.refl _) ?_
 intro k hs
 refine tR (tV (Val.bin rfl rfl rfl) rfl (tE (At.seq ?_)))
 refine At.cond rfl (fun h1 => ?_) (fun h1 => ?_)
 ·have hk : k < n := by have := h1; simp at this; omega
  obtain ⟨u, hu⟩ : ∃ u, ((l.drop at').take n)[k]? = some u := ⟨_, List.getElem?_eq_getElem (by omega)⟩
  obtain ⟨b', o', hbo, hcell⟩ := hbX _ _ hu
  simp only [Option.some.injEq, Addr.mk.injEq] at hbo
  obtain ⟨rfl, rfl, _⟩ := hbo
  refine At.skipC (At.thenN (At.seq (At.block (tR (tV (Val.indexSl ((if c = at' then o else o + at' * 1) + k) (by omega) Tryz.underlying45 Tryz.sizeOf5 rfl rfl (by omega) (by omega)) rfl (tV (Val.loadOld Tryz.isAgg5 rfl hcell hS) rfl (tA rfl rfl (tE (At.region (tM rfl rfl (tV (Val.bin rfl rfl rfl) rfl (tM rfl rfl ?_))))))))))))
  refine At.split (t := 29) rfl (fun h2 => ?_) (fun h2 => ?_)
  ·have hu0 : u = 0 := zero_byte (by simpa using h2)
   refine At.callP (fun w hw => must_T _ w) Tryz.call62 rfl rfl (At.nil (At.blkN (At.thenN (At.region (tV (Val.bin rfl rfl rfl) rfl (tM rfl rfl (tE ?_)))))))
   exact At.again (k + 1) (by omega) (by omega) (Sub.cons rfl (Sub.cons rfl (Sub.cons rfl (Sub.cons rfl (Sub.cons rfl (Sub.cons (congrArg (fun z => some (Value.int IntKind.i64 z)) (wrap_i64 (by omega) (by omega))) Sub.nil)))))) (List.Perm.refl _)
  ·rw [allZero_at hu hz] at h2; exact absurd h2 (by decide)
 ·have hk : k = n := by have := h1; simp at this; omega
  refine At.exitC (At.thenX (At.thenX (At.blkX (At.thenN (At.region (tM rfl rfl (tV (Val.nilCheck rfl) rfl (tV (Val.field 1 rfl fo_113_1 rfl) rfl (tV (Val.load (i := 0) Tryz.isAgg3 rfl rfl rfl) rfl (tM rfl rfl (tV (Val.bin rfl rfl rfl) rfl ?_)))))))))))
  rw [wrap_i64 (n := (at' : Int) + (n : Int)) (by omega) (by omega)]
  refine tV (Val.nilCheck rfl) rfl (tV (Val.field 1 rfl fo_113_1 rfl) rfl (At.store (i := 0) Tryz.sizeOf3 rfl rfl rfl rfl (by simp) ?_))
  simp only [sc0, scS]
  refine At.nil ?_
  rw [show ([Value.slice (some ⟨L, o, none⟩) l.length c, Value.int .i64 ((at' : Int) + (n : Int))] : List Value) = eyeC L o l.length c (at' + n) from by simp]
  refine At.ret0 (.inr rfl) rfl rfl  (fun w hw => ?_)
  exact ⟨rfl, hw⟩
theorem eyeZeros_F (b L o c at' n : Nat) (l : List UInt8) (why : Int) (w : World) (hh : Holds w b 113 (eyeC L o l.length c at')) (hb : Bytes w (some ⟨L, o, none⟩) l) (hne : L ≠ b) (hc : l.length ≤ c) (hm : l.length ≤ 140737488355328) (hn : at' + n ≤ l.length) (hz : ¬ allZero ((l.drop at').take n)) :
    Throws1 Tryz.prog 66 [.pointer (some ⟨b, 0, none⟩), .int .i64 (n : Int), .int .i64 why] (blk b 113 (eyeC L o l.length c at')) (brk 150 why) w := by
 refine enter (feet [(blk b 113 (eyeC L o l.length c at'))]) [(blk b 113 (eyeC L o l.length c at'))] Tryz.func66 rfl Tryz.ntmps66 rfl (Rep.one hh) ?_
 have hS : ¬ feet [(blk b 113 (eyeC L o l.length c at'))] L := fun ⟨r, hr, hx⟩ => by rcases List.mem_singleton.1 hr with rfl; exact hne hx
 have hX : ((l.drop at').take n).length = n := by simp; omega
 have hbX := cut_bytes (n := n) hb hc hn
 simp only [envOf]
 refine At.seq (At.seq (At.quiet rfl (by decide +kernel) (qM rfl rfl (qV (Val.nilCheck rfl) rfl (qV (Val.field 0 rfl fo_113_0 rfl) rfl (qV (Val.load (i := 0) Tryz.isAgg45 rfl rfl rfl) rfl (qM rfl rfl (qV (Val.nilCheck rfl) rfl (qV (Val.field 1 rfl fo_113_1 rfl) rfl (qV (Val.load (i := 0) Tryz.isAgg3 rfl rfl rfl) rfl (qM rfl rfl (qV (Val.nilCheck rfl) rfl (qV (Val.field 1 rfl fo_113_1 rfl) rfl (qV (Val.load (i := 0) Tryz.isAgg3 rfl rfl rfl) rfl (qM rfl rfl (qV (Val.bin rfl rfl rfl) rfl ?_))))))))))))))))
 rw [wrap_i64 (n := (at' : Int) + (n : Int)) (by omega) (by omega)]
 refine qV (Val.cutSl at' (at' + n) (if c = at' then o else o + at' * 1) n (c - at') Tryz.underlying45 Tryz.sizeOf5 rfl ⟨_, _, rfl, by omega, by omega⟩ ⟨_, _, rfl, by omega, by omega⟩ (by omega) (by omega) rfl (by omega) rfl) rfl (qV (Val.len (bt := #[]) Tryz.underlying45 rfl) rfl (qM rfl rfl (QAt.fin (At.thenN (At.block ?_)))))
 skip
 refine At.loop (σ := Nat) (fun k => k ≤ n ∧ allZero (((l.drop at').take n).take k)) (fun k => [(0, .pointer (some ⟨b, 0, none⟩)), (1, .int .i64 (n : Int)), (2, .int .i64 why), (22, .slice (some ⟨L, if c = at' then o else o + at' * 1, none⟩) n (c - at')), (23, .int .i64 (n : Int)), (24, .int .i64 (k : Int))]) (fun k => [blk b 113 (eyeC L o l.length c at')]) (fun k => n - k) 0 ⟨Nat.zero_le _, by simp [allZero]⟩ (Sub.cons rfl (Sub.cons rfl (Sub.cons rfl (Sub.cons rfl (Sub.cons rfl (Sub.cons rfl Sub.nil)))))) (List.Perm.refl _) ?_
 intro k hs
 refine tR (tV (Val.bin rfl rfl rfl) rfl (tE (At.seq ?_)))
 refine At.cond rfl (fun h1 => ?_) (fun h1 => ?_)
 ·have hk : k < n := by have := h1; simp at this; omega
  obtain ⟨u, hu⟩ : ∃ u, ((l.drop at').take n)[k]? = some u := ⟨_, List.getElem?_eq_getElem (by omega)⟩
  obtain ⟨b', o', hbo, hcell⟩ := hbX _ _ hu
  simp only [Option.some.injEq, Addr.mk.injEq] at hbo
  obtain ⟨rfl, rfl, _⟩ := hbo
  refine At.skipC (At.thenN (At.seq (At.block (tR (tV (Val.indexSl ((if c = at' then o else o + at' * 1) + k) (by omega) Tryz.underlying45 Tryz.sizeOf5 rfl rfl (by omega) (by omega)) rfl (tV (Val.loadOld Tryz.isAgg5 rfl hcell hS) rfl (tA rfl rfl (tE (At.region (tM rfl rfl (tV (Val.bin rfl rfl rfl) rfl (tM rfl rfl ?_))))))))))))
  refine At.split (t := 29) rfl (fun h2 => ?_) (fun h2 => ?_)
  ·have hu0 : u = 0 := zero_byte (by simpa using h2)
   refine At.callP (fun w hw => must_T _ w) Tryz.call62 rfl rfl (At.nil (At.blkN (At.thenN (At.region (tV (Val.bin rfl rfl rfl) rfl (tM rfl rfl (tE ?_)))))))
   exact At.again (k + 1) ⟨by omega, by rw [List.take_add_one, hu]; intro x hx; rcases List.mem_append.1 hx with hx | hx; exact hs.2 x hx; simp at hx; rw [hx, hu0]⟩ (by omega) (Sub.cons rfl (Sub.cons rfl (Sub.cons rfl (Sub.cons rfl (Sub.cons rfl (Sub.cons (congrArg (fun z => some (Value.int IntKind.i64 z)) (wrap_i64 (by omega) (by omega))) Sub.nil)))))) (List.Perm.refl _)
  ·refine At.callT0 (fun w hw => must_F _ w) Tryz.call62 rfl (At.blkE (At.thenE (At.thenE (At.blkE (At.thenE (At.fail rfl (fun w hw => ?_)))))))
   exact ⟨rfl, hw.drop (List.nil_sublist _)⟩
 ·have hk : k = n := by have := h1; simp at this; omega
  exact absurd (by have h0 := hs.2; rw [hk, List.take_of_length_le (by rw [hX]; exact Nat.le_refl _)] at h0; exact h0) hz
theorem eyeText_T (b L o c at' : Nat) (l : List UInt8) (s : ByteArray) (why : Int) (w : World) (hh : Holds w b 113 (eyeC L o l.length c at')) (hb : Bytes w (some ⟨L, o, none⟩) l) (hne : L ≠ b) (hc : l.length ≤ c) (hm : l.length ≤ 140737488355328) (hn : at' + s.data.toList.length ≤ l.length) (ht : ((l.drop at').take s.data.toList.length) = s.data.toList) :
    Upd Tryz.prog 64 [.pointer (some ⟨b, 0, none⟩), .string s, .int .i64 why] (blk b 113 (eyeC L o l.length c at')) (.tuple #[]) (blk b 113 (eyeC L o l.length c (at' + s.data.toList.length))) w := by
 refine enter (feet [(blk b 113 (eyeC L o l.length c at'))]) [(blk b 113 (eyeC L o l.length c at'))] Tryz.func64 rfl Tryz.ntmps64 rfl (Rep.one hh) ?_
 have hS : ¬ feet [(blk b 113 (eyeC L o l.length c at'))] L := fun ⟨r, hr, hx⟩ => by rcases List.mem_singleton.1 hr with rfl; exact hne hx
 have hs : s.size = s.data.toList.length := Array.length_toList.symm
 have hX : ((l.drop at').take s.data.toList.length).length = s.data.toList.length := by simp; omega
 have hbX := cut_bytes (n := s.data.toList.length) hb hc hn
 simp only [envOf]
 refine At.seq (At.tail 20 rfl (by decide +kernel) ?_)
 simp only [List.take_succ_cons, List.take_zero, List.drop_succ_cons, List.drop_zero]
 refine qM rfl rfl (qV (Val.nilCheck rfl) rfl (qV (Val.field 0 rfl fo_113_0 rfl) rfl (qV (Val.load (i := 0) Tryz.isAgg45 rfl rfl rfl) rfl (qM rfl rfl (qV (Val.nilCheck rfl) rfl (qV (Val.field 1 rfl fo_113_1 rfl) rfl (qV (Val.load (i := 0) Tryz.isAgg3 rfl rfl rfl) rfl (qM rfl rfl (qV (Val.nilCheck rfl) rfl (qV (Val.field 1 rfl fo_113_1 rfl) rfl (qV (Val.load (i := 0) Tryz.isAgg3 rfl rfl rfl) rfl (qM rfl rfl (qV (Val.lenStr Tryz.underlying9 rfl) rfl (qV (Val.bin rfl rfl rfl) rfl ?_))))))))))))))
 rw [wrap_i64 (n := (at' : Int) + (s.size : Int)) (by omega) (by omega)]
 refine qV (Val.cutSl at' (at' + s.size) (if c = at' then o else o + at' * 1) s.size (c - at') Tryz.underlying45 Tryz.sizeOf5 rfl ⟨_, _, rfl, by omega, by omega⟩ ⟨_, _, rfl, by omega, by omega⟩ (by omega) (by omega) rfl (by omega) rfl) rfl ?_
 refine qV (Val.strOf (l := ((l.drop at').take s.data.toList.length)) Tryz.underlying45 Tryz.underlying5 Tryz.underlying9 rfl (by rw [hX, hs]) (fun w' hw' k u hk => by obtain ⟨b', o', h1, h2⟩ := hbX k u hk; refine ⟨b', o', h1, hw'.oldCell h2 ?_⟩; simp only [Option.some.injEq, Addr.mk.injEq] at h1; rw [← h1.1]; exact hS)) rfl ?_
 refine qM rfl rfl (qV (Val.seq_ rfl rfl) rfl ?_)
 rw [show (ByteArray.toList ⟨((l.drop at').take s.data.toList.length).toArray⟩ == s.toList) = true from by rw [ByteArray.toList_eq, ByteArray.toList_eq]; simpa using ht]
 refine qM rfl rfl (QAt.fin (At.callP (fun w hw => must_T _ w) Tryz.call62 rfl rfl (tE (At.region (tM rfl rfl (tV (Val.nilCheck rfl) rfl (tV (Val.field 1 rfl fo_113_1 rfl) rfl (tV (Val.load (i := 0) Tryz.isAgg3 rfl rfl rfl) rfl (tM rfl rfl (tV (Val.lenStr Tryz.underlying9 rfl) rfl (tV (Val.bin rfl rfl rfl) rfl ?_)))))))))))
 rw [wrap_i64 (n := (at' : Int) + (s.size : Int)) (by omega) (by omega)]
 refine tV (Val.nilCheck rfl) rfl (tV (Val.field 1 rfl fo_113_1 rfl) rfl (At.store (i := 0) Tryz.sizeOf3 rfl rfl rfl rfl (by simp) ?_))
 simp only [sc0, scS]
 refine At.nil ?_
 rw [show ([Value.slice (some ⟨L, o, none⟩) l.length c, Value.int .i64 ((at' : Int) + (s.size : Int))] : List Value) = eyeC L o l.length c (at' + s.data.toList.length) from by rw [hs, ← Int.natCast_add]]
 refine At.ret0 (.inr rfl) rfl rfl  (fun w hw => ?_)
 exact ⟨rfl, hw⟩
theorem eyeText_F (b L o c at' : Nat) (l : List UInt8) (s : ByteArray) (why : Int) (w : World) (hh : Holds w b 113 (eyeC L o l.length c at')) (hb : Bytes w (some ⟨L, o, none⟩) l) (hne : L ≠ b) (hc : l.length ≤ c) (hm : l.length ≤ 140737488355328) (hn : at' + s.data.toList.length ≤ l.length) (ht : ¬ ((l.drop at').take s.data.toList.length) = s.data.toList) :
    Throws1 Tryz.prog 64 [.pointer (some ⟨b, 0, none⟩), .string s, .int .i64 why] (blk b 113 (eyeC L o l.length c at')) (brk 150 why) w := by
 refine enter (feet [(blk b 113 (eyeC L o l.length c at'))]) [(blk b 113 (eyeC L o l.length c at'))] Tryz.func64 rfl Tryz.ntmps64 rfl (Rep.one hh) ?_
 have hS : ¬ feet [(blk b 113 (eyeC L o l.length c at'))] L := fun ⟨r, hr, hx⟩ => by rcases List.mem_singleton.1 hr with rfl; exact hne hx
 have hs : s.size = s.data.toList.length := Array.length_toList.symm
 have hX : ((l.drop at').take s.data.toList.length).length = s.data.toList.length := by simp; omega
 have hbX := cut_bytes (n := s.data.toList.length) hb hc hn
 simp only [envOf]
 refine At.seq (At.tail 20 rfl (by decide +kernel) ?_)
 simp only [List.take_succ_cons, List.take_zero, List.drop_succ_cons, List.drop_zero]
 refine qM rfl rfl (qV (Val.nilCheck rfl) rfl (qV (Val.field 0 rfl fo_113_0 rfl) rfl (qV (Val.load (i := 0) Tryz.isAgg45 rfl rfl rfl) rfl (qM rfl rfl (qV (Val.nilCheck rfl) rfl (qV (Val.field 1 rfl fo_113_1 rfl) rfl (qV (Val.load (i := 0) Tryz.isAgg3 rfl rfl rfl) rfl (qM rfl rfl (qV (Val.nilCheck rfl) rfl (qV (Val.field 1 rfl fo_113_1 rfl) rfl (qV (Val.load (i := 0) Tryz.isAgg3 rfl rfl rfl) rfl (qM rfl rfl (qV (Val.lenStr Tryz.underlying9 rfl) rfl (qV (Val.bin rfl rfl rfl) rfl ?_))))))))))))))
 rw [wrap_i64 (n := (at' : Int) + (s.size : Int)) (by omega) (by omega)]
 refine qV (Val.cutSl at' (at' + s.size) (if c = at' then o else o + at' * 1) s.size (c - at') Tryz.underlying45 Tryz.sizeOf5 rfl ⟨_, _, rfl, by omega, by omega⟩ ⟨_, _, rfl, by omega, by omega⟩ (by omega) (by omega) rfl (by omega) rfl) rfl ?_
 refine qV (Val.strOf (l := ((l.drop at').take s.data.toList.length)) Tryz.underlying45 Tryz.underlying5 Tryz.underlying9 rfl (by rw [hX, hs]) (fun w' hw' k u hk => by obtain ⟨b', o', h1, h2⟩ := hbX k u hk; refine ⟨b', o', h1, hw'.oldCell h2 ?_⟩; simp only [Option.some.injEq, Addr.mk.injEq] at h1; rw [← h1.1]; exact hS)) rfl ?_
 refine qM rfl rfl (qV (Val.seq_ rfl rfl) rfl ?_)
 rw [show (ByteArray.toList ⟨((l.drop at').take s.data.toList.length).toArray⟩ == s.toList) = false from by rw [ByteArray.toList_eq, ByteArray.toList_eq]; simpa using ht]
 refine qM rfl rfl (QAt.fin (At.callT0 (fun w hw => must_F _ w) Tryz.call62 rfl (At.thenE (At.fail rfl (fun w hw => ?_)))))
 exact ⟨rfl, hw.drop (List.nil_sublist _)⟩
end Go.Proofs.YthdmlpjhcalliaaGreatDoor
namespace Go.Proofs.YthdmlpjhcalliaaGreatDoor
open Go Go.Wk
theorem numS_p (v : Value) (l : List UInt8) (a n : Nat) (w : World) (hv : RdB w v l) (hlen : l.length ≤ 140737488355328) (hn : a + n ≤ l.length) (h8 : n ≤ 8) :
    PureC Tryz.prog 116 [v, .int .i64 (a : Int), .int .i64 (n : Int)] (.int .u64 (num l a n : Nat)) w := by
 refine enter0 Tryz.func116 rfl Tryz.ntmps116 rfl ?_
 simp only [envOf]
 refine tR (tA rfl rfl (tE (tR (tA rfl rfl (tE (At.seq (tR (tM rfl rfl ?_))))))))
 first | refine tV (Val.subI rfl rfl (by omega) (by omega)) rfl ?_ | refine tV (Val.bin rfl rfl rfl) rfl ?_
 refine tA rfl rfl (tE (At.block ?_))
 skip
 refine At.loop (σ := Nat) (fun j' => j' ≤ n) (fun j' => [(0, v), (1, .int .i64 (a : Int)), (7, .int .u64 (num l (a + j') (n - j') : Nat)), (8, .int .i64 ((j' : Int) - 1))]) (fun j' => []) (fun j' => j') n (Nat.le_refl _) (Sub.cons rfl (Sub.cons rfl (Sub.cons (congrArg (fun z => some (Value.int IntKind.u64 z)) (by rw [Nat.sub_self, num_zero]; rfl)) (Sub.cons rfl Sub.nil)))) (List.Perm.refl _) ?_
 intro j' hs
 refine At.seq (tR (tM rfl rfl (tV (Val.bin rfl rfl rfl) rfl (tE ?_))))
 refine At.cond rfl (fun h1 => ?_) (fun h1 => ?_)
 ·try simp only [vN_T, vN_F, nmE_T, nmE_F, wI_T, wI_F, data_T, data_F, ino_T, ino_F, notT, notF, bneT, bneF, beqT, beqF, decT, decF] at h1
  obtain ⟨j, rfl⟩ : ∃ j, j' = j + 1 := ⟨j' - 1, by omega⟩
  obtain ⟨u, hu⟩ : ∃ u, l[a + j]? = some u := ⟨_, List.getElem?_eq_getElem (by omega)⟩
  have hnum : num l (a + (j + 1)) (n - (j + 1)) * 256 + u.toNat = num l (a + j) (n - j) := by rw [show n - j = (n - (j + 1)) + 1 by omega, num_cons hu]; rfl
  have hlt : num l (a + j) (n - j) < 18446744073709551616 := Nat.lt_of_lt_of_le (num_lt (l := l) (a + j) (n - j)) (by rw [show (18446744073709551616 : Nat) = 256 ^ 8 from rfl]; exact Nat.pow_le_pow_right (by decide) (by omega))
  refine At.skipC (At.thenN (At.seq (At.block (At.region (tM rfl rfl (tV (Val.bin rfl rfl rfl) rfl ?_))))))
  rw [wrap_u64 (n := ((num l (a + (j + 1)) (n - (j + 1)) : Nat) : Int) * 256) (by omega) (by omega)]
  refine tM rfl rfl (tM rfl rfl (tM rfl rfl ?_))
  first | refine tV (Val.addI rfl rfl (by omega) (by omega)) rfl ?_ | refine tV (Val.bin rfl rfl rfl) rfl ?_
  refine At.idxB hv Tryz.underlying45 Tryz.sizeOf5 rfl rfl (by omega) (by omega) rfl rfl (fun b2 o3 q4 hq5 hl6 hc7 => (tV (Val.loadOld Tryz.isAgg5 rfl hc7 (fun h => h)) rfl (tV (Val.conv Tryz.underlying5 Tryz.underlying34 rfl) rfl ?_)))
  rw [wrap_u64 (n := (q4.toNat : Int)) (by omega) (by have := q4.toNat_lt; omega), show q4 = u from by have h1 := hq5; rw [show ((a : Int) + (((j + 1 : Nat) : Int) - 1)).toNat = a + j by omega, hu] at h1; exact (Option.some.inj h1).symm]
  refine tV (Val.bin rfl rfl rfl) rfl ?_
  rw [show IntKind.u64.wrap (((num l (a + (j + 1)) (n - (j + 1)) : Nat) : Int) * 256 + (u.toNat : Int)) = ((num l (a + j) (n - j) : Nat) : Int) from by rw [wrap_u64 (by omega) (by omega)]; omega]
  refine tA rfl rfl (At.nil (At.blkN (At.thenN (At.region (tM rfl rfl ?_)))))
  first | refine tV (Val.subI rfl rfl (by omega) (by omega)) rfl ?_ | refine tV (Val.bin rfl rfl rfl) rfl ?_
  refine tA rfl rfl (tE ?_)
  exact At.again j (by omega) (by omega) (Sub.cons rfl (Sub.cons rfl (Sub.cons rfl (Sub.cons (congrArg (fun z => some (Value.int IntKind.i64 z)) (by omega)) Sub.nil)))) (List.Perm.refl _)
 ·try simp only [vN_T, vN_F, nmE_T, nmE_F, wI_T, wI_F, data_T, data_F, ino_T, ino_F, notT, notF, bneT, bneF, beqT, beqF, decT, decF] at h1
  have hj0 : j' = 0 := by omega
  subst hj0
  refine At.exitC (At.thenX (At.thenX (At.blkX (At.thenN (tR (tM rfl rfl (tA rfl rfl (tE (At.retC (At.ret1 (.inl rfl) rfl rfl rfl (fun w hw => ?_)))))))))))
  exact ⟨rfl, hw.mod⟩
theorem fits_p (v : Value) (l : List UInt8) (a n : Int) (w : World) (hv : RdB w v l) (hlen : l.length ≤ 140737488355328) (hn : 0 ≤ n ∧ n ≤ 140737488355328) :
    PureC Tryz.prog 115 [v, .int .i64 a, .int .i64 n] (.bool (decide (0 ≤ a ∧ n ≤ l.length ∧ a ≤ l.length - n))) w := by
 refine enter0 Tryz.func115 rfl Tryz.ntmps115 rfl ?_
 simp only [envOf]
 refine tR (tA rfl rfl (tE (tR (tM rfl rfl (tV (Val.bin rfl rfl rfl) rfl (tM rfl rfl ?_))))))
 refine At.split (t := 9) rfl (fun h1 => ?_) (fun h1 => ?_)
 ·try simp only [vN_T, vN_F, nmE_T, nmE_F, wI_T, wI_F, data_T, data_F, ino_T, ino_F, notT, notF, bneT, bneF, beqT, beqF, decT, decF] at h1
  refine At.yes rfl rfl (tM rfl rfl (At.yes rfl rfl (tV (Val.lenRd hv Tryz.underlying45 rfl) rfl (At.yes rfl rfl (tM rfl rfl (At.yes rfl rfl (tV (Val.bin rfl rfl rfl) rfl (tV (Val.pickT rfl rfl) rfl (tM rfl rfl ?_)))))))))
  refine At.split (t := 15) rfl (fun h2 => ?_) (fun h2 => ?_)
  ·try simp only [vN_T, vN_F, nmE_T, nmE_F, wI_T, wI_F, data_T, data_F, ino_T, ino_F, notT, notF, bneT, bneF, beqT, beqF, decT, decF] at h2
   refine At.yes rfl rfl (tM rfl rfl (At.yes rfl rfl (tM rfl rfl (At.yes rfl rfl (tV (Val.lenRd hv Tryz.underlying45 rfl) rfl (At.yes rfl rfl (tM rfl rfl (At.yes rfl rfl ?_))))))))
   first | refine tV (Val.subI rfl rfl (by omega) (by omega)) rfl ?_ | refine tV (Val.bin rfl rfl rfl) rfl ?_
   refine At.yes rfl rfl (tV (Val.bin rfl rfl rfl) rfl (tV (Val.pickT rfl rfl) rfl (tA rfl rfl (tE (At.retC (At.ret1 (.inl rfl) rfl rfl rfl (fun w hw => ?_)))))))
   exact ⟨retB (by first | exact (decide_eq_true (by omega)).symm | exact (decide_eq_false (by omega)).symm | (apply Bool.eq_iff_iff.2; simp only [decide_eq_true_eq]; omega)), hw.mod⟩
  ·try simp only [vN_T, vN_F, nmE_T, nmE_F, wI_T, wI_F, data_T, data_F, ino_T, ino_F, notT, notF, bneT, bneF, beqT, beqF, decT, decF] at h2
   refine At.no rfl rfl rfl rfl (At.no rfl rfl rfl rfl (At.no rfl rfl rfl rfl (At.no rfl rfl rfl rfl (At.no rfl rfl rfl rfl (At.no rfl rfl rfl rfl (tV (Val.pickF rfl rfl) rfl (tA rfl rfl (tE (At.retC (At.ret1 (.inl rfl) rfl rfl rfl (fun w hw => ?_)))))))))))
   exact ⟨retB (by first | exact (decide_eq_true (by omega)).symm | exact (decide_eq_false (by omega)).symm | (apply Bool.eq_iff_iff.2; simp only [decide_eq_true_eq]; omega)), hw.mod⟩
 ·try simp only [vN_T, vN_F, nmE_T, nmE_F, wI_T, wI_F, data_T, data_F, ino_T, ino_F, notT, notF, bneT, bneF, beqT, beqF, decT, decF] at h1
  refine At.no rfl rfl rfl rfl (At.no rfl rfl rfl rfl (At.no rfl rfl rfl rfl (At.no rfl rfl rfl rfl (tV (Val.pickF rfl rfl) rfl (tM rfl rfl (At.no rfl rfl rfl rfl (At.no rfl rfl rfl rfl (At.no rfl rfl rfl rfl (At.no rfl rfl rfl rfl (At.no rfl rfl rfl rfl (At.no rfl rfl rfl rfl (tV (Val.pickF rfl rfl) rfl (tA rfl rfl (tE (At.retC (At.ret1 (.inl rfl) rfl rfl rfl (fun w hw => ?_)))))))))))))))))
  exact ⟨retB (by first | exact (decide_eq_true (by omega)).symm | exact (decide_eq_false (by omega)).symm | (apply Bool.eq_iff_iff.2; simp only [decide_eq_true_eq]; omega)), hw.mod⟩
theorem wordS_p (v : Value) (l : List UInt8) (a : Nat) (w : World) (hv : RdB w v l) (hlen : l.length ≤ 140737488355328) (hn : a + 8 ≤ l.length) :
    PureC Tryz.prog 111 [v, .int .i64 (a : Int)] (.tuple #[.int .u64 (num l a 8 : Nat), .int .i64 0]) w := by
 refine enter0 Tryz.func111 rfl Tryz.ntmps111 rfl ?_
 simp only [envOf]
 refine tR (tA rfl rfl (tA rfl rfl (tE (At.seq (tR (tM rfl rfl (tM rfl rfl (At.callP (fun w hw => fits_p v l a 8 w (hv.mod hw.mod) hlen (by omega)) Tryz.call115 rfl rfl (tV (Val.not rfl) rfl (tE ?_))))))))))
 refine At.cond rfl (fun h1 => ?_) (fun h1 => ?_)
 ·try simp only [vN_T, vN_F, nmE_T, nmE_F, wI_T, wI_F, data_T, data_F, ino_T, ino_F, notT, notF, bneT, bneF, beqT, beqF, decT, decF] at h1
  exact absurd h1 (by simp; omega)
 ·try simp only [vN_T, vN_F, nmE_T, nmE_F, wI_T, wI_F, data_T, data_F, ino_T, ino_F, notT, notF, bneT, bneF, beqT, beqF, decT, decF] at h1
  refine At.skipC (At.thenN (tR (tM rfl rfl (tM rfl rfl (At.callP (fun w hw => numS_p v l a 8 w (hv.mod hw.mod) hlen hn (by decide)) Tryz.call116 rfl rfl (tA rfl rfl (tA rfl rfl (tE (At.retC (At.ret2 (.inl rfl) rfl rfl rfl rfl (fun w hw => ?_)))))))))))
  exact ⟨rfl, hw.mod⟩
end Go.Proofs.YthdmlpjhcalliaaGreatDoor
namespace Go.Proofs.YthdmlpjhcalliaaGreatDoor
open Go Go.Wk
theorem packUnR_n (v : Value) (L : List (Int × BitVec 64)) (w : World) (hv : RdP w v L) (hlen : L.length ≤ 140737488355328) :
    NewRowT Tryz.prog 43 [v] (fun v => .tuple #[v, .int .i64 (packE L)]) 5 1 (packB L).length ((packB L).map bv) w := by
 refine enter0 Tryz.func43 rfl Tryz.ntmps43 rfl ?_
 simp only [envOf]
 refine tR (tA rfl rfl (tA rfl rfl (tE (tR (tM rfl rfl (At.callP (fun w hw => goodUnR_p v L w (hv.mod hw.mod) hlen) Tryz.call87 rfl rfl (tA rfl rfl (tE (At.seq (tR (tM rfl rfl (tV (Val.not rfl) rfl (tE ?_)))))))))))))
 refine At.cond rfl (fun h1 => ?_) (fun h1 => ?_)
 ·try simp only [vN_T, vN_F, nmE_T, nmE_F, wI_T, wI_F, data_T, data_F, ino_T, ino_F, notT, notF, bneT, bneF, beqT, beqF, decT, decF] at h1
  have hg : ¬ GoodUn L := by simpa using h1
  refine tR (tA rfl rfl (tA rfl rfl (At.nil (At.rowNilB 5 (At.thenN (At.retC (At.thenR (At.ret2 (.inl rfl) rfl rfl rfl rfl (fun w hw => ?_)))))))))
  exact ⟨_, by rw [packE_F hg], by rw [packB_F hg]; exact (hw.drop (List.singleton_sublist.2 (List.mem_of_getElem? (i := 0) rfl))).f0⟩
 ·try simp only [vN_T, vN_F, nmE_T, nmE_F, wI_T, wI_F, data_T, data_F, ino_T, ino_F, notT, notF, bneT, bneF, beqT, beqF, decT, decF] at h1
  have hg : GoodUn L := by simpa using h1
  have hL8 : L.length ≤ 8 := hg.2.1
  refine At.skipC (At.thenN (tR (tA rfl rfl (At.nil (At.rowNilB 5 (At.thenN (At.seq (tR (tA rfl rfl (tE (At.block ?_)))))))))))
  skip
  refine At.loop (σ := Nat × Value) (fun s => s.1 ≤ L.length) (fun s => [(0, v), (5, s.2), (6, .int .i64 (s.1 : Int))]) (fun s => [brow 5 s.2 (recB (L.take s.1))]) (fun s => L.length - s.1) (0, .slice none 0 0) (Nat.zero_le _) (Sub.cons rfl (Sub.cons rfl (Sub.cons rfl Sub.nil))) (List.Perm.refl _) ?_
  intro s hs
  obtain ⟨k, vk⟩ := s
  dsimp only at hs ⊢
  refine At.seq (tR (tM rfl rfl (tM rfl rfl (tV (Val.lenRd hv Tryz.underlying40 rfl) rfl (tV (Val.bin rfl rfl rfl) rfl (tE ?_))))))
  refine At.cond rfl (fun h2 => ?_) (fun h2 => ?_)
  ·try simp only [vN_T, vN_F, nmE_T, nmE_F, wI_T, wI_F, data_T, data_F, ino_T, ino_F, notT, notF, bneT, bneF, beqT, beqF, decT, decF] at h2
   have hk : k < L.length := by omega
   refine At.skipC (At.thenN (At.seq (At.block (tR (tM rfl rfl (tM rfl rfl (tM rfl rfl (At.idxP hv Tryz.underlying40 Tryz.sizeOf62 rfl rfl (by omega) (by omega) rfl rfl (fun b3 o4 q5 hq6 hc7 hd8 => (tV (Val.field o4 rfl fo_62_0 rfl) rfl (tV (Val.loadOld Tryz.isAgg3 rfl hc7 (fun h => h)) rfl (tV (Val.conv Tryz.underlying3 Tryz.underlying34 rfl) rfl ?_))))))))))))
   rw [wrap_u64_int q5.1]
   refine At.callR 0 rfl (fun w hw hr => rlay_p _ (recB (L.take k)) ((BitVec.ofInt 64 q5.1).toNat) 8 w hr (by have := BitVec.isLt ((BitVec.ofInt 64 q5.1)); omega) (by decide) (by rw [recB_length, List.length_take]; omega)) Tryz.call57 rfl rfl (fun v9 => ?_)
   simp only [sc0, scS]
   refine tA rfl rfl (tE (At.region (tM rfl rfl (tM rfl rfl (tM rfl rfl (At.idxP hv Tryz.underlying40 Tryz.sizeOf62 rfl rfl (by omega) (by omega) rfl rfl (fun b10 o11 q12 hq13 hc14 hd15 => (tV (Val.field (o11 + 1) rfl fo_62_1 rfl) rfl (tV (Val.loadOld Tryz.isAgg34 rfl hd15 (fun h => h)) rfl ?_)))))))))
   rw [pr_eq hq13 ((by have := hq6; rwa [Int.toNat_natCast] at this))]
   refine At.callR 0 rfl (fun w hw hr => rlay_p _ ((recB (L.take k)) ++ le 8 ((BitVec.ofInt 64 q5.1).toNat)) ((q5.2).toNat) 8 w hr (by have := BitVec.isLt ((q5.2)); omega) (by decide) (by rw [List.length_append, le_length, recB_length, List.length_take]; omega)) Tryz.call57 rfl rfl (fun v16 => ?_)
   simp only [sc0, scS]
   refine tA rfl rfl (At.nil (At.blkN (At.thenN (At.region (tM rfl rfl ?_)))))
   first | refine tV (Val.addI rfl rfl (by omega) (by omega)) rfl ?_ | refine tV (Val.bin rfl rfl rfl) rfl ?_
   refine tA rfl rfl (tE ?_)
   exact At.again (k + 1, v16) (show k + 1 ≤ _ by omega) (by dsimp only; omega) (Sub.cons rfl (Sub.cons rfl (Sub.cons (congrArg (fun z => some (Value.int IntKind.i64 z)) (by omega)) Sub.nil))) (by rw [List.take_succ_of_get (by have := hq6; rwa [Int.toNat_natCast] at this), recB_snoc])
  ·try simp only [vN_T, vN_F, nmE_T, nmE_F, wI_T, wI_F, data_T, data_F, ino_T, ino_F, notT, notF, bneT, bneF, beqT, beqF, decT, decF] at h2
   obtain rfl : k = L.length := by omega
   rw [List.take_length]
   refine At.exitC (At.thenX (At.thenX (At.blkX (At.thenN (tR (tM rfl rfl ?_))))))
   refine At.callP (fun w hw => rsumRd_p _ (recB L) w (row_rd (hw.row (i := 0) rfl) (by decide)) (by rw [recB_length]; omega)) Tryz.call88 rfl rfl (tA rfl rfl (tE (tR (tA rfl rfl (At.nil (At.rowNilB 5 (At.thenN (tR (tM rfl rfl (tV (Val.lenRd hv Tryz.underlying40 rfl) rfl (tV (Val.conv Tryz.underlying3 Tryz.underlying41 rfl) rfl ?_)))))))))))
   rw [wrap_u32_int (L.length : Int)]
   refine At.callP (fun w hw => sealR_p 512 (BitVec.ofInt 32 (L.length : Int)) w) Tryz.call71 rfl rfl (tA rfl rfl (tE (tR (tM rfl rfl (tM rfl rfl ?_)))))
   refine At.callR 0 rfl (fun w hw hr => rlay_p _ ([] : List UInt8) ((sealW (BitVec.ofInt 64 512) (BitVec.ofInt 32 (L.length : Int))).toNat) 8 w hr (by have := BitVec.isLt ((sealW (BitVec.ofInt 64 512) (BitVec.ofInt 32 (L.length : Int)))); omega) (by decide) (by decide)) Tryz.call57 rfl rfl (fun v17 => ?_)
   simp only [sc0, scS]
   refine tA rfl rfl (tE (tR (tM rfl rfl (At.callP (fun w hw => sealR_p 520 (sumOn 0 (recB L)) w) Tryz.call71 rfl rfl (tA rfl rfl (tE (tR (tM rfl rfl (tM rfl rfl ?_)))))))))
   refine At.callR 0 rfl (fun w hw hr => rlay_p _ (([] : List UInt8) ++ le 8 ((sealW (BitVec.ofInt 64 512) (BitVec.ofInt 32 (L.length : Int))).toNat)) ((sealW (BitVec.ofInt 64 520) (sumOn 0 (recB L))).toNat) 8 w hr (by have := BitVec.isLt ((sealW (BitVec.ofInt 64 520) (sumOn 0 (recB L)))); omega) (by decide) (by rw [List.length_append, le_length]; decide)) Tryz.call57 rfl rfl (fun v18 => ?_)
   simp only [sc0, scS]
   refine tA rfl rfl (At.nil ?_)
   rw [show (([] : List UInt8) ++ le 8 ((sealW (BitVec.ofInt 64 512) (BitVec.ofInt 32 (L.length : Int))).toNat) ++ le 8 ((sealW (BitVec.ofInt 64 520) (sumOn 0 (recB L))).toNat)) = (headB (L.length : Int) (sumOn 0 (recB L))) from rfl]
   refine At.thenN (tR (tM rfl rfl ?_))
   refine At.callR 0 rfl (fun w hw hr => filled_p _ (headB (L.length : Int) (sumOn 0 (recB L))) 64 w hr (by rw [headB_length]; decide) (by decide)) Tryz.call89 rfl rfl (fun v19 => ?_)
   simp only [sc0, scS]
   refine tA rfl rfl (At.nil ?_)
   rw [show 64 - (headB (L.length : Int) (sumOn 0 (recB L))).length = 48 from by rw [headB_length]]
   refine At.thenN (At.seq (At.seq ?_))
   have hrl := recB_length L
   refine At.region (tA rfl rfl (tE (At.block ?_)))
   skip
   refine At.loop (σ := Nat × Value) (fun s => s.1 ≤ (recB L).length) (fun s => [(5, vk), (8, s.2), (11, .int .i64 (s.1 : Int))]) (fun s => [brow 5 s.2 ((headB (L.length : Int) (sumOn 0 (recB L))) ++ zs 48 ++ (recB L).take s.1), brow 5 vk (recB L)]) (fun s => (recB L).length - s.1) (0, v19) (Nat.zero_le _) (Sub.cons rfl (Sub.cons rfl (Sub.cons rfl Sub.nil))) (by rw [List.take_zero, List.append_nil]) ?_
   intro s hs
   obtain ⟨k, vm⟩ := s
   dsimp only at hs ⊢
   refine At.seq (tR (tM rfl rfl (tM rfl rfl (tV (Val.lenRow (i := 1) Tryz.underlying45 rfl rfl) rfl (tV (Val.bin rfl rfl rfl) rfl (tE ?_))))))
   refine At.cond rfl (fun h20 => ?_) (fun h20 => ?_)
   ·try simp only [vN_T, vN_F, nmE_T, nmE_F, wI_T, wI_F, data_T, data_F, ino_T, ino_F, notT, notF, bneT, bneF, beqT, beqF, decT, decF] at h20
    have hk : k < (recB L).length := by omega
    refine At.skipC (At.thenN (At.seq (At.block (At.region (tM rfl rfl (tM rfl rfl (tM rfl rfl (At.idxRowB (i := 1) rfl Tryz.underlying45 Tryz.sizeOf5 rfl rfl (by omega) (by omega) rfl rfl (fun q21 hq22 hl23 => (tV (Val.loadRowB (i := 1) Tryz.isAgg5 rfl rfl hq22) rfl (At.buildSl (fun a ha => by simp only [List.map_toArray, List.map_cons, List.map_nil, ha.eval (x := (.tmp 63)) rfl]; try rfl) (bs_45_1 _ ) rfl (fun b24 => ?_))))))))))))
    refine At.appendB1 (i := 1) (j := 0) (by_ := 1) Tryz.underlying45 info_5 rfl rfl rfl rfl rfl rfl rfl rfl (by rw [List.length_append, List.length_append, headB_length, zs_length, List.length_take]; omega) (by rw [List.length_append, List.length_append, headB_length, zs_length, List.length_take]; omega) rfl (fun v25 => ?_)
    simp only [sc0, scS]
    refine At.drop 0 ?_
    simp only [ec0, ecS]
    refine tA rfl rfl (At.nil (At.blkN (At.thenN (At.region (tM rfl rfl ?_)))))
    first | refine tV (Val.addI rfl rfl (by omega) (by omega)) rfl ?_ | refine tV (Val.bin rfl rfl rfl) rfl ?_
    refine tA rfl rfl (tE ?_)
    exact At.again (k + 1, v25) (show k + 1 ≤ _ by omega) (by dsimp only; omega) (Sub.cons rfl (Sub.cons rfl (Sub.cons (congrArg (fun z => some (Value.int IntKind.i64 z)) (by omega)) Sub.nil))) (by rw [List.take_succ_of_get (by have := hq22; rwa [Int.toNat_natCast] at this), ← List.append_assoc])
   ·try simp only [vN_T, vN_F, nmE_T, nmE_F, wI_T, wI_F, data_T, data_F, ino_T, ino_F, notT, notF, bneT, bneF, beqT, beqF, decT, decF] at h20
    obtain rfl : k = (recB L).length := by omega
    rw [List.take_length]
    refine At.exitC (At.thenX (At.thenX (At.blkX (At.thenN (tR (tM rfl rfl (tA rfl rfl (tA rfl rfl (tE (At.retC (At.ret2 (.inl rfl) rfl rfl rfl rfl (fun w hw => ?_))))))))))))
    exact ⟨_, by rw [packE_T hg], by rw [packB_T hg]; exact (hw.drop (List.singleton_sublist.2 (List.mem_of_getElem? (i := 0) rfl))).f0⟩
end Go.Proofs.YthdmlpjhcalliaaGreatDoor
namespace Go.Proofs.YthdmlpjhcalliaaGreatDoor
open Go Go.Wk
def lo (x : BitVec 64) : Nat := (x.setWidth 32).toNat
theorem lo_lt (x : BitVec 64) : lo x < 4294967296 := (x.setWidth 32).isLt
def Sl (a : Int) (x : BitVec 64) : Prop := sealW (BitVec.ofInt 64 a) (x.setWidth 32) = x
instance (a : Int) (x : BitVec 64) : Decidable (Sl a x) := by unfold Sl; infer_instance
theorem num_b64 (l : List UInt8) (a : Nat) : (Value.int .u64 ((num l a 8 : Nat) : Int)) = b64 (BitVec.ofNat 64 (num l a 8)) := by
  unfold b64; rw [BitVec.toNat_ofNat, Nat.mod_eq_of_lt (by have := num_lt (l := l) a 8; simpa using this)]
theorem ofNat_num (l : List UInt8) (a : Nat) : (BitVec.ofNat 64 (num l a 8)).toNat = num l a 8 := by
  rw [BitVec.toNat_ofNat, Nat.mod_eq_of_lt (by have := num_lt (l := l) a 8; simpa using this)]
theorem ofInt_num (l : List UInt8) (a : Nat) : (BitVec.ofInt 64 ((num l a 8 : Nat) : Int)).toNat = num l a 8 := by
  rw [show BitVec.ofInt 64 ((num l a 8 : Nat) : Int) = BitVec.ofNat 64 (num l a 8) from by simp, ofNat_num]
def wordA (l : List UInt8) (a : Nat) : BitVec 64 := BitVec.ofNat 64 (num l a 8)
theorem num_wordA (l : List UInt8) (a : Nat) : (Value.int .u64 ((num l a 8 : Nat) : Int)) = b64 (wordA l a) := num_b64 l a
def unN (l : List UInt8) : Nat := lo (wordA l 0)
theorem unN_lt (l : List UInt8) : unN l < 4294967296 := lo_lt _
def recs (l : List UInt8) (k : Nat) : List (Int × BitVec 64) := (List.range k).map fun j => (((num l (64 + 16 * j) 8 : Nat) : Int), wordA l (64 + 16 * j + 8))
theorem recs_succ (l : List UInt8) (k : Nat) : recs l (k + 1) = recs l k ++ [(((num l (64 + 16 * k) 8 : Nat) : Int), wordA l (64 + 16 * k + 8))] := by
  unfold recs; rw [List.range_succ, List.map_append]; rfl
theorem recs_length (l : List UInt8) (k : Nat) : (recs l k).length = k := by unfold recs; simp
theorem recs_get (l : List UInt8) {k n : Nat} (h : k < n) : (recs l n)[k]? = some (((num l (64 + 16 * k) 8 : Nat) : Int), wordA l (64 + 16 * k + 8)) := by
  unfold recs; simp [List.getElem?_map, List.getElem?_range h]
def seg (l : List UInt8) (n : Nat) : List UInt8 := (l.drop 64).take (16 * n)
theorem seg_cut (l : List UInt8) (n : Nat) : (l.drop 64).take (64 + 16 * n - 64) = seg l n := by unfold seg; rw [show 64 + 16 * n - 64 = 16 * n by omega]
theorem take_two {l : List UInt8} (a n m : Nat) : (l.drop a).take (n + m) = (l.drop a).take n ++ (l.drop (a + n)).take m := by
  rw [List.take_add, List.drop_drop]
theorem recB_recs {l : List UInt8} {n : Nat} (h : 64 + 16 * n ≤ l.length) : recB (recs l n) = seg l n := by
  induction n with
  | zero => simp [recs, recB, undoWs, bytesW, seg]
  | succ n ih =>
    rw [recs_succ, recB_snoc, ih (by omega), ofInt_num, show (wordA l (64 + 16 * n + 8)).toNat = num l (64 + 16 * n + 8) 8 from ofNat_num l _, le_num (by omega), le_num (by omega)]
    unfold seg
    rw [show 16 * (n + 1) = 16 * n + (8 + 8) by omega, take_two 64 (16 * n) (8 + 8), take_two (64 + 16 * n) 8 8, List.append_assoc]
def OkUn (l : List UInt8) : Prop := l.length = 512 ∧ Sl 512 (wordA l 0) ∧ (unN l = 0 ∨ (unN l ≤ 8 ∧ sealW (BitVec.ofInt 64 520) (sumOn 0 (seg l (unN l))) = wordA l 8 ∧ GoodUn (recs l (unN l))))
noncomputable instance (l : List UInt8) : Decidable (OkUn l) := Classical.propDecidable _
noncomputable def openUnL (l : List UInt8) : List (Int × BitVec 64) := if OkUn l then recs l (unN l) else []
noncomputable def openUnE (l : List UInt8) : Int := if OkUn l then 0 else 35
theorem openUnL_no {l : List UInt8} (h : ¬ OkUn l) : openUnL l = [] := if_neg h
theorem openUnE_no {l : List UInt8} (h : ¬ OkUn l) : openUnE l = 35 := if_neg h
theorem openUnL_yes {l : List UInt8} (h : OkUn l) : openUnL l = recs l (unN l) := if_pos h
theorem openUnE_yes {l : List UInt8} (h : OkUn l) : openUnE l = 0 := if_pos h
theorem openUnL_0 {l : List UInt8} (h : OkUn l) (h0 : unN l = 0) : openUnL l = [] := by rw [openUnL_yes h, h0]; rfl
theorem OkUn.two {l : List UInt8} (h : OkUn l) (h0 : ¬ unN l = 0) : unN l ≤ 8 ∧ sealW (BitVec.ofInt 64 520) (sumOn 0 (seg l (unN l))) = wordA l 8 ∧ GoodUn (recs l (unN l)) := h.2.2.resolve_left h0
theorem good_at {L : List (Int × BitVec 64)} {k : Nat} {c : Int × BitVec 64} (g : GoodUn L) (h : L[k]? = some c) : c.1 ≤ 18431 := (g.2.2 k (List.getElem?_eq_some_iff.1 h).1 c h).1.2.1
theorem OkUn.at {l : List UInt8} (h : OkUn l) {k : Nat} (hk : k < unN l) : num l (64 + 16 * k) 8 ≤ 18431 := by
  have := good_at (h.two (by omega)).2.2 (recs_get l hk)
  simp only at this; omega
theorem seal_lo {a : Int} {s : BitVec 32} {x : BitVec 64} (h : sealW (BitVec.ofInt 64 a) s = x) : Sl a x ∧ lo x = s.toNat := by
  subst h; exact ⟨by unfold Sl; rw [seal_low], by unfold lo; rw [seal_low]⟩
theorem seal_of {a : Int} {s : BitVec 32} {x : BitVec 64} (h : Sl a x) (e : s.toNat = lo x) : sealW (BitVec.ofInt 64 a) s = x := by
  have : s = x.setWidth 32 := BitVec.eq_of_toNat_eq e
  rw [this]; exact h
theorem recs_bd {l : List UInt8} {n : Nat} (h : ∀ j, j < n → num l (64 + 16 * j) 8 < 4294967296) : ∀ c ∈ recs l n, -9223372036854775808 ≤ c.1 ∧ c.1 ≤ 9223372036854775807 := fun c hc => by
  unfold recs at hc
  obtain ⟨j, hj, rfl⟩ := List.mem_map.1 hc
  have := h j (List.mem_range.1 hj)
  simp only; omega
theorem undoB_recs {l : List UInt8} (hl : l.length = 512) (hn : unN l ≤ 8) (hs : Sl 512 (wordA l 0)) : undoB (recs l (unN l)) = (l.take 8 ++ le 8 (sealW (BitVec.ofInt 64 520) (sumOn 0 (seg l (unN l)))).toNat) ++ zs 48 ++ seg l (unN l) := by
  unfold undoB headB
  rw [recB_recs (by omega), recs_length]
  have e : BitVec.ofInt 32 ((unN l : Nat) : Int) = (wordA l 0).setWidth 32 := by
    apply BitVec.eq_of_toNat_eq
    show _ = unN l
    have := unN_lt l
    simp [BitVec.toNat_ofInt]; omega
  rw [e, show sealW (BitVec.ofInt 64 512) ((wordA l 0).setWidth 32) = wordA l 0 from hs, show (wordA l 0).toNat = num l 0 8 from ofNat_num l 0, le_num (by omega)]
  rfl
theorem pack_same {l : List UInt8} (h : OkUn l) (h0 : ¬ unN l = 0) {i : Nat} (hi : i < 64 + 16 * unN l) (hc : i < 16 ∨ 64 ≤ i) : (packB (recs l (unN l)))[i]? = l[i]? := by
  obtain ⟨hn, hse, hg⟩ := h.two h0
  have hl := h.1
  rw [packB_T hg, undoB_recs hl hn h.2.1, hse, show (wordA l 8).toNat = num l 8 8 from ofNat_num l 8, le_num (by omega)]
  rw [show l.take 8 ++ (l.drop 8).take 8 = l.take 16 from by have := take_two (l := l) 0 8 8; simpa using this.symm]
  have h16 : (l.take 16).length = 16 := by rw [List.length_take]; omega
  rcases hc with hc | hc
  · rw [List.append_assoc, List.getElem?_append_left (by omega), List.getElem?_take, if_pos hc]
  · rw [List.getElem?_append_right (by rw [List.length_append, h16, zs_length]; exact hc), List.length_append, h16, zs_length]
    unfold seg
    rw [List.getElem?_take, if_pos (by omega), List.getElem?_drop, show 64 + (i - (16 + 48)) = i by omega]
theorem num_atU {a b m : List UInt8} {n x p : Nat} (e : m = a ++ (le n x ++ b)) (ha : a.length = p) (hx : x < 256 ^ n) : num m p n = x := by
  subst e; unfold num; rw [← ha, List.drop_left, List.take_left' (le_length n x), fromLe_le n x hx]
theorem pack_seal {l : List UInt8} (hl : l.length = 512) (hs : Sl 512 (wordA l 0)) (hn : unN l ≤ 8) (hg : GoodUn (recs l (unN l))) (h : ∀ i, i < 64 + 16 * unN l → (i < 16 ∨ 64 ≤ i) → (packB (recs l (unN l)))[i]? = l[i]?) : sealW (BitVec.ofInt 64 520) (sumOn 0 (seg l (unN l))) = wordA l 8 := by
  rw [packB_T hg, undoB_recs hl hn hs] at h
  have h8 : (l.take 8).length = 8 := by rw [List.length_take]; omega
  have e1 : num (l.take 8 ++ le 8 (sealW (BitVec.ofInt 64 520) (sumOn 0 (seg l (unN l)))).toNat ++ zs 48 ++ seg l (unN l)) 8 8 = (sealW (BitVec.ofInt 64 520) (sumOn 0 (seg l (unN l)))).toNat :=
    num_atU (a := l.take 8) (b := zs 48 ++ seg l (unN l)) (by simp only [List.append_assoc]) h8 (by have := (sealW (BitVec.ofInt 64 520) (sumOn 0 (seg l (unN l)))).isLt; simpa using this)
  have e2 : num (l.take 8 ++ le 8 (sealW (BitVec.ofInt 64 520) (sumOn 0 (seg l (unN l)))).toNat ++ zs 48 ++ seg l (unN l)) 8 8 = num l 8 8 := by
    unfold num
    congr 1
    apply List.ext_getElem?
    intro i
    rw [List.getElem?_take, List.getElem?_take]
    split
    · rw [List.getElem?_drop, List.getElem?_drop]; exact h _ (by omega) (.inl (by omega))
    · rfl
  apply BitVec.eq_of_toNat_eq
  rw [← e1, e2]; exact (ofNat_num l 8).symm
theorem cmp_eq {p l : List UInt8} {k : Nat} {q r : UInt8} (h1 : p[(k : Int).toNat]? = some q) (h2 : l[(k : Int).toNat]? = some r) (e : (q.toNat : Int) = r.toNat) : p[k]? = l[k]? := by
  rw [Int.toNat_natCast] at h1 h2; rw [h1, h2, UInt8.toNat_inj.1 (show q.toNat = r.toNat by omega)]
theorem cmp_ne {p l : List UInt8} {k : Nat} {q r : UInt8} (h1 : p[(k : Int).toNat]? = some q) (h2 : l[(k : Int).toNat]? = some r) (e : ¬ (q.toNat : Int) = r.toNat) : ¬ p[k]? = l[k]? := fun h => by
  rw [Int.toNat_natCast] at h1 h2; rw [h1, h2] at h; obtain rfl := Option.some.inj h; exact e rfl
theorem openUn_n (v : Value) (l : List UInt8) (w : World) (ht : Tab w) (hv : RdB w v l) (hlen : l.length ≤ 140737488355328) :
    NewRowT Tryz.prog 93 [v] (fun v => .tuple #[v, .int .i64 (openUnE l)]) 62 2 (openUnL l).length (prC (openUnL l)) w := by
 refine enterD0 Tryz.func93 rfl Tryz.ntmps93 rfl ?_
 simp only [envOf]
 refine tR (At.alloc Tryz.zeroValue40 rfl rfl (fun b1 => (At.alloc Tryz.zeroValue67 rfl rfl (fun b2 => (tE (tR (At.defer rfl (tE (tR (tM rfl rfl (tV (Val.lenRd hv Tryz.underlying45 rfl) rfl (tV (Val.bin rfl rfl rfl) rfl ?_))))))))))))
 refine At.split (t := 10) rfl (fun h3 => ?_) (fun h3 => ?_)
 ·try simp only [vN_T, vN_F, nmE_T, nmE_F, wI_T, wI_F, data_T, data_F, ino_T, ino_F, notT, notF, bneT, bneF, beqT, beqF, decT, decF] at h3
  have hl : l.length = 512 := by omega
  obtain ⟨L, o, c, rfl, hb, hlc, hL⟩ := RdB.some hv (by omega)
  refine At.callP (fun w hw => must_T _ w) Tryz.call62 rfl rfl (tE (tR (tM rfl rfl ?_)))
  refine tV (Val.build (fun a ha => by simp only [List.map_toArray, List.map_cons, List.map_nil, ha.eval (x := (.tmp 12)) rfl] <;> rfl) (bld_113_0 _ _ _ )) rfl (At.alloc Tryz.zeroValue113 rfl rfl (fun b4 => (At.storeAll (i := 0) Tryz.sizeOf113 rfl rfl rfl (by simp [Value.oneCell']) rfl rfl ?_)))
  simp only [sc0, scS]
  refine At.nil ?_
  rw [show ([Value.slice (some ⟨L, o, none⟩) l.length c, Value.int IntKind.i64 0] : List Value) = eyeC L o l.length c 0 from rfl]
  refine At.thenN (tR (At.call1 0 rfl (fun w hw hr => eyeNumber_p _ L o c 0 8 l w hr (hb.mod hw.mod) (hw.newBlk (i := 0) rfl hL) hlc (by omega) (by omega) (by decide)) Tryz.call78 rfl rfl ?_))
  simp only [sc0, scS]
  skip
  ·rw [num_wordA l 0]
   by_cases hs0 : Sl 512 (wordA l 0)
   ·refine At.callP (fun w hw => held_T 512 (wordA l 0) 35 w (ht.mod hw.mod) hs0) Tryz.call73 rfl rfl (tA rfl rfl (At.nil ?_))
    rw [show ((wordA l 0).setWidth 32).toNat = unN l from rfl]
    refine At.thenN (At.seq (tR (tM rfl rfl (tV (Val.bin rfl rfl rfl) rfl (tE ?_)))))
    refine At.cond rfl (fun h5 => ?_) (fun h5 => ?_)
    ·try simp only [vN_T, vN_F, nmE_T, nmE_F, wI_T, wI_F, data_T, data_F, ino_T, ino_F, notT, notF, bneT, bneF, beqT, beqF, decT, decF] at h5
     have h0 : unN l = 0 := by omega
     have hok : OkUn l := ⟨hl, hs0, .inl h0⟩
     refine tR (At.store (i := 2) Tryz.sizeOf40 rfl rfl rfl rfl (by first | decide | simp) ?_)
     simp only [sc0, scS]
     refine At.store (i := 1) Tryz.sizeOf67 rfl rfl rfl rfl (by first | decide | simp) ?_
     simp only [sc0, scS]
     refine tE (At.retC (At.thenR (At.leaveN (.inl rfl) rfl Tryz.call110 (fun w hw => caughtUndos_idle _ _ w) rfl (ResOf.one (i := 2) Tryz.isAgg40 rfl rfl rfl) (ResOf.one (i := 1) Tryz.isAgg67 rfl rfl rfl) (fun w hw => ?_))))
     exact ⟨.slice none 0 0, by rw [openUnE_yes hok], by rw [openUnL_0 hok h0]; exact ((hw.drop (List.nil_sublist _)).f0).nilRow _ _⟩
    ·try simp only [vN_T, vN_F, nmE_T, nmE_F, wI_T, wI_F, data_T, data_F, ino_T, ino_F, notT, notF, bneT, bneF, beqT, beqF, decT, decF] at h5
     have h0 : ¬ unN l = 0 := by omega
     refine At.skipC (At.thenN (tR (tM rfl rfl (tV (Val.bin rfl rfl rfl) rfl ?_))))
     refine At.split (t := 19) rfl (fun h6 => ?_) (fun h6 => ?_)
     ·try simp only [vN_T, vN_F, nmE_T, nmE_F, wI_T, wI_F, data_T, data_F, ino_T, ino_F, notT, notF, bneT, bneF, beqT, beqF, decT, decF] at h6
      have hn8 : unN l ≤ 8 := by omega
      refine At.callP (fun w hw => must_T _ w) Tryz.call62 rfl rfl (tE (tR (At.call1 0 rfl (fun w hw hr => eyeNumber_p _ L o c (0 + 8) 8 l w hr (hb.mod hw.mod) (hw.newBlk (i := 0) rfl hL) hlc (by omega) (by omega) (by decide)) Tryz.call78 rfl rfl ?_)))
      simp only [sc0, scS]
      skip
      ·rw [show (0 : Nat) + 8 = 8 from rfl, num_wordA l 8]
       by_cases hs8 : Sl 520 (wordA l 8)
       ·refine At.callP (fun w hw => held_T 520 (wordA l 8) 35 w (ht.mod hw.mod) hs8) Tryz.call73 rfl rfl (tA rfl rfl (At.nil ?_))
        rw [show ((wordA l 8).setWidth 32).toNat = lo (wordA l 8) from rfl]
        refine At.thenN (tR (tV (Val.field 1 rfl fo_113_1 rfl) rfl ?_))
        refine At.store (i := 0) Tryz.sizeOf3 rfl rfl rfl rfl (by first | (simp; done) | (simp; omega)) ?_
        simp only [sc0, scS]
        refine At.nil ?_
        rw [show ([Value.slice (some ⟨L, o, none⟩) l.length c, Value.int .i64 64] : List Value) = eyeC L o l.length c 64 from rfl]
        refine At.thenN (At.seq ?_)
        have hsl := (sumOn 0 (seg l (unN l))).isLt
        refine At.region (tM rfl rfl (tM rfl rfl ?_))
        first | refine tV (Val.mulI rfl rfl (by omega) (by omega)) rfl ?_ | refine tV (Val.bin rfl rfl rfl) rfl ?_
        first | refine tV (Val.addI rfl rfl (by omega) (by omega)) rfl ?_ | refine tV (Val.bin rfl rfl rfl) rfl ?_
        refine At.cutB (64) (64 + 16 * unN l) hv Tryz.underlying45 Tryz.sizeOf5 rfl ⟨_, _, rfl, by omega, by omega⟩ ⟨_, _, rfl, by omega, by omega⟩ (by omega) (by omega) rfl rfl (fun v7 hv8 => ?_)
        refine At.callP (fun w hw => (by have := sumRd_p v7 _ w (hv8.mod hw.mod) (ht.mod hw.mod) (by simp only [List.length_take, List.length_drop]; omega); rwa [seg_cut] at this)) Tryz.call86 rfl rfl ?_
        first | refine tV (Val.toI Tryz.underlying41 Tryz.underlying3 rfl (by omega) (by omega)) rfl ?_ | refine tV (Val.conv Tryz.underlying41 Tryz.underlying3 rfl) rfl ?_
        refine tM rfl rfl (tV (Val.bin rfl rfl rfl) rfl ?_)
        refine At.split (t := 32) rfl (fun h9 => ?_) (fun h9 => ?_)
        ·try simp only [vN_T, vN_F, nmE_T, nmE_F, wI_T, wI_F, data_T, data_F, ino_T, ino_F, notT, notF, bneT, bneF, beqT, beqF, decT, decF] at h9
         have hseal := seal_of hs8 (show (sumOn 0 (seg l (unN l))).toNat = lo (wordA l 8) by omega)
         refine At.callP (fun w hw => must_T _ w) Tryz.call62 rfl rfl (At.nil (At.rowNilP 62 (At.thenN (At.seq (tR (tM rfl rfl (tM rfl rfl (tE (At.block ?_)))))))))
         skip
         refine At.loop (σ := Nat × Value) (fun s => s.1 ≤ unN l ∧ ∀ j, j < s.1 → num l (64 + 16 * j) 8 < 4294967296) (fun s => [(2, .pointer (some ⟨b1, 0, none⟩)), (3, .pointer (some ⟨b2, 0, none⟩)), (4, .pointer (some ⟨b4, 0, none⟩)), (34, .int .i64 (unN l : Int)), (35, .int .i64 (s.1 : Int))]) (fun s => [prow 62 s.2 (recs l s.1), blk b4 113 (eyeC L o l.length c (64 + 16 * s.1)), blk b2 67 [.int .i64 0], blk b1 40 [s.2]]) (fun s => unN l - s.1) (0, .slice none 0 0) ⟨Nat.zero_le _, fun j h => absurd h (Nat.not_lt_zero _)⟩ (Sub.cons rfl (Sub.cons rfl (Sub.cons rfl (Sub.cons rfl (Sub.cons rfl Sub.nil))))) (List.Perm.refl _) ?_
         intro s hs
         obtain ⟨k, vk⟩ := s
         dsimp only at hs ⊢
         refine tR (tV (Val.bin rfl rfl rfl) rfl (tE (At.seq ?_)))
         refine At.cond rfl (fun h10 => ?_) (fun h10 => ?_)
         ·try simp only [vN_T, vN_F, nmE_T, nmE_F, wI_T, wI_F, data_T, data_F, ino_T, ino_F, notT, notF, bneT, bneF, beqT, beqF, decT, decF] at h10
          have hk : k < unN l := by omega
          refine At.skipC (At.thenN (At.seq (At.block (tR (At.call1 1 rfl (fun w hw hr => eyeNumber_p _ L o c (64 + 16 * k) 8 l w hr (hb.mod hw.mod) (hw.newBlk (i := 1) rfl hL) hlc (by omega) (by omega) (by decide)) Tryz.call78 rfl rfl ?_)))))
          simp only [sc0, scS]
          refine tA rfl rfl (tE (tR (tM rfl rfl (tV (Val.bin rfl rfl rfl) rfl ?_))))
          refine At.split (t := 39) rfl (fun h11 => ?_) (fun h11 => ?_)
          ·try simp only [vN_T, vN_F, nmE_T, nmE_F, wI_T, wI_F, data_T, data_F, ino_T, ino_F, notT, notF, bneT, bneF, beqT, beqF, decT, decF] at h11
           have hlt : num l (64 + 16 * k) 8 < 4294967296 := by omega
           refine At.callP (fun w hw => must_T _ w) Tryz.call62 rfl rfl (tE ?_)
           apply At.any (t := 7)
           · rfl
           refine KAt.pin (fun w hw => hw.drop (List.Sublist.cons _ (List.Sublist.cons _ (List.Sublist.cons _ (List.Sublist.cons_cons _ (List.Sublist.refl _)))))) (KAt.take 0 (Val.load (i := 0) Tryz.isAgg40 rfl rfl rfl) rfl rfl rfl rfl (fun w hw => hw.drop (List.Sublist.cons _ (List.Sublist.cons _ (List.Sublist.cons _ (List.Sublist.cons_cons _ (List.Sublist.refl _)))))) (by decide +kernel) (KAt.take 1 (Val.move rfl) rfl rfl rfl rfl (fun w hw => hw.drop (List.Sublist.cons _ (List.Sublist.cons _ (List.Sublist.cons _ (List.Sublist.cons_cons _ (List.Sublist.refl _)))))) (by decide +kernel) ?_))
           first | refine KAt.take 2 (Val.toI Tryz.underlying34 Tryz.underlying3 rfl (by omega) (by omega)) rfl rfl rfl rfl (fun w hw => hw.drop (List.Sublist.cons _ (List.Sublist.cons _ (List.Sublist.cons _ (List.Sublist.cons_cons _ (List.Sublist.refl _)))))) (by decide +kernel) ?_ | refine KAt.take 2 (Val.conv Tryz.underlying34 Tryz.underlying3 rfl) rfl rfl rfl rfl (fun w hw => hw.drop (List.Sublist.cons _ (List.Sublist.cons _ (List.Sublist.cons _ (List.Sublist.cons_cons _ (List.Sublist.refl _)))))) (by decide +kernel) ?_
           refine KAt.only 3 rfl (by decide +kernel) (At.call1 1 rfl (fun w hw hr => eyeNumber_p _ L o c (64 + 16 * k + 8) 8 l w hr (hb.mod hw.mod) (hw.newBlk (i := 1) rfl hL) hlc (by omega) (by omega) (by decide)) Tryz.call78 rfl rfl ?_)
           simp only [sc0, scS]
           rw [num_wordA l (64 + 16 * k + 8)]
           refine At.nil (KAt.go (fun w hw => hw.drop (List.Sublist.cons _ (List.Sublist.cons _ (List.Sublist.cons _ (List.Sublist.cons_cons _ (List.Sublist.refl _)))))) ?_)
           refine KAt.take 4 (Val.build (fun a ha => by simp only [List.map_toArray, List.map_cons, List.map_nil, ha.eval (x := (.tmp 43)) rfl, ha.eval (x := (.tmp 44)) rfl] <;> rfl) (bld_62_0_1 _ _ )) rfl rfl rfl rfl (fun w hw => hw.drop (List.Sublist.cons _ (List.Sublist.cons _ (List.Sublist.cons _ (List.Sublist.cons_cons _ (List.Sublist.refl _)))))) (by decide +kernel) (KAt.only 5 rfl (by decide +kernel) (At.buildSl (fun a ha => by simp only [List.map_toArray, List.map_cons, List.map_nil, ha.eval (x := (.tmp 45)) rfl]; try rfl) (bs_40_1 _ _ ) rfl (fun b12 => (At.nil (KAt.go (fun w hw => hw.drop (List.Sublist.cons _ (List.Sublist.cons _ (List.Sublist.cons _ (List.Sublist.cons _ (List.Sublist.cons_cons _ (List.Sublist.refl _))))))) (KAt.only 6 rfl (by decide +kernel) ?_))))))
           refine At.appendP1 (i := 1) (j := 0) (by_ := 16) Tryz.underlying40 info_62 rfl rfl rfl rfl rfl rfl rfl rfl (by rw [recs_length]; omega) (by rw [recs_length]; omega) rfl (fun v13 => ?_)
           simp only [sc0, scS]
           refine At.drop 0 ?_
           simp only [ec0, ecS]
           refine At.nil (KAt.go (fun w hw => hw.drop (List.Sublist.cons _ (List.Sublist.cons _ (List.Sublist.cons _ (List.Sublist.cons_cons _ (List.Sublist.refl _)))))) (KAt.only 7 rfl (by decide +kernel) (At.rowOne (i := 0) rfl (fun ho14 => (At.store (i := 3) Tryz.sizeOf40 rfl rfl ho14 rfl (by first | decide | simp) ?_)))))
           simp only [sc0, scS]
           refine At.nil (KAt.goT rfl (KAt.done (by decide +kernel) (At.blkN (At.thenN (At.region ?_)))))
           first | refine tV (Val.addI rfl rfl (by omega) (by omega)) rfl ?_ | refine tV (Val.bin rfl rfl rfl) rfl ?_
           refine tM rfl rfl (tE ?_)
           exact At.again (k + 1, v13) ⟨by dsimp only; omega, fun j hj => by rcases Nat.lt_or_ge j k with h | h; exact hs.2 j h; obtain rfl : k = j := (by dsimp only at hj; omega); assumption⟩ (by dsimp only; omega) (Sub.cons rfl (Sub.cons rfl (Sub.cons rfl (Sub.cons rfl (Sub.cons (congrArg (fun z => some (Value.int IntKind.i64 z)) (by omega)) Sub.nil))))) (by rw [recs_succ, show 64 + 16 * (k + 1) = 64 + 16 * k + 8 + 8 from by omega])
          ·try simp only [vN_T, vN_F, nmE_T, nmE_F, wI_T, wI_F, data_T, data_F, ino_T, ino_F, notT, notF, bneT, bneF, beqT, beqF, decT, decF] at h11
           have hno : ¬ OkUn l := fun h => by have := h.at hk; omega
           refine At.callT0 (fun w hw => must_F _ w) Tryz.call62 rfl (At.thenE (At.blkE (At.thenE (At.thenE (At.blkE (At.thenE (At.leaveP rfl Tryz.call110 ((erase_perm _ 3 _ rfl).trans (List.Perm.cons _ (erase_perm _ 2 _ rfl))) (fun w hw => caughtUndos_pan _ _ _ _ _ w (hw.blk (i := 0) rfl) rfl (hw.blk (i := 1) rfl) hw.ne01) rfl (ResOf.one (i := 0) Tryz.isAgg40 rfl rfl rfl) (ResOf.one (i := 1) Tryz.isAgg67 rfl rfl rfl) (fun w hw => ?_))))))))
           exact ⟨.slice none 0 0, by rw [openUnE_no hno], by rw [openUnL_no hno]; exact ((hw.drop (List.nil_sublist _)).f0).nilRow _ _⟩
         ·try simp only [vN_T, vN_F, nmE_T, nmE_F, wI_T, wI_F, data_T, data_F, ino_T, ino_F, notT, notF, bneT, bneF, beqT, beqF, decT, decF] at h10
          obtain rfl : k = unN l := by omega
          refine At.exitC (At.thenX (At.thenX (At.blkX (At.thenN (tR (tV (Val.load (i := 3) Tryz.isAgg40 rfl rfl rfl) rfl ?_))))))
          refine At.callP (fun w hw => goodUn_p _ (recs l (unN l)) w (row_rd (hw.row (i := 0) rfl) (by decide)) (by rw [recs_length]; omega) (recs_bd hs.2)) Tryz.call84 rfl rfl ?_
          refine At.split (t := 50) rfl (fun h15 => ?_) (fun h15 => ?_)
          ·try simp only [vN_T, vN_F, nmE_T, nmE_F, wI_T, wI_F, data_T, data_F, ino_T, ino_F, notT, notF, bneT, bneF, beqT, beqF, decT, decF] at h15
           have hgun : GoodUn (recs l (unN l)) := by simpa using h15
           have hok : OkUn l := ⟨hl, hs0, .inr ⟨hn8, hseal, hgun⟩⟩
           refine At.callP (fun w hw => must_T _ w) Tryz.call62 rfl rfl (tE (tR (tV (Val.load (i := 3) Tryz.isAgg40 rfl rfl rfl) rfl (At.rowOne (i := 0) rfl (fun ho16 => (At.store (i := 3) Tryz.sizeOf40 rfl rfl ho16 rfl (by first | decide | simp) ?_))))))
           simp only [sc0, scS]
           refine At.store (i := 2) Tryz.sizeOf67 rfl rfl rfl rfl (by first | decide | simp) ?_
           simp only [sc0, scS]
           refine tE (At.retC (At.leaveN (.inl rfl) rfl Tryz.call110 (fun w hw => caughtUndos_idle _ _ w) rfl (ResOf.one (i := 3) Tryz.isAgg40 rfl rfl rfl) (ResOf.one (i := 2) Tryz.isAgg67 rfl rfl rfl) (fun w hw => ?_)))
           exact ⟨vk, by rw [openUnE_yes hok], by rw [openUnL_yes hok]; exact (hw.drop (List.singleton_sublist.2 (List.mem_of_getElem? (i := 0) rfl))).f0⟩
          ·try simp only [vN_T, vN_F, nmE_T, nmE_F, wI_T, wI_F, data_T, data_F, ino_T, ino_F, notT, notF, bneT, bneF, beqT, beqF, decT, decF] at h15
           have hno : ¬ OkUn l := fun h => absurd (h.two h0).2.2 (by simpa using h15)
           refine At.callT0 (fun w hw => must_F _ w) Tryz.call62 rfl (At.thenE (At.leaveP rfl Tryz.call110 ((erase_perm _ 3 _ rfl).trans (List.Perm.cons _ (erase_perm _ 2 _ rfl))) (fun w hw => caughtUndos_pan _ _ _ _ _ w (hw.blk (i := 0) rfl) rfl (hw.blk (i := 1) rfl) hw.ne01) rfl (ResOf.one (i := 0) Tryz.isAgg40 rfl rfl rfl) (ResOf.one (i := 1) Tryz.isAgg67 rfl rfl rfl) (fun w hw => ?_)))
           exact ⟨.slice none 0 0, by rw [openUnE_no hno], by rw [openUnL_no hno]; exact ((hw.drop (List.nil_sublist _)).f0).nilRow _ _⟩
        ·try simp only [vN_T, vN_F, nmE_T, nmE_F, wI_T, wI_F, data_T, data_F, ino_T, ino_F, notT, notF, bneT, bneF, beqT, beqF, decT, decF] at h9
         have hno : ¬ OkUn l := fun h => by have := (seal_lo (h.two h0).2.1).2; omega
         refine At.callT0 (fun w hw => must_F _ w) Tryz.call62 rfl (At.thenE (At.leaveP rfl Tryz.call110 ((erase_perm _ 2 _ rfl).trans (List.Perm.cons _ (erase_perm _ 1 _ rfl))) (fun w hw => caughtUndos_pan _ _ _ _ _ w (hw.blk (i := 0) rfl) rfl (hw.blk (i := 1) rfl) hw.ne01) rfl (ResOf.one (i := 0) Tryz.isAgg40 rfl rfl rfl) (ResOf.one (i := 1) Tryz.isAgg67 rfl rfl rfl) (fun w hw => ?_)))
         exact ⟨.slice none 0 0, by rw [openUnE_no hno], by rw [openUnL_no hno]; exact ((hw.drop (List.nil_sublist _)).f0).nilRow _ _⟩
       ·have hno : ¬ OkUn l := fun h => hs8 (seal_lo (h.two h0).2.1).1
        refine At.callT0 (fun w hw => held_F 520 (wordA l 8) 35 w (ht.mod hw.mod) hs8) Tryz.call73 rfl (At.thenE (At.leaveP rfl Tryz.call110 ((erase_perm _ 2 _ rfl).trans (List.Perm.cons _ (erase_perm _ 1 _ rfl))) (fun w hw => caughtUndos_pan _ _ _ _ _ w (hw.blk (i := 0) rfl) rfl (hw.blk (i := 1) rfl) hw.ne01) rfl (ResOf.one (i := 0) Tryz.isAgg40 rfl rfl rfl) (ResOf.one (i := 1) Tryz.isAgg67 rfl rfl rfl) (fun w hw => ?_)))
        exact ⟨.slice none 0 0, by rw [openUnE_no hno], by rw [openUnL_no hno]; exact ((hw.drop (List.nil_sublist _)).f0).nilRow _ _⟩
     ·try simp only [vN_T, vN_F, nmE_T, nmE_F, wI_T, wI_F, data_T, data_F, ino_T, ino_F, notT, notF, bneT, bneF, beqT, beqF, decT, decF] at h6
      have hno : ¬ OkUn l := fun h => by have := (h.two h0).1; omega
      refine At.callT0 (fun w hw => must_F _ w) Tryz.call62 rfl (At.thenE (At.leaveP rfl Tryz.call110 ((erase_perm _ 2 _ rfl).trans (List.Perm.cons _ (erase_perm _ 1 _ rfl))) (fun w hw => caughtUndos_pan _ _ _ _ _ w (hw.blk (i := 0) rfl) rfl (hw.blk (i := 1) rfl) hw.ne01) rfl (ResOf.one (i := 0) Tryz.isAgg40 rfl rfl rfl) (ResOf.one (i := 1) Tryz.isAgg67 rfl rfl rfl) (fun w hw => ?_)))
      exact ⟨.slice none 0 0, by rw [openUnE_no hno], by rw [openUnL_no hno]; exact ((hw.drop (List.nil_sublist _)).f0).nilRow _ _⟩
   ·have hno : ¬ OkUn l := fun h => hs0 h.2.1
    refine At.callT0 (fun w hw => held_F 512 (wordA l 0) 35 w (ht.mod hw.mod) hs0) Tryz.call73 rfl (At.thenE (At.leaveP rfl Tryz.call110 ((erase_perm _ 2 _ rfl).trans (List.Perm.cons _ (erase_perm _ 1 _ rfl))) (fun w hw => caughtUndos_pan _ _ _ _ _ w (hw.blk (i := 0) rfl) rfl (hw.blk (i := 1) rfl) hw.ne01) rfl (ResOf.one (i := 0) Tryz.isAgg40 rfl rfl rfl) (ResOf.one (i := 1) Tryz.isAgg67 rfl rfl rfl) (fun w hw => ?_)))
    exact ⟨.slice none 0 0, by rw [openUnE_no hno], by rw [openUnL_no hno]; exact ((hw.drop (List.nil_sublist _)).f0).nilRow _ _⟩
 ·try simp only [vN_T, vN_F, nmE_T, nmE_F, wI_T, wI_F, data_T, data_F, ino_T, ino_F, notT, notF, bneT, bneF, beqT, beqF, decT, decF] at h3
  have hno : ¬ OkUn l := fun h => by have := h.1; omega
  refine At.callT0 (fun w hw => must_F _ w) Tryz.call62 rfl (At.thenE (At.leaveP rfl Tryz.call110 ((erase_perm _ 1 _ rfl).trans (List.Perm.cons _ (erase_perm _ 0 _ rfl))) (fun w hw => caughtUndos_pan _ _ _ _ _ w (hw.blk (i := 0) rfl) rfl (hw.blk (i := 1) rfl) hw.ne01) rfl (ResOf.one (i := 0) Tryz.isAgg40 rfl rfl rfl) (ResOf.one (i := 1) Tryz.isAgg67 rfl rfl rfl) (fun w hw => ?_)))
  exact ⟨.slice none 0 0, by rw [openUnE_no hno], by rw [openUnL_no hno]; exact ((hw.drop (List.nil_sublist _)).f0).nilRow _ _⟩
end Go.Proofs.YthdmlpjhcalliaaGreatDoor
namespace Go.Proofs.YthdmlpjhcalliaaGreatDoor
open Go Go.Wk
theorem copyBytes_n (v : Value) (l : List UInt8) (w : World) (hv : RdB w v l) (hlen : l.length ≤ 140737488355328) :
    NewRow Tryz.prog 23 [v] 5 1 l.length (l.map bv) w := by
 refine enter (feet []) [] Tryz.func23 rfl Tryz.ntmps23 rfl ⟨by simp, by simp, by simp, Mod.refl _ _⟩ ?_
 simp only [envOf]
 refine tR (tA rfl rfl (tE (tR (tA rfl rfl (tE (tR (tM rfl rfl (tM rfl rfl (At.rowNilB 5 (At.appendRdB (i := 0) (by_ := 1) Tryz.underlying45 info_5 rfl rfl rfl rfl rfl rfl rfl hv (fun _ _ _ _ _ _ _ h => by simp [feet] at h) (by simp only [List.length_nil]; omega) (by simp only [List.length_nil]; omega) rfl (fun v1 => ?_)))))))))))
 simp only [sc0, scS]
 refine tA rfl rfl (tE (At.retC (At.ret1 (.inl rfl) rfl rfl rfl (fun w hw => ?_))))
 exact ⟨_, rfl, hw⟩
theorem sameBytes_p (v u : Value) (l m : List UInt8) (w : World) (hv : RdB w v l) (hu : RdB w u m) (hl : l.length ≤ 140737488355328) (hm : m.length ≤ 140737488355328) :
    PureC Tryz.prog 26 [v, u] (.bool (decide (l = m))) w := by
 refine enter0 Tryz.func26 rfl Tryz.ntmps26 rfl ?_
 simp only [envOf]
 refine tR (tA rfl rfl (tE (At.seq (tR (tM rfl rfl (tV (Val.lenRd hv Tryz.underlying45 rfl) rfl (tM rfl rfl (tV (Val.lenRd hu Tryz.underlying45 rfl) rfl (tV (Val.bin rfl rfl rfl) rfl (tE ?_))))))))))
 refine At.cond rfl (fun h1 => ?_) (fun h1 => ?_)
 ·try simp only [vN_T, vN_F, nmE_T, nmE_F, wI_T, wI_F, data_T, data_F, ino_T, ino_F, notT, notF, bneT, bneF, beqT, beqF, decT, decF] at h1
  refine tR (tA rfl rfl (tE (At.retC (At.thenR (At.ret1 (.inl rfl) rfl rfl rfl (fun w hw => ?_))))))
  exact ⟨retB (decide_eq_false (fun e => ‹¬ (l.length : Int) = m.length› (by rw [e]))).symm, hw.mod⟩
 ·try simp only [vN_T, vN_F, nmE_T, nmE_F, wI_T, wI_F, data_T, data_F, ino_T, ino_F, notT, notF, bneT, bneF, beqT, beqF, decT, decF] at h1
  have hn : l.length = m.length := by omega
  refine At.skipC (At.thenN (At.seq (tR (tA rfl rfl (tE (At.block ?_))))))
  skip
  refine At.loop (σ := Nat) (fun k => k ≤ l.length ∧ l.take k = m.take k) (fun k => [(0, v), (1, u), (5, .int .i64 (k : Int))]) (fun k => []) (fun k => l.length - k) 0 ⟨Nat.zero_le _, rfl⟩ (Sub.cons rfl (Sub.cons rfl (Sub.cons rfl Sub.nil))) (List.Perm.refl _) ?_
  intro k hs
  refine At.seq (tR (tM rfl rfl (tM rfl rfl (tV (Val.lenRd hv Tryz.underlying45 rfl) rfl (tV (Val.bin rfl rfl rfl) rfl (tE ?_))))))
  refine At.cond rfl (fun h2 => ?_) (fun h2 => ?_)
  ·try simp only [vN_T, vN_F, nmE_T, nmE_F, wI_T, wI_F, data_T, data_F, ino_T, ino_F, notT, notF, bneT, bneF, beqT, beqF, decT, decF] at h2
   refine At.skipC (At.thenN (At.seq (At.block (At.seq (At.quiet rfl (by decide +kernel) (qM rfl rfl (qM rfl rfl (QAt.idxB hv Tryz.underlying45 Tryz.sizeOf5 rfl rfl (by omega) (by omega) rfl rfl (fun b3 o4 q5 hq6 hl7 hc8 => (qV (Val.loadOld Tryz.isAgg5 rfl hc8 (fun h => h)) rfl (qM rfl rfl (qM rfl rfl (QAt.idxB hu Tryz.underlying45 Tryz.sizeOf5 rfl rfl (by omega) (by omega) rfl rfl (fun b9 o10 q11 hq12 hl13 hc14 => (qV (Val.loadOld Tryz.isAgg5 rfl hc14 (fun h => h)) rfl (qV (Val.bin rfl rfl rfl) rfl (QAt.fin (At.thenN ?_))))))))))))))))))
   refine At.cond rfl (fun h15 => ?_) (fun h15 => ?_)
   ·try simp only [vN_T, vN_F, nmE_T, nmE_F, wI_T, wI_F, data_T, data_F, ino_T, ino_F, notT, notF, bneT, bneF, beqT, beqF, decT, decF] at h15
    refine tR (tA rfl rfl (tE (At.retC (At.blkR (At.thenR (At.thenR (At.blkR (At.thenR (At.ret1 (.inl rfl) rfl rfl rfl (fun w hw => ?_))))))))))
    exact ⟨retB (decide_eq_false (fun e => by subst e; simp_all)).symm, hw.mod⟩
   ·try simp only [vN_T, vN_F, nmE_T, nmE_F, wI_T, wI_F, data_T, data_F, ino_T, ino_F, notT, notF, bneT, bneF, beqT, beqF, decT, decF] at h15
    refine At.skipC (At.blkN (At.thenN (At.region (tM rfl rfl ?_))))
    first | refine tV (Val.addI rfl rfl (by omega) (by omega)) rfl ?_ | refine tV (Val.bin rfl rfl rfl) rfl ?_
    refine tA rfl rfl (tE ?_)
    exact At.again (k + 1) ⟨by omega, by rw [List.take_add_one, List.take_add_one, hs.2, show l[k]? = m[k]? from by simp only [Int.toNat_natCast] at *; simp_all; exact UInt8.toNat_inj.1 (by omega)]⟩ (by omega) (Sub.cons rfl (Sub.cons rfl (Sub.cons (congrArg (fun z => some (Value.int IntKind.i64 z)) (by omega)) Sub.nil))) (List.Perm.refl _)
  ·try simp only [vN_T, vN_F, nmE_T, nmE_F, wI_T, wI_F, data_T, data_F, ino_T, ino_F, notT, notF, bneT, bneF, beqT, beqF, decT, decF] at h2
   refine At.exitC (At.thenX (At.thenX (At.blkX (At.thenN (tR (tA rfl rfl (tE (At.retC (At.ret1 (.inl rfl) rfl rfl rfl (fun w hw => ?_))))))))))
   exact ⟨retB (decide_eq_true (by have h1 := hs.2; rw [List.take_of_length_le (by omega), List.take_of_length_le (by omega)] at h1; exact h1)).symm, hw.mod⟩
end Go.Proofs.YthdmlpjhcalliaaGreatDoor
namespace Go.Proofs.YthdmlpjhcalliaaGreatDoor
open Go Go.Wk
theorem openUnR_n (v : Value) (l : List UInt8) (w : World) (hv : RdB w v l) (hlen : l.length ≤ 140737488355328) :
    NewRowT Tryz.prog 94 [v] (fun v => .tuple #[v, .int .i64 (openUnE l)]) 62 2 (openUnL l).length (prC (openUnL l)) w := by
 refine enter0 Tryz.func94 rfl Tryz.ntmps94 rfl ?_
 simp only [envOf]
 refine tR (tA rfl rfl (tA rfl rfl (tE (At.seq (tR (tM rfl rfl (tV (Val.lenRd hv Tryz.underlying45 rfl) rfl (tV (Val.bin rfl rfl rfl) rfl (tE ?_)))))))))
 refine At.cond rfl (fun h1 => ?_) (fun h1 => ?_)
 ·try simp only [vN_T, vN_F, nmE_T, nmE_F, wI_T, wI_F, data_T, data_F, ino_T, ino_F, notT, notF, bneT, bneF, beqT, beqF, decT, decF] at h1
  have hno : ¬ OkUn l := fun h => by have := h.1; omega
  refine tR (tA rfl rfl (tA rfl rfl (tE (At.retC (At.thenR (At.ret2 (.inl rfl) rfl rfl rfl rfl (fun w hw => ?_)))))))
  exact ⟨.slice none 0 0, by rw [openUnE_no hno], by rw [openUnL_no hno]; exact ((hw.drop (List.nil_sublist _)).f0).nilRow _ _⟩
 ·try simp only [vN_T, vN_F, nmE_T, nmE_F, wI_T, wI_F, data_T, data_F, ino_T, ino_F, notT, notF, bneT, bneF, beqT, beqF, decT, decF] at h1
  have hl : l.length = 512 := by omega
  refine At.skipC (At.thenN (tR (tM rfl rfl (At.callP (fun w hw => wordS_p v l (0) w (hv.mod hw.mod) hlen (by omega)) Tryz.call111 rfl rfl ?_))))
  skip
  ·rw [num_wordA l 0]
   refine tM rfl rfl (tV (Val.extract rfl rfl) rfl (tV (Val.extract rfl rfl) rfl (tA rfl rfl (tA rfl rfl (tE (tR (tM rfl rfl ?_)))))))
   by_cases hs0 : Sl 512 (wordA l 0)
   ·refine At.callP (fun w hw => (by have := unsealR_p 512 (wordA l 0) w; rwa [unseal_yes hs0] at this)) Tryz.call74 rfl rfl (tM rfl rfl (tV (Val.extract rfl rfl) rfl (tV (Val.extract rfl rfl) rfl (tA rfl rfl (tA rfl rfl (At.nil ?_))))))
    rw [show b32 ((wordA l 0).setWidth 32) = Value.int .u32 ((unN l : Nat) : Int) from rfl]
    refine At.thenN (At.seq (tR (tM rfl rfl (tV (Val.bin rfl rfl rfl) rfl (tM rfl rfl (At.yes rfl rfl (tM rfl rfl (At.yes rfl rfl (tV (Val.bin rfl rfl rfl) rfl (tV (Val.pickF rfl rfl) rfl (tE ?_)))))))))))
    refine At.cond rfl (fun h2 => ?_) (fun h2 => ?_)
    ·try simp only [vN_T, vN_F, nmE_T, nmE_F, wI_T, wI_F, data_T, data_F, ino_T, ino_F, notT, notF, bneT, bneF, beqT, beqF, decT, decF] at h2
     have hno : ¬ OkUn l := fun h => by have := (h.two (by omega)).1; omega
     refine tR (tA rfl rfl (tA rfl rfl (tE (At.retC (At.thenR (At.ret2 (.inl rfl) rfl rfl rfl rfl (fun w hw => ?_)))))))
     exact ⟨.slice none 0 0, by rw [openUnE_no hno], by rw [openUnL_no hno]; exact ((hw.drop (List.nil_sublist _)).f0).nilRow _ _⟩
    ·try simp only [vN_T, vN_F, nmE_T, nmE_F, wI_T, wI_F, data_T, data_F, ino_T, ino_F, notT, notF, bneT, bneF, beqT, beqF, decT, decF] at h2
     have hn8 : unN l ≤ 8 := by omega
     refine At.skipC (At.thenN (tR (tA rfl rfl (At.nil (At.rowNilP 62 (At.thenN (At.seq (tR (tA rfl rfl (tE (At.block ?_)))))))))))
     skip
     refine At.loop (σ := Nat × Value) (fun s => s.1 ≤ unN l) (fun s => [(0, v), (6, .int .u32 (unN l : Int)), (8, s.2), (9, .int .i64 (s.1 : Int))]) (fun s => [prow 62 s.2 (recs l s.1)]) (fun s => unN l - s.1) (0, .slice none 0 0) (Nat.zero_le _) (Sub.cons rfl (Sub.cons rfl (Sub.cons rfl (Sub.cons rfl Sub.nil)))) (List.Perm.refl _) ?_
     intro s hs
     obtain ⟨k, vk⟩ := s
     dsimp only at hs ⊢
     refine At.seq (tR (tM rfl rfl (tM rfl rfl ?_)))
     first | refine tV (Val.toI Tryz.underlying41 Tryz.underlying3 rfl (by omega) (by omega)) rfl ?_ | refine tV (Val.conv Tryz.underlying41 Tryz.underlying3 rfl) rfl ?_
     refine tV (Val.bin rfl rfl rfl) rfl (tE ?_)
     refine At.cond rfl (fun h3 => ?_) (fun h3 => ?_)
     ·try simp only [vN_T, vN_F, nmE_T, nmE_F, wI_T, wI_F, data_T, data_F, ino_T, ino_F, notT, notF, bneT, bneF, beqT, beqF, decT, decF] at h3
      have hk : k < unN l := by omega
      refine At.skipC (At.thenN (At.seq (At.block (tR (tM rfl rfl (tM rfl rfl ?_))))))
      first | refine tV (Val.mulI rfl rfl (by omega) (by omega)) rfl ?_ | refine tV (Val.bin rfl rfl rfl) rfl ?_
      refine tV (Val.addI rfl rfl (by omega) (by omega)) rfl ?_
      rw [show (64 : Int) + 16 * (k : Int) = ((64 + 16 * k : Nat) : Int) from by omega]
      refine At.callP (fun w hw => wordS_p v l (64 + 16 * k) w (hv.mod hw.mod) hlen (by omega)) Tryz.call111 rfl rfl (tM rfl rfl (tV (Val.extract rfl rfl) rfl (tV (Val.extract rfl rfl) rfl (tA rfl rfl (tA rfl rfl (tE (tR (tM rfl rfl (tM rfl rfl ?_)))))))))
      first | refine tV (Val.mulI rfl rfl (by omega) (by omega)) rfl ?_ | refine tV (Val.bin rfl rfl rfl) rfl ?_
      refine tV (Val.addI rfl rfl (by omega) (by omega)) rfl ?_
      rw [show (72 : Int) + 16 * (k : Int) = ((64 + 16 * k + 8 : Nat) : Int) from by omega]
      refine At.callP (fun w hw => wordS_p v l (64 + 16 * k + 8) w (hv.mod hw.mod) hlen (by omega)) Tryz.call111 rfl rfl ?_
      skip
      ·rw [num_wordA l (64 + 16 * k + 8)]
       refine tM rfl rfl (tV (Val.extract rfl rfl) rfl (tV (Val.extract rfl rfl) rfl (tA rfl rfl (tA rfl rfl (tE (At.seq (tR (tM rfl rfl (tV (Val.bin rfl rfl rfl) rfl (tE ?_))))))))))
       refine At.cond rfl (fun h4 => ?_) (fun h4 => ?_)
       ·try simp only [vN_T, vN_F, nmE_T, nmE_F, wI_T, wI_F, data_T, data_F, ino_T, ino_F, notT, notF, bneT, bneF, beqT, beqF, decT, decF] at h4
        have hno : ¬ OkUn l := fun h => by have := h.at hk; omega
        refine tR (tA rfl rfl (tA rfl rfl (tE (At.retC (At.thenR (At.blkR (At.thenR (At.thenR (At.blkR (At.thenR (At.ret2 (.inl rfl) rfl rfl rfl rfl (fun w hw => ?_))))))))))))
        exact ⟨.slice none 0 0, by rw [openUnE_no hno], by rw [openUnL_no hno]; exact ((hw.drop (List.nil_sublist _)).f0).nilRow _ _⟩
       ·try simp only [vN_T, vN_F, nmE_T, nmE_F, wI_T, wI_F, data_T, data_F, ino_T, ino_F, notT, notF, bneT, bneF, beqT, beqF, decT, decF] at h4
        refine At.skipC (At.thenN (At.region (tM rfl rfl (tM rfl rfl ?_))))
        first | refine tV (Val.toI Tryz.underlying34 Tryz.underlying3 rfl (by omega) (by omega)) rfl ?_ | refine tV (Val.conv Tryz.underlying34 Tryz.underlying3 rfl) rfl ?_
        refine tM rfl rfl ?_
        refine tV (Val.build (fun a ha => by simp only [List.map_toArray, List.map_cons, List.map_nil, ha.eval (x := (.tmp 62)) rfl, ha.eval (x := (.tmp 63)) rfl] <;> rfl) (bld_62_0_1 _ _ )) rfl (At.buildSl (fun a ha => by simp only [List.map_toArray, List.map_cons, List.map_nil, ha.eval (x := (.tmp 64)) rfl]; try rfl) (bs_40_1 _ _ ) rfl (fun b5 => ?_))
        refine At.appendP1 (i := 1) (j := 0) (by_ := 16) Tryz.underlying40 info_62 rfl rfl rfl rfl rfl rfl rfl rfl (by rw [recs_length]; omega) (by rw [recs_length]; omega) rfl (fun v6 => ?_)
        simp only [sc0, scS]
        refine At.drop 0 ?_
        simp only [ec0, ecS]
        refine tA rfl rfl (At.nil (At.blkN (At.thenN (At.region (tM rfl rfl ?_)))))
        first | refine tV (Val.addI rfl rfl (by omega) (by omega)) rfl ?_ | refine tV (Val.bin rfl rfl rfl) rfl ?_
        refine tA rfl rfl (tE ?_)
        exact At.again (k + 1, v6) (show k + 1 ≤ _ by omega) (by dsimp only; omega) (Sub.cons rfl (Sub.cons rfl (Sub.cons rfl (Sub.cons (congrArg (fun z => some (Value.int IntKind.i64 z)) (by omega)) Sub.nil)))) (by rw [recs_succ])
     ·try simp only [vN_T, vN_F, nmE_T, nmE_F, wI_T, wI_F, data_T, data_F, ino_T, ino_F, notT, notF, bneT, bneF, beqT, beqF, decT, decF] at h3
      obtain rfl : k = unN l := by omega
      refine At.exitC (At.thenX (At.thenX (At.blkX (At.thenN (At.seq (tR (tM rfl rfl (tV (Val.bin rfl rfl rfl) rfl (tE ?_)))))))))
      refine At.cond rfl (fun h7 => ?_) (fun h7 => ?_)
      ·try simp only [vN_T, vN_F, nmE_T, nmE_F, wI_T, wI_F, data_T, data_F, ino_T, ino_F, notT, notF, bneT, bneF, beqT, beqF, decT, decF] at h7
       have h0 : unN l = 0 := by omega
       have hok : OkUn l := ⟨hl, hs0, .inl h0⟩
       refine tR (tA rfl rfl (tA rfl rfl (tE (At.retC (At.thenR (At.ret2 (.inl rfl) rfl rfl rfl rfl (fun w hw => ?_)))))))
       exact ⟨.slice none 0 0, by rw [openUnE_yes hok], by rw [openUnL_0 hok h0]; exact ((hw.drop (List.nil_sublist _)).f0).nilRow _ _⟩
      ·try simp only [vN_T, vN_F, nmE_T, nmE_F, wI_T, wI_F, data_T, data_F, ino_T, ino_F, notT, notF, bneT, bneF, beqT, beqF, decT, decF] at h7
       have h0 : ¬ unN l = 0 := by omega
       refine At.skipC (At.thenN (tR (tM rfl rfl ?_)))
       refine At.callNT (g := (fun v => .tuple #[v, .int .i64 (packE (recs l (unN l)))])) (fun w hw => packUnR_n _ (recs l (unN l)) w (row_rd (hw.row (i := 0) rfl) (by decide)) (by rw [recs_length]; omega)) Tryz.call43 rfl rfl (fun v8 => ?_)
       by_cases hg : GoodUn (recs l (unN l))
       ·rw [packE_T hg]
        have hpl : (packB (recs l (unN l))).length = 64 + 16 * unN l := by rw [packB_T hg, undoB_length, recs_length]
        refine tM rfl rfl (tV (Val.extract rfl rfl) rfl (tV (Val.extract rfl rfl) rfl (tA rfl rfl (tA rfl rfl (tE (At.seq (tR (tM rfl rfl (tV (Val.bin rfl rfl rfl) rfl (tE (At.condF rfl (At.skipC (At.thenN (At.seq (tR (tA rfl rfl (tE (At.block ?_))))))))))))))))))
        skip
        refine At.loop (σ := Nat) (fun k => k ≤ 64 + 16 * unN l ∧ ∀ i, i < k → (i < 16 ∨ 64 ≤ i) → (packB (recs l (unN l)))[i]? = l[i]?) (fun k => [(0, v), (8, vk), (14, v8), (16, .int .i64 (k : Int))]) (fun k => [rowR v8 5 1 ((packB (recs l (unN l))).length) ((packB (recs l (unN l))).map bv), rowR vk 62 2 (((recs l (unN l))).length) (prC ((recs l (unN l))))]) (fun k => 64 + 16 * unN l - k) 0 ⟨Nat.zero_le _, fun i h => absurd h (Nat.not_lt_zero _)⟩ (Sub.cons rfl (Sub.cons rfl (Sub.cons rfl (Sub.cons rfl Sub.nil)))) (List.Perm.refl _) ?_
        intro k hs
        refine At.seq (tR (tM rfl rfl (tM rfl rfl (tV (Val.lenRow (i := 0) Tryz.underlying45 rfl rfl) rfl (tV (Val.bin rfl rfl rfl) rfl (tE ?_))))))
        refine At.cond rfl (fun h9 => ?_) (fun h9 => ?_)
        ·try simp only [vN_T, vN_F, nmE_T, nmE_F, wI_T, wI_F, data_T, data_F, ino_T, ino_F, notT, notF, bneT, bneF, beqT, beqF, decT, decF] at h9
         have hk : k < 64 + 16 * unN l := by omega
         refine At.skipC (At.thenN (At.seq (At.block (At.seq (At.quiet rfl (by decide +kernel) (qM rfl rfl (qV (Val.bin rfl rfl rfl) rfl (qM rfl rfl ?_))))))))
         refine QAt.split (t := 84) rfl (fun h10 => ?_) (fun h10 => ?_)
         ·try simp only [vN_T, vN_F, nmE_T, nmE_F, wI_T, wI_F, data_T, data_F, ino_T, ino_F, notT, notF, bneT, bneF, beqT, beqF, decT, decF] at h10
          refine QAt.no rfl rfl rfl rfl (QAt.no rfl rfl rfl rfl (qV (Val.pickT rfl rfl) rfl (qM rfl rfl (QAt.yes rfl rfl (qM rfl rfl (QAt.yes rfl rfl (qM rfl rfl (QAt.yes rfl rfl (QAt.idxRowB (i := 0) rfl Tryz.underlying45 Tryz.sizeOf5 rfl rfl (by omega) (by omega) rfl rfl (fun q11 hq12 hl13 => (QAt.yes rfl rfl (qV (Val.loadRowB (i := 0) Tryz.isAgg5 rfl rfl hq12) rfl (QAt.yes rfl rfl (qM rfl rfl (QAt.yes rfl rfl (qM rfl rfl (QAt.yes rfl rfl (QAt.idxB hv Tryz.underlying45 Tryz.sizeOf5 rfl rfl (by omega) (by omega) rfl rfl (fun b14 o15 q16 hq17 hl18 hc19 => (QAt.yes rfl rfl (qV (Val.loadOld Tryz.isAgg5 rfl hc19 (fun h => h)) rfl (QAt.yes rfl rfl (qV (Val.bin rfl rfl rfl) rfl (qV (Val.pickT rfl rfl) rfl (QAt.fin (At.thenN ?_))))))))))))))))))))))))))
          refine At.cond rfl (fun h20 => ?_) (fun h20 => ?_)
          ·try simp only [vN_T, vN_F, nmE_T, nmE_F, wI_T, wI_F, data_T, data_F, ino_T, ino_F, notT, notF, bneT, bneF, beqT, beqF, decT, decF] at h20
           refine tR (tA rfl rfl (tA rfl rfl (tE (At.retC (At.blkR (At.thenR (At.thenR (At.blkR (At.thenR (At.ret2 (.inl rfl) rfl rfl rfl rfl (fun w hw => ?_)))))))))))
           have hno : ¬ OkUn l := fun h => cmp_ne hq12 hq17 (by assumption) (pack_same h h0 (by omega) (by omega))
           exact ⟨.slice none 0 0, by rw [openUnE_no hno], by rw [openUnL_no hno]; exact ((hw.drop (List.nil_sublist _)).f0).nilRow _ _⟩
          ·try simp only [vN_T, vN_F, nmE_T, nmE_F, wI_T, wI_F, data_T, data_F, ino_T, ino_F, notT, notF, bneT, bneF, beqT, beqF, decT, decF] at h20
           refine At.skipC (At.blkN (At.thenN (At.region (tM rfl rfl ?_))))
           first | refine tV (Val.addI rfl rfl (by omega) (by omega)) rfl ?_ | refine tV (Val.bin rfl rfl rfl) rfl ?_
           refine tA rfl rfl (tE ?_)
           exact At.again (k + 1) ⟨by omega, fun i hi hc => by rcases Nat.lt_or_ge i k with h' | h'; exact hs.2 i h' hc; obtain rfl : k = i := (by omega); exact cmp_eq hq12 hq17 (by omega)⟩ (by omega) (Sub.cons rfl (Sub.cons rfl (Sub.cons rfl (Sub.cons (congrArg (fun z => some (Value.int IntKind.i64 z)) (by omega)) Sub.nil)))) (List.Perm.refl _)
         ·try simp only [vN_T, vN_F, nmE_T, nmE_F, wI_T, wI_F, data_T, data_F, ino_T, ino_F, notT, notF, bneT, bneF, beqT, beqF, decT, decF] at h10
          refine QAt.yes rfl rfl (qM rfl rfl (QAt.yes rfl rfl (qV (Val.bin rfl rfl rfl) rfl (qV (Val.pickF rfl rfl) rfl (qM rfl rfl ?_)))))
          refine QAt.split (t := 88) rfl (fun h21 => ?_) (fun h21 => ?_)
          ·try simp only [vN_T, vN_F, nmE_T, nmE_F, wI_T, wI_F, data_T, data_F, ino_T, ino_F, notT, notF, bneT, bneF, beqT, beqF, decT, decF] at h21
           refine QAt.yes rfl rfl (qM rfl rfl (QAt.yes rfl rfl (qM rfl rfl (QAt.yes rfl rfl (QAt.idxRowB (i := 0) rfl Tryz.underlying45 Tryz.sizeOf5 rfl rfl (by omega) (by omega) rfl rfl (fun q22 hq23 hl24 => (QAt.yes rfl rfl (qV (Val.loadRowB (i := 0) Tryz.isAgg5 rfl rfl hq23) rfl (QAt.yes rfl rfl (qM rfl rfl (QAt.yes rfl rfl (qM rfl rfl (QAt.yes rfl rfl (QAt.idxB hv Tryz.underlying45 Tryz.sizeOf5 rfl rfl (by omega) (by omega) rfl rfl (fun b25 o26 q27 hq28 hl29 hc30 => (QAt.yes rfl rfl (qV (Val.loadOld Tryz.isAgg5 rfl hc30 (fun h => h)) rfl (QAt.yes rfl rfl (qV (Val.bin rfl rfl rfl) rfl (qV (Val.pickT rfl rfl) rfl (QAt.fin (At.thenN ?_))))))))))))))))))))))
           refine At.cond rfl (fun h31 => ?_) (fun h31 => ?_)
           ·try simp only [vN_T, vN_F, nmE_T, nmE_F, wI_T, wI_F, data_T, data_F, ino_T, ino_F, notT, notF, bneT, bneF, beqT, beqF, decT, decF] at h31
            refine tR (tA rfl rfl (tA rfl rfl (tE (At.retC (At.blkR (At.thenR (At.thenR (At.blkR (At.thenR (At.ret2 (.inl rfl) rfl rfl rfl rfl (fun w hw => ?_)))))))))))
            have hno : ¬ OkUn l := fun h => cmp_ne hq23 hq28 (by assumption) (pack_same h h0 (by omega) (by omega))
            exact ⟨.slice none 0 0, by rw [openUnE_no hno], by rw [openUnL_no hno]; exact ((hw.drop (List.nil_sublist _)).f0).nilRow _ _⟩
           ·try simp only [vN_T, vN_F, nmE_T, nmE_F, wI_T, wI_F, data_T, data_F, ino_T, ino_F, notT, notF, bneT, bneF, beqT, beqF, decT, decF] at h31
            refine At.skipC (At.blkN (At.thenN (At.region (tM rfl rfl ?_))))
            first | refine tV (Val.addI rfl rfl (by omega) (by omega)) rfl ?_ | refine tV (Val.bin rfl rfl rfl) rfl ?_
            refine tA rfl rfl (tE ?_)
            exact At.again (k + 1) ⟨by omega, fun i hi hc => by rcases Nat.lt_or_ge i k with h' | h'; exact hs.2 i h' hc; obtain rfl : k = i := (by omega); exact cmp_eq hq23 hq28 (by omega)⟩ (by omega) (Sub.cons rfl (Sub.cons rfl (Sub.cons rfl (Sub.cons (congrArg (fun z => some (Value.int IntKind.i64 z)) (by omega)) Sub.nil)))) (List.Perm.refl _)
          ·try simp only [vN_T, vN_F, nmE_T, nmE_F, wI_T, wI_F, data_T, data_F, ino_T, ino_F, notT, notF, bneT, bneF, beqT, beqF, decT, decF] at h21
           refine QAt.no rfl rfl rfl rfl (QAt.no rfl rfl rfl rfl (QAt.no rfl rfl rfl rfl (QAt.no rfl rfl rfl rfl (QAt.no rfl rfl rfl rfl (QAt.no rfl rfl rfl rfl (QAt.no rfl rfl rfl rfl (QAt.no rfl rfl rfl rfl (QAt.no rfl rfl rfl rfl (qV (Val.pickF rfl rfl) rfl (QAt.fin (At.thenN (At.condF rfl (At.skipC (At.blkN (At.thenN (At.region (tM rfl rfl ?_)))))))))))))))))
           first | refine tV (Val.addI rfl rfl (by omega) (by omega)) rfl ?_ | refine tV (Val.bin rfl rfl rfl) rfl ?_
           refine tA rfl rfl (tE ?_)
           exact At.again (k + 1) ⟨by omega, fun i hi hc => by rcases Nat.lt_or_ge i k with h' | h'; exact hs.2 i h' hc; obtain rfl : k = i := (by omega); omega⟩ (by omega) (Sub.cons rfl (Sub.cons rfl (Sub.cons rfl (Sub.cons (congrArg (fun z => some (Value.int IntKind.i64 z)) (by omega)) Sub.nil)))) (List.Perm.refl _)
        ·try simp only [vN_T, vN_F, nmE_T, nmE_F, wI_T, wI_F, data_T, data_F, ino_T, ino_F, notT, notF, bneT, bneF, beqT, beqF, decT, decF] at h9
         obtain rfl : k = 64 + 16 * unN l := by omega
         refine At.exitC (At.thenX (At.thenX (At.blkX (At.thenN (tR (tM rfl rfl (tA rfl rfl (tA rfl rfl (tE (At.retC (At.ret2 (.inl rfl) rfl rfl rfl rfl (fun w hw => ?_))))))))))))
         have hok : OkUn l := ⟨hl, hs0, .inr ⟨hn8, pack_seal hl hs0 hn8 hg hs.2, hg⟩⟩
         exact ⟨vk, by rw [openUnE_yes hok], by rw [openUnL_yes hok]; exact (hw.drop (List.singleton_sublist.2 (List.mem_of_getElem? (i := 1) rfl))).f0⟩
       ·rw [packE_F hg]
        have hno : ¬ OkUn l := fun h => hg (h.two h0).2.2
        refine tM rfl rfl (tV (Val.extract rfl rfl) rfl (tV (Val.extract rfl rfl) rfl (tA rfl rfl (tA rfl rfl (tE (At.seq (tR (tM rfl rfl (tV (Val.bin rfl rfl rfl) rfl (tE (At.condT rfl (tR (tA rfl rfl (tA rfl rfl (tE (At.retC (At.thenR (At.ret2 (.inl rfl) rfl rfl rfl rfl (fun w hw => ?_)))))))))))))))))))
        exact ⟨.slice none 0 0, by rw [openUnE_no hno], by rw [openUnL_no hno]; exact ((hw.drop (List.nil_sublist _)).f0).nilRow _ _⟩
   ·have hno : ¬ OkUn l := fun h => hs0 h.2.1
    refine At.callP (fun w hw => (by have := unsealR_p 512 (wordA l 0) w; rwa [unseal_no hs0] at this)) Tryz.call74 rfl rfl (tM rfl rfl (tV (Val.extract rfl rfl) rfl (tV (Val.extract rfl rfl) rfl (tA rfl rfl (tA rfl rfl (tE (At.seq (tR (tM rfl rfl (tV (Val.bin rfl rfl rfl) rfl (tM rfl rfl (At.no rfl rfl rfl rfl (At.no rfl rfl rfl rfl (tV (Val.pickT rfl rfl) rfl (tE (At.condT rfl (tR (tA rfl rfl (tA rfl rfl (tE (At.retC (At.thenR (At.ret2 (.inl rfl) rfl rfl rfl rfl (fun w hw => ?_))))))))))))))))))))))))
    exact ⟨.slice none 0 0, by rw [openUnE_no hno], by rw [openUnL_no hno]; exact ((hw.drop (List.nil_sublist _)).f0).nilRow _ _⟩
theorem copyUn_n (v : Value) (L : List (Int × BitVec 64)) (w : World) (hv : RdP w v L) (hlen : L.length ≤ 8796093022144) :
    NewRow Tryz.prog 41 [v] 62 2 L.length (prC L) w := by
 refine enter (feet []) [] Tryz.func41 rfl Tryz.ntmps41 rfl ⟨by simp, by simp, by simp, Mod.refl _ _⟩ ?_
 simp only [envOf]
 refine tR (tA rfl rfl (tE (tR (tA rfl rfl (tE (tR (tM rfl rfl (tM rfl rfl (At.rowNilP 62 (At.appendRdP (i := 0) (by_ := 16) Tryz.underlying40 info_62 rfl rfl rfl rfl rfl rfl rfl hv (fun _ _ _ _ _ _ _ h => by simp [feet] at h) (by simp only [List.length_nil]; omega) (by simp only [List.length_nil]; omega) rfl (fun v1 => ?_)))))))))))
 simp only [sc0, scS]
 refine tA rfl rfl (tE (At.retC (At.ret1 (.inl rfl) rfl rfl rfl (fun w hw => ?_))))
 exact ⟨_, rfl, hw⟩
theorem sameUn_p (v u : Value) (L : List (Int × BitVec 64)) (w : World) (hv : RdP w v L) (hu : RdP w u L) (hlen : L.length ≤ 8796093022144) :
    PureC Tryz.prog 44 [v, u] (.bool true) w := by
 refine enter0 Tryz.func44 rfl Tryz.ntmps44 rfl ?_
 simp only [envOf]
 refine tR (tA rfl rfl (tE (At.seq (tR (tM rfl rfl (tV (Val.lenRd hv Tryz.underlying40 rfl) rfl (tM rfl rfl (tV (Val.lenRd hu Tryz.underlying40 rfl) rfl (tV (Val.bin rfl rfl rfl) rfl (tE ?_))))))))))
 refine At.cond rfl (fun h1 => ?_) (fun h1 => ?_)
 ·try simp only [vN_T, vN_F, nmE_T, nmE_F, wI_T, wI_F, data_T, data_F, ino_T, ino_F, notT, notF, bneT, bneF, beqT, beqF, decT, decF] at h1
  exact absurd rfl h1
 ·try simp only [vN_T, vN_F, nmE_T, nmE_F, wI_T, wI_F, data_T, data_F, ino_T, ino_F, notT, notF, bneT, bneF, beqT, beqF, decT, decF] at h1
  refine At.skipC (At.thenN (At.seq (tR (tA rfl rfl (tE (At.block ?_))))))
  skip
  refine At.loop (σ := Nat) (fun k => k ≤ L.length) (fun k => [(0, v), (1, u), (5, .int .i64 (k : Int))]) (fun k => []) (fun k => L.length - k) 0 (Nat.zero_le _) (Sub.cons rfl (Sub.cons rfl (Sub.cons rfl Sub.nil))) (List.Perm.refl _) ?_
  intro k hs
  refine At.seq (tR (tM rfl rfl (tM rfl rfl (tV (Val.lenRd hv Tryz.underlying40 rfl) rfl (tV (Val.bin rfl rfl rfl) rfl (tE ?_))))))
  refine At.cond rfl (fun h2 => ?_) (fun h2 => ?_)
  ·try simp only [vN_T, vN_F, nmE_T, nmE_F, wI_T, wI_F, data_T, data_F, ino_T, ino_F, notT, notF, bneT, bneF, beqT, beqF, decT, decF] at h2
   have hk : k < L.length := by omega
   refine At.skipC (At.thenN (At.seq (At.block (At.seq (At.quiet rfl (by decide +kernel) (qM rfl rfl (qM rfl rfl (QAt.idxP hv Tryz.underlying40 Tryz.sizeOf62 rfl rfl (by omega) (by omega) rfl rfl (fun b3 o4 q5 hq6 hc7 hd8 => (qV (Val.loadPair Tryz.isAgg62 Tryz.sizeOf62 rfl hc7 hd8 (fun h => h)) rfl (qM rfl rfl (qM rfl rfl (QAt.idxP hu Tryz.underlying40 Tryz.sizeOf62 rfl rfl (by omega) (by omega) rfl rfl (fun b9 o10 q11 hq12 hc13 hd14 => (qV (Val.loadPair Tryz.isAgg62 Tryz.sizeOf62 rfl hc13 hd14 (fun h => h)) rfl (qV (Val.neAgg Tryz.eqGuardType62 (fun w => eq_62 _ _ _ _ w) rfl rfl) rfl ?_))))))))))))))))
   rw [show q11 = q5 from by have h1 := hq6; have h2 := hq12; rw [h1] at h2; exact (Option.some.inj h2).symm]
   simp only [beq_self_eq_true, Bool.and_true, Bool.not_true]
   refine QAt.fin (At.thenN (At.condF rfl (At.skipC (At.blkN (At.thenN (At.region (tM rfl rfl ?_)))))))
   first | refine tV (Val.addI rfl rfl (by omega) (by omega)) rfl ?_ | refine tV (Val.bin rfl rfl rfl) rfl ?_
   refine tA rfl rfl (tE ?_)
   exact At.again (k + 1) (by omega) (by omega) (Sub.cons rfl (Sub.cons rfl (Sub.cons (congrArg (fun z => some (Value.int IntKind.i64 z)) (by omega)) Sub.nil))) (List.Perm.refl _)
  ·try simp only [vN_T, vN_F, nmE_T, nmE_F, wI_T, wI_F, data_T, data_F, ino_T, ino_F, notT, notF, bneT, bneF, beqT, beqF, decT, decF] at h2
   obtain rfl : k = L.length := by omega
   refine At.exitC (At.thenX (At.thenX (At.blkX (At.thenN (tR (tA rfl rfl (tE (At.retC (At.ret1 (.inl rfl) rfl rfl rfl (fun w hw => ?_))))))))))
   exact ⟨rfl, hw.mod⟩
end Go.Proofs.YthdmlpjhcalliaaGreatDoor
