/- The document's codec: the sum, numbers laid down. -/
import Derived.Test.YtoiebgnmknbkjaaDoorFa
import Derived.Test.YtoiebgnmknbkjaaDoorWa
set_option linter.unusedVariables false
set_option linter.unusedSimpArgs false
namespace Go.Proofs.YtoiebgnmknbkjaaDoor
open Go Go.Wk

theorem and1 (x : BitVec 32) : ib .and .u32 (x.toNat : Int) 1 = ((x &&& 1).toNat : Int) := and32 x 1
theorem xorp (x : BitVec 32) : ib .xor .u32 (x.toNat : Int) 3988292384 = ((x ^^^ poly).toNat : Int) := xor32 x poly
theorem bit_T {r : BitVec 32} (h : (((r &&& 1).toNat : Int) == 1) = true) : bit r = (r >>> 1) ^^^ poly := by
  have h' : ((r &&& 1).toNat : Int) = 1 := by simpa using h
  have : (r &&& 1) = 1 := by apply BitVec.eq_of_toNat_eq; show (r &&& 1).toNat = 1; omega
  unfold bit; rw [if_pos this]
theorem bit_F {r : BitVec 32} (h : (((r &&& 1).toNat : Int) == 1) = false) : bit r = r >>> 1 := by
  have : ¬ (r &&& 1) = 1 := by intro e; rw [e] at h; simp at h
  unfold bit; rw [if_neg this]

theorem rsumOn_p (s : BitVec 32) (A : Option Addr) (l : List UInt8) (c : Nat) (w : World) (hb : Bytes w A l) (hlen : l.length ≤ 140737488355328) :
    PureC Tryd.prog 127 [b32 s, .slice A l.length c] (b32 (sumOn s l)) w := by
  refine enter0 Tryd.func127 rfl Tryd.ntmps127 rfl ?_
  simp only [envOf]
  refine At.seq ?_
  refine At.region ?_
  refine At.val (Val.assign rfl) rfl rfl rfl ?_
  refine At.nil ?_
  refine At.thenN ?_
  refine At.seq ?_
  refine At.region ?_
  refine At.val (Val.move rfl) rfl rfl rfl ?_
  refine At.val (Val.com rfl) rfl rfl rfl ?_
  refine At.val (Val.assign rfl) rfl rfl rfl ?_
  refine At.nil ?_
  refine At.thenN ?_
  refine At.seq ?_
  refine At.seq ?_
  refine At.region ?_
  refine At.val (Val.assign rfl) rfl rfl rfl ?_
  refine At.nil ?_
  refine At.thenN ?_
  refine At.block ?_
  skip
  refine At.loop (σ := Nat) (fun k => k ≤ l.length) (fun k => [(0, b32 s), (1, .slice A l.length c), (5, b32 (crc (~~~s) (l.take k))), (6, .int .i64 k)]) (fun k => []) (fun k => l.length - k) 0 (Nat.zero_le _) (Sub.cons rfl (Sub.cons rfl (Sub.cons (congrArg (fun z => some (Value.int IntKind.u32 z)) (com32 s)) (Sub.cons rfl Sub.nil)))) (List.Perm.refl _) ?_
  intro k hs
  refine At.seq ?_
  refine At.seq ?_
  refine At.region ?_
  refine At.val (Val.move rfl) rfl rfl rfl ?_
  refine At.val (Val.move rfl) rfl rfl rfl ?_
  refine At.val (Val.len (bt := #[]) Tryd.underlying54 rfl) rfl rfl rfl ?_
  refine At.val (Val.bin rfl rfl rfl) rfl rfl rfl ?_
  refine At.nil ?_
  refine At.thenN ?_
  refine At.cond rfl (fun h1 => ?_) (fun h1 => ?_)
  · skip
    have hk : k < l.length := by simpa using h1
    obtain ⟨c', hc'⟩ : ∃ c', l[k]? = some c' := ⟨_, List.getElem?_eq_getElem hk⟩
    obtain ⟨b, o, rfl, hcell⟩ := hb k c' hc'
    refine At.skipC ?_
    refine At.thenN ?_
    refine At.seq ?_
    refine At.block ?_
    refine At.seq ?_
    refine At.region ?_
    refine At.val (Val.move rfl) rfl rfl rfl ?_
    refine At.val (Val.move rfl) rfl rfl rfl ?_
    refine At.val (Val.move rfl) rfl rfl rfl ?_
    refine At.val (Val.indexSl (o + k) (by simp) Tryd.underlying54 Tryd.sizeOf5 rfl rfl (by omega) (by omega)) rfl rfl rfl ?_
    refine At.val (Val.loadOld Tryd.isAgg5 rfl hcell (fun h => h)) rfl rfl rfl ?_
    refine At.val (Val.conv Tryd.underlying5 Tryd.underlying48 rfl) rfl rfl rfl ?_
    refine At.val (Val.bin rfl rfl rfl) rfl rfl rfl ?_
    rw [wrap_u32_nat, xor32]
    refine At.val (Val.assign rfl) rfl rfl rfl ?_
    refine At.nil ?_
    refine At.thenN ?_
    refine At.seq ?_
    refine At.region ?_
    refine At.val (Val.assign rfl) rfl rfl rfl ?_
    refine At.nil ?_
    refine At.thenN ?_
    refine At.block ?_
    skip
    refine At.loop (σ := Nat) (fun j => j ≤ 8) (fun j => [(0, b32 s), (1, .slice (some ⟨b, o, none⟩) l.length c), (5, b32 (bitN j (crc (~~~s) (l.take k) ^^^ BitVec.ofNat 32 c'.toNat))), (6, .int .i64 k), (7, .int .i64 j)]) (fun j => []) (fun j => 8 - j) 0 (by omega) (Sub.cons rfl (Sub.cons rfl (Sub.cons rfl (Sub.cons rfl (Sub.cons rfl Sub.nil))))) (List.Perm.refl _) ?_
    intro j hs
    refine At.seq ?_
    refine At.seq ?_
    refine At.region ?_
    refine At.val (Val.move rfl) rfl rfl rfl ?_
    refine At.val (Val.bin rfl rfl rfl) rfl rfl rfl ?_
    refine At.nil ?_
    refine At.thenN ?_
    refine At.cond rfl (fun h2 => ?_) (fun h2 => ?_)
    · skip
      have hj : j < 8 := by have := h2; simp at this; omega
      refine At.skipC ?_
      refine At.thenN ?_
      refine At.seq ?_
      refine At.block ?_
      refine At.seq ?_
      refine At.region ?_
      refine At.val (Val.move rfl) rfl rfl rfl ?_
      refine At.val (Val.bin rfl rfl rfl) rfl rfl rfl ?_
      rw [and1]
      refine At.val (Val.assign rfl) rfl rfl rfl ?_
      refine At.nil ?_
      refine At.thenN ?_
      refine At.seq ?_
      refine At.region ?_
      refine At.val (Val.move rfl) rfl rfl rfl ?_
      refine At.val (Val.shr rfl rfl (by decide)) rfl rfl rfl ?_
      rw [show ((bitN j (crc (~~~s) (l.take k) ^^^ BitVec.ofNat 32 c'.toNat)).toNat : Int).fdiv (2 ^ min (1 : Int).toNat IntKind.u32.bits) = ((bitN j (crc (~~~s) (l.take k) ^^^ BitVec.ofNat 32 c'.toNat)) >>> 1).toNat from shr32 _ 1 (by decide)]
      refine At.val (Val.assign rfl) rfl rfl rfl ?_
      refine At.nil ?_
      refine At.thenN ?_
      refine At.seq ?_
      refine At.region ?_
      refine At.val (Val.move rfl) rfl rfl rfl ?_
      refine At.val (Val.bin rfl rfl rfl) rfl rfl rfl ?_
      refine At.nil ?_
      refine At.thenN ?_
      refine At.cond rfl (fun h3 => ?_) (fun h3 => ?_)
      · skip
        refine At.region ?_
        refine At.val (Val.move rfl) rfl rfl rfl ?_
        refine At.val (Val.bin rfl rfl rfl) rfl rfl rfl ?_
        rw [xorp]
        refine At.val (Val.assign rfl) rfl rfl rfl ?_
        refine At.nil ?_
        refine At.blkN ?_
        refine At.thenN ?_
        refine At.region ?_
        refine At.val (Val.move rfl) rfl rfl rfl ?_
        refine At.val (Val.bin rfl rfl rfl) rfl rfl rfl ?_
        refine At.val (Val.assign rfl) rfl rfl rfl ?_
        refine At.nil ?_
        refine At.thenN ?_
        exact At.again (j + 1) (by omega) (by omega) (Sub.cons rfl (Sub.cons rfl (Sub.cons (congrArg (fun z => some (Value.int IntKind.u32 z)) (by rw [show bitN (j + 1) (crc (~~~s) (l.take k) ^^^ BitVec.ofNat 32 c'.toNat) = bit (bitN j (crc (~~~s) (l.take k) ^^^ BitVec.ofNat 32 c'.toNat)) from rfl, bit_T ‹_›])) (Sub.cons rfl (Sub.cons (congrArg (fun z => some (Value.int IntKind.i64 z)) (wrap_i64 (by omega) (by omega))) Sub.nil))))) (List.Perm.refl _)
      · skip
        refine At.skipC ?_
        refine At.blkN ?_
        refine At.thenN ?_
        refine At.region ?_
        refine At.val (Val.move rfl) rfl rfl rfl ?_
        refine At.val (Val.bin rfl rfl rfl) rfl rfl rfl ?_
        refine At.val (Val.assign rfl) rfl rfl rfl ?_
        refine At.nil ?_
        refine At.thenN ?_
        exact At.again (j + 1) (by omega) (by omega) (Sub.cons rfl (Sub.cons rfl (Sub.cons (congrArg (fun z => some (Value.int IntKind.u32 z)) (by rw [show bitN (j + 1) (crc (~~~s) (l.take k) ^^^ BitVec.ofNat 32 c'.toNat) = bit (bitN j (crc (~~~s) (l.take k) ^^^ BitVec.ofNat 32 c'.toNat)) from rfl, bit_F ‹_›])) (Sub.cons rfl (Sub.cons (congrArg (fun z => some (Value.int IntKind.i64 z)) (wrap_i64 (by omega) (by omega))) Sub.nil))))) (List.Perm.refl _)
    · skip
      have hj : j = 8 := by have := h2; simp at this; omega
      refine At.exitC ?_
      refine At.thenX ?_
      refine At.thenX ?_
      refine At.blkX ?_
      refine At.blkN ?_
      refine At.thenN ?_
      refine At.region ?_
      refine At.val (Val.move rfl) rfl rfl rfl ?_
      refine At.val (Val.bin rfl rfl rfl) rfl rfl rfl ?_
      refine At.val (Val.assign rfl) rfl rfl rfl ?_
      refine At.nil ?_
      refine At.thenN ?_
      exact At.again (k + 1) (by omega) (by omega) (Sub.cons rfl (Sub.cons rfl (Sub.cons (congrArg (fun z => some (Value.int IntKind.u32 z)) (by rw [hj, crcByte_bits, crc_take_succ _ _ _ _ hc'])) (Sub.cons (congrArg (fun z => some (Value.int IntKind.i64 z)) (wrap_i64 (by omega) (by omega))) Sub.nil)))) (List.Perm.refl _)
  · skip
    have hk : k = l.length := by have := h1; simp at this; omega
    refine At.exitC ?_
    refine At.thenX ?_
    refine At.thenX ?_
    refine At.blkX ?_
    refine At.thenN ?_
    refine At.seq ?_
    refine At.region ?_
    refine At.val (Val.move rfl) rfl rfl rfl ?_
    refine At.val (Val.com rfl) rfl rfl rfl ?_
    refine At.val (Val.assign rfl) rfl rfl rfl ?_
    refine At.nil ?_
    refine At.thenN ?_
    refine At.retC ?_
    refine At.ret1 (.inl rfl) rfl rfl rfl (fun w hw => ?_)
    exact ⟨by rw [com32, hk, List.take_length]; rfl, hw.mod⟩

theorem rsum_p (A : Option Addr) (l : List UInt8) (c : Nat) (w : World) (hb : Bytes w A l) (hlen : l.length ≤ 140737488355328) :
    PureC Tryd.prog 106 [.slice A l.length c] (b32 (sumOn 0 l)) w := by
  refine enter0 Tryd.func106 rfl Tryd.ntmps106 rfl ?_
  simp only [envOf]
  refine At.seq ?_
  refine At.region ?_
  refine At.val (Val.assign rfl) rfl rfl rfl ?_
  refine At.nil ?_
  refine At.thenN ?_
  refine At.seq ?_
  refine At.region ?_
  refine At.val (Val.move rfl) rfl rfl rfl ?_
  refine At.callP (fun w hw => rsumOn_p 0 _ _ _ w (hb.mod hw.mod) hlen) Tryd.call127 rfl rfl ?_
  refine At.val (Val.assign rfl) rfl rfl rfl ?_
  refine At.nil ?_
  refine At.thenN ?_
  refine At.retC ?_
  refine At.ret1 (.inl rfl) rfl rfl rfl (fun w hw => ?_)
  exact ⟨rfl, hw.mod⟩


theorem rsum_n (A : Option Addr) (l : List UInt8) (n c : Nat) (w : World) (hn : l.length = n) (hb : Bytes w A l) (hlen : n ≤ 140737488355328) : PureC Tryd.prog 106 [.slice A n c] (b32 (sumOn 0 l)) w := by
  subst hn; exact rsum_p A l c w hb hlen
theorem lay_rem (n : Nat) : IntKind.u8.wrap ((n : Int).tmod 256) = ((UInt8.ofNat n).toNat : Int) := by
  rw [show (n : Int).tmod 256 = ((n % 256 : Nat) : Int) from by rw [Int.tmod_eq_emod_of_nonneg (by omega)]; omega, wrap_u8_nat, ofNat_mod]
theorem lay_quo (n : Nat) (h : n < 18446744073709551616) : IntKind.u64.wrap ((n : Int).tdiv 256) = ((n / 256 : Nat) : Int) := by
  rw [show (n : Int).tdiv 256 = ((n / 256 : Nat) : Int) from by rw [Int.tdiv_eq_ediv_of_nonneg (by omega)]; omega, wrap_u64 (by omega) (by omega)]

theorem rlay_p (v : Value) (l : List UInt8) (x cnt : Nat) (w : World) (ho : w.ownsRow 0 5 1 v l.length (l.map bv)) (hx : x < 18446744073709551616) (hc : cnt ≤ 8) (hlen : l.length + cnt ≤ 140737488355328) :
    RowUpd Tryd.prog 79 [v, .int .u64 (x : Int), .int .i64 (cnt : Int)] v 5 1 l.length (l.map bv) (l ++ le cnt x).length ((l ++ le cnt x).map bv) w := by
  refine enter (feet [brow 5 v l]) [brow 5 v l] Tryd.func79 rfl Tryd.ntmps79 rfl (Rep.one ho) ?_
  simp only [envOf]
  refine At.seq ?_
  refine At.region ?_
  refine At.val (Val.assign rfl) rfl rfl rfl ?_
  refine At.nil ?_
  refine At.thenN ?_
  refine At.seq ?_
  refine At.seq ?_
  refine At.region ?_
  refine At.val (Val.assign rfl) rfl rfl rfl ?_
  refine At.nil ?_
  refine At.thenN ?_
  refine At.block ?_
  skip
  refine At.loop (σ := Nat × Value) (fun s => s.1 ≤ cnt) (fun s => [(0, s.2), (1, .int .u64 ((x / 256 ^ s.1 : Nat) : Int)), (2, .int .i64 (cnt : Int)), (7, .int .i64 (s.1 : Int))]) (fun s => [brow 5 s.2 (l ++ (le cnt x).take s.1)]) (fun s => cnt - s.1) (0, v) (Nat.zero_le _) (Sub.cons rfl (Sub.cons (congrArg (fun z => some (Value.int IntKind.u64 z)) (by simp)) (Sub.cons rfl (Sub.cons rfl Sub.nil)))) (by simp [List.take_zero]) ?_
  intro s hs
  obtain ⟨k, vk⟩ := s
  dsimp only at hs ⊢
  refine At.seq ?_
  refine At.seq ?_
  refine At.region ?_
  refine At.val (Val.move rfl) rfl rfl rfl ?_
  refine At.val (Val.move rfl) rfl rfl rfl ?_
  refine At.val (Val.bin rfl rfl rfl) rfl rfl rfl ?_
  refine At.nil ?_
  refine At.thenN ?_
  refine At.cond rfl (fun h1 => ?_) (fun h1 => ?_)
  · skip
    have hk : k < cnt := by have := h1; simp at this; omega
    refine At.skipC ?_
    refine At.thenN ?_
    refine At.seq ?_
    refine At.block ?_
    refine At.seq ?_
    refine At.region ?_
    refine At.val (Val.move rfl) rfl rfl rfl ?_
    refine At.val (Val.move rfl) rfl rfl rfl ?_
    refine At.val (Val.rem rfl rfl (by decide)) rfl rfl rfl ?_
    refine At.val (Val.conv Tryd.underlying40 Tryd.underlying5 rfl) rfl rfl rfl ?_
    rw [lay_rem]
    refine At.buildSl (fun a ha => by simp only [List.map_toArray, List.map_cons, List.map_nil, ha.eval (x := (.tmp 16)) rfl]; try rfl) (bs_54_1 _ ) rfl (fun b2 => ?_)
    refine At.append (i := 1) (sz := 1) (by_ := 1) Tryd.underlying54 info_5 rfl rfl rfl rfl rfl rfl rfl rfl rfl (fun w hw j u hj => by rw [Nat.zero_add]; exact ((hw.blk (i := 0) rfl).cell j).trans hj) (by simp [Value.oneCell']) (by rw [List.length_append, List.length_take, le_length]; omega) (by rw [List.length_append, List.length_take, le_length]; omega) rfl (fun v3 => ?_)
    simp only [List.set_cons_zero, List.set_cons_succ]
    refine At.drop 0 ?_
    simp only [List.eraseIdx_cons_zero, List.eraseIdx_cons_succ]
    refine At.val (Val.assign rfl) rfl rfl rfl ?_
    refine At.nil ?_
    rw [brow_snoc, List.append_assoc, ← le_take_succ _ _ _ hk]
    refine At.thenN ?_
    refine At.region ?_
    refine At.val (Val.move rfl) rfl rfl rfl ?_
    refine At.val (Val.quo rfl rfl (by decide)) rfl rfl rfl ?_
    rw [lay_quo _ (Nat.lt_of_le_of_lt (Nat.div_le_self _ _) hx), Nat.div_div_eq_div_mul, ← Nat.pow_succ]
    refine At.val (Val.assign rfl) rfl rfl rfl ?_
    refine At.nil ?_
    refine At.blkN ?_
    refine At.thenN ?_
    refine At.region ?_
    refine At.val (Val.move rfl) rfl rfl rfl ?_
    refine At.val (Val.bin rfl rfl rfl) rfl rfl rfl ?_
    refine At.val (Val.assign rfl) rfl rfl rfl ?_
    refine At.nil ?_
    refine At.thenN ?_
    exact At.again (k + 1, v3) (show k + 1 ≤ cnt by omega) (by dsimp only; omega) (Sub.cons rfl (Sub.cons rfl (Sub.cons rfl (Sub.cons (congrArg (fun z => some (Value.int IntKind.i64 z)) (wrap_i64 (by omega) (by omega))) Sub.nil)))) (List.Perm.refl _)
  · skip
    have hk : k = cnt := by have := h1; simp at this; omega
    refine At.exitC ?_
    refine At.thenX ?_
    refine At.thenX ?_
    refine At.blkX ?_
    refine At.thenN ?_
    refine At.seq ?_
    refine At.region ?_
    refine At.val (Val.move rfl) rfl rfl rfl ?_
    refine At.val (Val.assign rfl) rfl rfl rfl ?_
    refine At.nil ?_
    refine At.thenN ?_
    refine At.retC ?_
    refine At.ret1 (.inl rfl) rfl rfl rfl (fun w hw => ?_)
    exact ⟨vk, rfl, by have := hw; rw [hk, le_take_all] at this; exact this⟩

end Go.Proofs.YtoiebgnmknbkjaaDoor
