/- The sums of the codec. -/
import Derived.Test.YtoiebgnmknbkjaaDoorFa
import Derived.Test.YtoiebgnmknbkjaaDoorWa
set_option linter.unusedVariables false
set_option linter.unusedSimpArgs false
namespace Go.Proofs.YtoiebgnmknbkjaaDoor
open Go Go.Wk
theorem sumOn_p (s : BitVec 32) (A : Option Addr) (l : List UInt8) (c : Nat) (w : World) (hb : Bytes w A l) (ht : Tab w) (hlen : l.length ≤ 140737488355328) :
    PureC Tryd.prog 126 [b32 s, .slice A l.length c] (b32 (sumOn s l)) w := by
  refine enter0 Tryd.func126 rfl Tryd.ntmps126 rfl ?_
  simp only [envOf]
  refine At.seq ?_
  refine At.region ?_
  refine At.val (Val.assign rfl) rfl rfl rfl ?_
  refine At.nil ?_
  refine At.thenN ?_
  refine At.seq ?_
  refine At.region ?_
  refine At.val (Val.move rfl) rfl rfl rfl ?_
  refine At.val (Val.com rfl) rfl rfl rfl ?_
  refine At.val (Val.assign rfl) rfl rfl rfl ?_
  refine At.nil ?_
  refine At.thenN ?_
  refine At.seq ?_
  refine At.seq ?_
  refine At.region ?_
  refine At.val (Val.move rfl) rfl rfl rfl ?_
  refine At.val (Val.len (bt := #[]) Tryd.underlying54 rfl) rfl rfl rfl ?_
  refine At.val (Val.move rfl) rfl rfl rfl ?_
  refine At.nil ?_
  refine At.thenN ?_
  refine At.block ?_
  skip
  refine At.loop (σ := Nat) (fun k => k ≤ l.length) (fun k => [(5, b32 (crc (~~~s) (l.take k))), (10, .slice A l.length c), (11, .int .i64 l.length), (12, .int .i64 k)]) (fun k => []) (fun k => l.length - k) 0 (Nat.zero_le _) (Sub.cons (congrArg (fun z => some (Value.int IntKind.u32 z)) (com32 s)) (Sub.cons rfl (Sub.cons rfl (Sub.cons rfl Sub.nil)))) (List.Perm.refl _) ?_
  intro k hs
  refine At.seq ?_
  refine At.region ?_
  refine At.val (Val.bin rfl rfl rfl) rfl rfl rfl ?_
  refine At.nil ?_
  refine At.thenN ?_
  refine At.seq ?_
  refine At.cond rfl (fun h1 => ?_) (fun h1 => ?_)
  · skip
    have hk : k < l.length := by simpa using h1
    obtain ⟨c', hc'⟩ : ∃ c', l[k]? = some c' := ⟨_, List.getElem?_eq_getElem hk⟩
    obtain ⟨b, o, rfl, hcell⟩ := hb k c' hc'
    refine At.skipC ?_
    refine At.thenN ?_
    refine At.seq ?_
    refine At.block ?_
    refine At.seq ?_
    refine At.region ?_
    refine At.val (Val.indexSl (o + k) (by simp) Tryd.underlying54 Tryd.sizeOf5 rfl rfl (by omega) (by omega)) rfl rfl rfl ?_
    refine At.val (Val.loadOld Tryd.isAgg5 rfl hcell (fun h => h)) rfl rfl rfl ?_
    refine At.val (Val.assign rfl) rfl rfl rfl ?_
    refine At.nil ?_
    refine At.thenN ?_
    refine At.seq ?_
    refine At.region ?_
    refine At.val (Val.move rfl) rfl rfl rfl ?_
    refine At.val (Val.move rfl) rfl rfl rfl ?_
    refine At.val (Val.conv Tryd.underlying5 Tryd.underlying48 rfl) rfl rfl rfl ?_
    refine At.val (Val.bin rfl rfl rfl) rfl rfl rfl ?_
    refine At.val (Val.assign rfl) rfl rfl rfl ?_
    refine At.nil ?_
    refine At.weaken [(5, b32 ((crc (~~~s) (l.take k)) ^^^ BitVec.ofNat 32 c'.toNat)), (10, .slice (some ⟨b, o, none⟩) l.length c), (11, .int .i64 l.length), (12, .int .i64 k)] (Sub.cons (congrArg (fun z => some (Value.int IntKind.u32 z)) (by rw [wrap_u32_nat, xor32])) (Sub.cons rfl (Sub.cons rfl (Sub.cons rfl Sub.nil)))) ?_
    refine At.thenN ?_
    refine At.seq ?_
    refine At.region ?_
    refine At.val (Val.move rfl) rfl rfl rfl ?_
    refine At.val (Val.bin rfl rfl rfl) rfl rfl rfl ?_
    refine At.val (Val.indexArr (((crc (~~~s) (l.take k)) ^^^ BitVec.ofNat 32 c'.toNat) &&& 15).toNat (by rw [and15 ((crc (~~~s) (l.take k)) ^^^ BitVec.ofNat 32 c'.toNat)]; simp) Tryd.underlying190 Tryd.sizeOf48 rfl rfl (by rw [and15 ((crc (~~~s) (l.take k)) ^^^ BitVec.ofNat 32 c'.toNat)]; omega) (by rw [and15 ((crc (~~~s) (l.take k)) ^^^ BitVec.ofNat 32 c'.toNat)]; have := and15_lt ((crc (~~~s) (l.take k)) ^^^ BitVec.ofNat 32 c'.toNat); omega)) rfl rfl rfl ?_
    refine At.val (Val.loadOld Tryd.isAgg48 rfl (ht _ (and15_lt ((crc (~~~s) (l.take k)) ^^^ BitVec.ofNat 32 c'.toNat))) (fun h => h)) rfl rfl rfl ?_
    refine At.val (Val.move rfl) rfl rfl rfl ?_
    refine At.val (Val.shr rfl rfl (by decide)) rfl rfl rfl ?_
    refine At.val (Val.bin rfl rfl rfl) rfl rfl rfl ?_
    refine At.val (Val.assign rfl) rfl rfl rfl ?_
    refine At.nil ?_
    refine At.weaken [(5, b32 (step4 ((crc (~~~s) (l.take k)) ^^^ BitVec.ofNat 32 c'.toNat))), (10, .slice (some ⟨b, o, none⟩) l.length c), (11, .int .i64 l.length), (12, .int .i64 k)] (Sub.cons (congrArg (fun z => some (Value.int IntKind.u32 z)) (by rw [show (((crc (~~~s) (l.take k)) ^^^ BitVec.ofNat 32 c'.toNat).toNat : Int).fdiv (2 ^ min (4 : Int).toNat IntKind.u32.bits) = (((crc (~~~s) (l.take k)) ^^^ BitVec.ofNat 32 c'.toNat) >>> 4).toNat from shr32 _ 4 (by decide), xor32]; rfl)) (Sub.cons rfl (Sub.cons rfl (Sub.cons rfl Sub.nil)))) ?_
    refine At.thenN ?_
    refine At.region ?_
    refine At.val (Val.move rfl) rfl rfl rfl ?_
    refine At.val (Val.bin rfl rfl rfl) rfl rfl rfl ?_
    refine At.val (Val.indexArr ((step4 ((crc (~~~s) (l.take k)) ^^^ BitVec.ofNat 32 c'.toNat)) &&& 15).toNat (by rw [and15 (step4 ((crc (~~~s) (l.take k)) ^^^ BitVec.ofNat 32 c'.toNat))]; simp) Tryd.underlying190 Tryd.sizeOf48 rfl rfl (by rw [and15 (step4 ((crc (~~~s) (l.take k)) ^^^ BitVec.ofNat 32 c'.toNat))]; omega) (by rw [and15 (step4 ((crc (~~~s) (l.take k)) ^^^ BitVec.ofNat 32 c'.toNat))]; have := and15_lt (step4 ((crc (~~~s) (l.take k)) ^^^ BitVec.ofNat 32 c'.toNat)); omega)) rfl rfl rfl ?_
    refine At.val (Val.loadOld Tryd.isAgg48 rfl (ht _ (and15_lt (step4 ((crc (~~~s) (l.take k)) ^^^ BitVec.ofNat 32 c'.toNat)))) (fun h => h)) rfl rfl rfl ?_
    refine At.val (Val.move rfl) rfl rfl rfl ?_
    refine At.val (Val.shr rfl rfl (by decide)) rfl rfl rfl ?_
    refine At.val (Val.bin rfl rfl rfl) rfl rfl rfl ?_
    refine At.val (Val.assign rfl) rfl rfl rfl ?_
    refine At.nil ?_
    refine At.weaken [(5, b32 (crc (~~~s) (l.take (k + 1)))), (10, .slice (some ⟨b, o, none⟩) l.length c), (11, .int .i64 l.length), (12, .int .i64 k)] (Sub.cons (congrArg (fun z => some (Value.int IntKind.u32 z)) (by rw [show ((step4 ((crc (~~~s) (l.take k)) ^^^ BitVec.ofNat 32 c'.toNat)).toNat : Int).fdiv (2 ^ min (4 : Int).toNat IntKind.u32.bits) = ((step4 ((crc (~~~s) (l.take k)) ^^^ BitVec.ofNat 32 c'.toNat)) >>> 4).toNat from shr32 _ 4 (by decide), xor32]; rw [crc_take_succ _ _ _ _ hc']; rfl)) (Sub.cons rfl (Sub.cons rfl (Sub.cons rfl Sub.nil)))) ?_
    refine At.blkN ?_
    refine At.thenN ?_
    refine At.region ?_
    refine At.val (Val.bin rfl rfl rfl) rfl rfl rfl ?_
    refine At.val (Val.move rfl) rfl rfl rfl ?_
    refine At.nil ?_
    refine At.thenN ?_
    exact At.again (k + 1) (by omega) (by omega) (Sub.cons rfl (Sub.cons rfl (Sub.cons rfl (Sub.cons (by rw [wrap_i64 (by omega) (by omega)]; rfl) Sub.nil)))) (List.Perm.refl _)
  · skip
    have hk : k = l.length := by have := h1; simp at this; omega
    refine At.exitC ?_
    refine At.thenX ?_
    refine At.thenX ?_
    refine At.blkX ?_
    refine At.thenN ?_
    refine At.seq ?_
    refine At.region ?_
    refine At.val (Val.move rfl) rfl rfl rfl ?_
    refine At.val (Val.com rfl) rfl rfl rfl ?_
    refine At.val (Val.assign rfl) rfl rfl rfl ?_
    refine At.nil ?_
    refine At.thenN ?_
    refine At.retC ?_
    refine At.ret1 (.inl rfl) rfl rfl rfl (fun w hw => ?_)
    exact ⟨by rw [com32, hk, List.take_length]; rfl, hw.mod⟩

theorem sum_p (A : Option Addr) (l : List UInt8) (c : Nat) (w : World) (hb : Bytes w A l) (ht : Tab w) (hlen : l.length ≤ 140737488355328) :
    PureC Tryd.prog 115 [.slice A l.length c] (b32 (sumOn 0 l)) w := by
  refine enter0 Tryd.func115 rfl Tryd.ntmps115 rfl ?_
  simp only [envOf]
  refine At.seq ?_
  refine At.region ?_
  refine At.val (Val.assign rfl) rfl rfl rfl ?_
  refine At.nil ?_
  refine At.thenN ?_
  refine At.seq ?_
  refine At.region ?_
  refine At.val (Val.move rfl) rfl rfl rfl ?_
  refine At.callP (fun w hw => sumOn_p 0 _ _ _ w (hb.mod hw.mod) (ht.mod hw.mod) hlen) Tryd.call126 rfl rfl ?_
  refine At.val (Val.assign rfl) rfl rfl rfl ?_
  refine At.nil ?_
  refine At.thenN ?_
  refine At.retC ?_
  refine At.ret1 (.inl rfl) rfl rfl rfl (fun w hw => ?_)
  exact ⟨rfl, hw.mod⟩


theorem sum_n (A : Option Addr) (l : List UInt8) (n c : Nat) (w : World) (hn : l.length = n) (hb : Bytes w A l) (ht : Tab w) (hlen : n ≤ 140737488355328) : PureC Tryd.prog 115 [.slice A n c] (b32 (sumOn 0 l)) w := by
  subst hn; exact sum_p A l c w hb ht hlen
theorem sumOn_n (s : BitVec 32) (A : Option Addr) (l : List UInt8) (n c : Nat) (w : World) (hn : l.length = n) (hb : Bytes w A l) (ht : Tab w) (hlen : n ≤ 140737488355328) : PureC Tryd.prog 126 [b32 s, .slice A n c] (b32 (sumOn s l)) w := by
  subst hn; exact sumOn_p s A l c w hb ht hlen

end Go.Proofs.YtoiebgnmknbkjaaDoor
