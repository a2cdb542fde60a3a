/- The pen; letters. -/
import Derived.Test.YtoiebgnmknbkjaaDoorB1
import Derived.Test.YtoiebgnmknbkjaaDoorPa
import Derived.Test.YtoiebgnmknbkjaaDoorWb
set_option linter.unusedVariables false
set_option linter.unusedSimpArgs false
namespace Go.Proofs.YtoiebgnmknbkjaaDoor
open Go Go.Wk

theorem shr_nat (n : Nat) : (n : Int).fdiv (2 ^ min (8 : Int).toNat IntKind.u64.bits) = ((n / 256 : Nat) : Int) := by
  rw [show (2 : Int) ^ min (8 : Int).toNat IntKind.u64.bits = ((256 : Nat) : Int) from rfl, Int.fdiv_eq_ediv_of_nonneg _ (by omega)]; rfl


theorem str_get {s : ByteArray} {k : Nat} {c : UInt8} (h : s.data.toList[k]? = some c) : s[((k : Int)).toNat]? = some c := by
  rw [Int.toNat_natCast]
  have hk : k < s.data.size := by
    rcases Nat.lt_or_ge k s.data.size with h1 | h1
    · exact h1
    · rw [List.getElem?_eq_none (by simpa using h1)] at h; cases h
  rw [getElem?_pos s k hk]
  simp [List.getElem?_eq_getElem (show k < s.data.toList.length by simpa using hk)] at h
  rw [← h]; rfl
theorem List.take_succ_of_get {α : Type} {l : List α} {k : Nat} {c : α} (h : l[k]? = some c) : l.take (k + 1) = l.take k ++ [c] := by rw [List.take_add_one, h]; rfl

theorem penNumber_p (b : Nat) (a : List UInt8) (x n : Nat) (w : World) (hh : Holds w b 127 (penC a)) (ha : a.length + n ≤ 64) (hx : x < 18446744073709551616) (h8 : n ≤ 8) :
    Upd Tryd.prog 76 [.pointer (some ⟨b, 0, none⟩), .int .u64 (x : Int), .int .i64 (n : Int)] (blk b 127 (penC a)) (.tuple #[]) (blk b 127 (penC (a ++ le n x))) w := by
  refine enter (feet [blk b 127 (penC a)]) [blk b 127 (penC a)] Tryd.func76 rfl Tryd.ntmps76 rfl (Rep.one hh) ?_
  simp only [envOf]
  refine At.seq ?_
  refine At.region ?_
  refine At.val (Val.move rfl) rfl rfl rfl ?_
  refine At.val (Val.move rfl) rfl rfl rfl ?_
  refine At.nil ?_
  refine At.thenN ?_
  refine At.block ?_
  skip
  refine At.loop (σ := Nat) (fun k => k ≤ n) (fun k => [(0, .pointer (some ⟨b, 0, none⟩)), (1, .int .u64 ((x / 256 ^ k : Nat) : Int)), (6, .int .i64 (n : Int)), (7, .int .i64 (k : Int))]) (fun k => [blk b 127 (penC (a ++ (le n x).take k))]) (fun k => n - k) 0 (Nat.zero_le _) (Sub.cons rfl (Sub.cons (congrArg (fun z => some (Value.int IntKind.u64 z)) (by simp)) (Sub.cons rfl (Sub.cons rfl Sub.nil)))) (by simp) ?_
  intro k hs
  refine At.seq ?_
  refine At.region ?_
  refine At.val (Val.bin rfl rfl rfl) rfl rfl rfl ?_
  refine At.nil ?_
  refine At.thenN ?_
  refine At.seq ?_
  refine At.cond rfl (fun h1 => ?_) (fun h1 => ?_)
  · skip
    have hk : k < n := by have := h1; simp at this; omega
    have hL : (a ++ (le n x).take k).length = a.length + k := by rw [List.length_append, List.length_take, le_length]; omega
    refine At.skipC ?_
    refine At.thenN ?_
    refine At.seq ?_
    refine At.block ?_
    refine At.seq ?_
    refine At.tail 10 rfl (by decide +kernel) ?_
    simp only [List.take_succ_cons, List.take_zero, List.drop_succ_cons, List.drop_zero]
    refine QAt.val (Val.move rfl) rfl rfl rfl ?_
    refine QAt.val (Val.move rfl) rfl rfl rfl ?_
    refine QAt.val (Val.nilCheck rfl) rfl rfl rfl ?_
    refine QAt.val (Val.field 64 rfl fo_127_1 rfl) rfl rfl rfl ?_
    refine QAt.val (Val.load (i := 0) Tryd.isAgg3 rfl rfl (penC_at (a := (a ++ (le n x).take k)) (by omega))) rfl rfl rfl ?_
    refine QAt.val (Val.move rfl) rfl rfl rfl ?_
    refine QAt.val (Val.conv Tryd.underlying40 Tryd.underlying5 rfl) rfl rfl rfl ?_
    rw [wrap_u8_nat]
    refine QAt.val (Val.nilCheck rfl) rfl rfl rfl ?_
    refine QAt.val (Val.field 0 rfl fo_127_0 rfl) rfl rfl rfl ?_
    refine QAt.val (Val.indexArr ((a ++ (le n x).take k)).length (by omega) Tryd.underlying30 Tryd.sizeOf5 rfl rfl (by omega) (by omega)) rfl rfl rfl ?_
    refine QAt.fin ?_
    refine At.store (i := 0) Tryd.sizeOf5 rfl rfl rfl rfl (by rw [penC_len (by omega)]; omega) ?_
    simp only [List.set_cons_zero, List.set_cons_succ]
    refine At.nil ?_
    refine At.thenN ?_
    refine At.seq ?_
    refine At.region ?_
    refine At.val (Val.move rfl) rfl rfl rfl ?_
    refine At.val (Val.shr rfl rfl (by decide)) rfl rfl rfl ?_
    rw [shr_nat]
    refine At.val (Val.assign rfl) rfl rfl rfl ?_
    refine At.nil ?_
    refine At.thenN ?_
    refine At.region ?_
    refine At.val (Val.move rfl) rfl rfl rfl ?_
    refine At.val (Val.nilCheck rfl) rfl rfl rfl ?_
    refine At.val (Val.field 64 rfl fo_127_1 rfl) rfl rfl rfl ?_
    refine At.val (Val.load (i := 0) Tryd.isAgg3 rfl rfl (penC_at' (a := (a ++ (le n x).take k)) (by omega))) rfl rfl rfl ?_
    refine At.val (Val.bin rfl rfl rfl) rfl rfl rfl ?_
    rw [wrap_i64 (n := (((a ++ (le n x).take k).length : Nat) : Int) + 1) (by omega) (by omega)]
    refine At.val (Val.nilCheck rfl) rfl rfl rfl ?_
    refine At.val (Val.field 64 rfl fo_127_1 rfl) rfl rfl rfl ?_
    refine At.store (i := 0) Tryd.sizeOf3 rfl rfl rfl rfl (by rw [List.length_set, penC_len (by omega)]; omega) ?_
    simp only [List.set_cons_zero, List.set_cons_succ]
    refine At.nil ?_
    rw [show (((a ++ (le n x).take k).length : Nat) : Int) + 1 = (((a ++ (le n x).take k).length + 1 : Nat) : Int) from by omega, penC_step (c := UInt8.ofNat (x / 256 ^ k)) (by omega), List.append_assoc, ← le_take_succ _ _ _ hk]
    refine At.blkN ?_
    refine At.thenN ?_
    refine At.region ?_
    refine At.val (Val.bin rfl rfl rfl) rfl rfl rfl ?_
    refine At.val (Val.move rfl) rfl rfl rfl ?_
    refine At.nil ?_
    refine At.thenN ?_
    exact At.again (k + 1) (by omega) (by omega) (Sub.cons rfl (Sub.cons (congrArg (fun z => some (Value.int IntKind.u64 z)) (by rw [Nat.div_div_eq_div_mul, ← Nat.pow_succ])) (Sub.cons rfl (Sub.cons (congrArg (fun z => some (Value.int IntKind.i64 z)) (wrap_i64 (by omega) (by omega))) Sub.nil)))) (List.Perm.refl _)
  · skip
    have hk : k = n := by have := h1; simp at this; omega
    refine At.exitC ?_
    refine At.thenX ?_
    refine At.thenX ?_
    refine At.blkX ?_
    refine At.ret0 (.inr rfl) rfl rfl  (fun w hw => ?_)
    exact ⟨rfl, by have := hw; rw [hk, le_take_all] at this; exact this⟩

theorem penText_p (b : Nat) (a : List UInt8) (s : ByteArray) (w : World) (hh : Holds w b 127 (penC a)) (ha : a.length + s.data.toList.length ≤ 64) :
    Upd Tryd.prog 75 [.pointer (some ⟨b, 0, none⟩), .string s] (blk b 127 (penC a)) (.tuple #[]) (blk b 127 (penC (a ++ s.data.toList))) w := by
  refine enter (feet [blk b 127 (penC a)]) [blk b 127 (penC a)] Tryd.func75 rfl Tryd.ntmps75 rfl (Rep.one hh) ?_
  have hs : s.size = s.data.toList.length := Array.length_toList.symm
  simp only [envOf]
  refine At.mid 15 13 [blkP b 127 (fun cs => cs[64]? = some (.int .i64 (a.length : Nat)))] [blk b 127 (putAt (penC a) (if 64 = a.length then 0 else 0 + a.length * 1) (s.data.toList.map bv))] rfl (by decide +kernel) (by decide) rfl rfl (fun w hw => hw.blkP (i := 0) _ rfl (penC_at (by omega))) (fun w hw => hw.blkP (i := 0) _ rfl (by unfold putAt; rw [List.getElem?_append_right (by simp [penC_len (a := a) (by omega)]; split <;> omega), List.getElem?_drop, ← penC_at (a := a) (by omega)]; congr 1; simp [penC_len (a := a) (by omega)]; split <;> omega)) ?_
  simp only [List.take_succ_cons, List.take_zero, List.drop_succ_cons, List.drop_zero]
  refine PAt.val (Val.move rfl) rfl rfl rfl rfl ?_
  refine PAt.val (Val.nilCheck rfl) rfl rfl rfl rfl ?_
  refine PAt.val (Val.field 64 rfl fo_127_1 rfl) rfl rfl rfl rfl ?_
  refine PAt.val (Val.loadP (i := 0) Tryd.isAgg3 rfl rfl (fun cs h => h)) rfl rfl rfl rfl ?_
  refine PAt.val (Val.move rfl) rfl rfl rfl rfl ?_
  refine PAt.val (Val.nilCheck rfl) rfl rfl rfl rfl ?_
  refine PAt.val (Val.field 0 rfl fo_127_0 rfl) rfl rfl rfl rfl ?_
  refine PAt.val (Val.move rfl) rfl rfl rfl rfl ?_
  refine PAt.val (Val.nilCheck rfl) rfl rfl rfl rfl ?_
  refine PAt.val (Val.field 64 rfl fo_127_1 rfl) rfl rfl rfl rfl ?_
  refine PAt.val (Val.loadP (i := 0) Tryd.isAgg3 rfl rfl (fun cs h => h)) rfl rfl rfl rfl ?_
  refine PAt.val (Val.cutArr a.length 64 (if 64 = a.length then 0 else 0 + a.length * 1) (64 - a.length) (64 - a.length) Tryd.underlying30 Tryd.sizeOf5 rfl ⟨_, _, rfl, by omega, by omega⟩ rfl (by omega) (by omega) rfl rfl rfl) rfl rfl rfl rfl ?_
  refine PAt.val (Val.move rfl) rfl rfl rfl rfl ?_
  refine PAt.mid (fun a' w' ha' hw' => copyStr_step (i := 0) Tryd.underlying54 Tryd.sizeOf5 rfl rfl rfl (by omega) (by rw [penC_len (by omega)]; split <;> omega) a' w' ha' hw') rfl rfl rfl ?_
  refine PAt.val (Val.bin rfl rfl rfl) rfl rfl rfl rfl ?_
  rw [wrap_i64 (by omega) (by omega)]
  refine PAt.fin ?_
  refine At.val (Val.nilCheck rfl) rfl rfl rfl ?_
  refine At.val (Val.field 64 rfl fo_127_1 rfl) rfl rfl rfl ?_
  refine At.store (i := 0) Tryd.sizeOf3 rfl rfl rfl rfl (by unfold putAt; simp [penC_len (a := a) (by omega)]; split <;> omega) ?_
  simp only [List.set_cons_zero, List.set_cons_succ]
  refine At.nil ?_
  have hz : putAt (penC a) (if 64 = a.length then 0 else 0 + a.length * 1) (s.data.toList.map bv) = putAt (penC a) a.length (s.data.toList.map bv) := by
    split
    · rename_i h64
      have : s.data.toList = [] := List.eq_nil_of_length_eq_zero (by omega)
      rw [this]; simp [putAt]
    · simp
  rw [hz, hs, show ((a.length : Nat) : Int) + ((s.data.toList.length : Nat) : Int) = ((a.length + s.data.toList.length : Nat) : Int) from by omega, penC_put ha]
  refine At.ret0 (.inr rfl) rfl rfl  (fun w hw => ?_)
  exact ⟨rfl, hw⟩

theorem letters_p (v : Value) (l : List UInt8) (s : ByteArray) (w : World) (ho : w.ownsRow 0 5 1 v l.length (l.map bv)) (hlen : l.length + s.data.toList.length ≤ 140737488355328) :
    RowUpd Tryd.prog 78 [v, .string s] v 5 1 l.length (l.map bv) (l ++ s.data.toList).length ((l ++ s.data.toList).map bv) w := by
  refine enter (feet [brow 5 v l]) [brow 5 v l] Tryd.func78 rfl Tryd.ntmps78 rfl (Rep.one ho) ?_
  have hs : s.size = s.data.toList.length := Array.length_toList.symm
  simp only [envOf]
  refine At.seq ?_
  refine At.region ?_
  refine At.val (Val.assign rfl) rfl rfl rfl ?_
  refine At.nil ?_
  refine At.thenN ?_
  refine At.seq ?_
  refine At.seq ?_
  refine At.region ?_
  refine At.val (Val.assign rfl) rfl rfl rfl ?_
  refine At.nil ?_
  refine At.thenN ?_
  refine At.block ?_
  skip
  refine At.loop (σ := Nat × Value) (fun s' => s'.1 ≤ s.data.toList.length) (fun s' => [(0, s'.2), (1, .string s), (5, .int .i64 (s'.1 : Int))]) (fun s' => [brow 5 s'.2 (l ++ s.data.toList.take s'.1)]) (fun s' => s.data.toList.length - s'.1) (0, v) (Nat.zero_le _) (Sub.cons rfl (Sub.cons rfl (Sub.cons rfl Sub.nil))) (by simp) ?_
  intro s' hs
  obtain ⟨k, vk⟩ := s'
  dsimp only at hs ⊢
  refine At.seq ?_
  refine At.seq ?_
  refine At.region ?_
  refine At.val (Val.move rfl) rfl rfl rfl ?_
  refine At.val (Val.move rfl) rfl rfl rfl ?_
  refine At.val (Val.lenStr Tryd.underlying9 rfl) rfl rfl rfl ?_
  refine At.val (Val.bin rfl rfl rfl) rfl rfl rfl ?_
  refine At.nil ?_
  refine At.thenN ?_
  refine At.cond rfl (fun h1 => ?_) (fun h1 => ?_)
  · skip
    have hk : k < s.data.toList.length := by have := h1; simp at this; omega
    obtain ⟨c, hc⟩ : ∃ c, s.data.toList[k]? = some c := ⟨_, List.getElem?_eq_getElem hk⟩
    refine At.skipC ?_
    refine At.thenN ?_
    refine At.seq ?_
    refine At.block ?_
    refine At.region ?_
    refine At.val (Val.move rfl) rfl rfl rfl ?_
    refine At.val (Val.move rfl) rfl rfl rfl ?_
    refine At.val (Val.move rfl) rfl rfl rfl ?_
    refine At.val (Val.indexStr Tryd.underlying9 rfl rfl (c := c) (by omega) (str_get hc)) rfl rfl rfl ?_
    refine At.buildSl (fun a ha => by simp only [List.map_toArray, List.map_cons, List.map_nil, ha.eval (x := (.tmp 15)) rfl]; try rfl) (bs_54_1 _ ) rfl (fun b2 => ?_)
    refine At.append (i := 1) (sz := 1) (by_ := 1) Tryd.underlying54 info_5 rfl rfl rfl rfl rfl rfl rfl rfl rfl (fun w hw j u hj => by rw [Nat.zero_add]; exact ((hw.blk (i := 0) rfl).cell j).trans hj) (by simp [Value.oneCell']) (by rw [List.length_append, List.length_take]; omega) (by rw [List.length_append, List.length_take]; omega) rfl (fun v3 => ?_)
    simp only [List.set_cons_zero, List.set_cons_succ]
    refine At.drop 0 ?_
    simp only [List.eraseIdx_cons_zero, List.eraseIdx_cons_succ]
    refine At.val (Val.assign rfl) rfl rfl rfl ?_
    refine At.nil ?_
    rw [brow_snoc, List.append_assoc, ← List.take_succ_of_get hc]
    refine At.blkN ?_
    refine At.thenN ?_
    refine At.region ?_
    refine At.val (Val.move rfl) rfl rfl rfl ?_
    refine At.val (Val.bin rfl rfl rfl) rfl rfl rfl ?_
    refine At.val (Val.assign rfl) rfl rfl rfl ?_
    refine At.nil ?_
    refine At.thenN ?_
    exact At.again (k + 1, v3) (show k + 1 ≤ _ by omega) (by dsimp only; omega) (Sub.cons rfl (Sub.cons rfl (Sub.cons (congrArg (fun z => some (Value.int IntKind.i64 z)) (wrap_i64 (by omega) (by omega))) Sub.nil))) (List.Perm.refl _)
  · skip
    have hk : k = s.data.toList.length := by have := h1; simp at this; omega
    refine At.exitC ?_
    refine At.thenX ?_
    refine At.thenX ?_
    refine At.blkX ?_
    refine At.thenN ?_
    refine At.seq ?_
    refine At.region ?_
    refine At.val (Val.move rfl) rfl rfl rfl ?_
    refine At.val (Val.assign rfl) rfl rfl rfl ?_
    refine At.nil ?_
    refine At.thenN ?_
    refine At.retC ?_
    refine At.ret1 (.inl rfl) rfl rfl rfl (fun w hw => ?_)
    exact ⟨vk, rfl, by have := hw; rw [hk, List.take_length] at this; exact this⟩

end Go.Proofs.YtoiebgnmknbkjaaDoor
