/- The document's lines. -/
import Derived.Test.YtoiebgnmknbkjaaDoorB3
set_option linter.unusedVariables false
set_option linter.unusedSimpArgs false
namespace Go.Proofs.YtoiebgnmknbkjaaDoor
open Go Go.Wk
theorem filled_p (v : Value) (l : List UInt8) (n : Nat) (w : World) (ho : w.ownsRow 0 5 1 v l.length (l.map bv)) (hlen : l.length ≤ 140737488355328) (hn : n ≤ 140737488355328) :
    RowUpd Tryd.prog 117 [v, .int .i64 (n : Int)] v 5 1 l.length (l.map bv) (l ++ zs (n - l.length)).length ((l ++ zs (n - l.length)).map bv) w := by
  refine enter (feet [brow 5 v l]) [brow 5 v l] Tryd.func117 rfl Tryd.ntmps117 rfl (Rep.one ho) ?_
  simp only [envOf]
  refine At.seq ?_
  refine At.region ?_
  refine At.val (Val.assign rfl) rfl rfl rfl ?_
  refine At.nil ?_
  refine At.thenN ?_
  refine At.seq ?_
  refine At.block ?_
  skip
  refine At.loop (σ := Nat × Value) (fun s => s.1 ≤ n - l.length) (fun s => [(0, s.2), (1, .int .i64 (n : Int))]) (fun s => [brow 5 s.2 (l ++ zs s.1)]) (fun s => n - l.length - s.1) (0, v) (Nat.zero_le _) (Sub.cons rfl (Sub.cons rfl Sub.nil)) (by simp [zs]) ?_
  intro s hs
  obtain ⟨k, vk⟩ := s
  dsimp only at hs ⊢
  refine At.seq ?_
  refine At.seq ?_
  refine At.region ?_
  refine At.val (Val.move rfl) rfl rfl rfl ?_
  refine At.val (Val.lenRow (i := 0) Tryd.underlying54 rfl rfl) rfl rfl rfl ?_
  refine At.val (Val.move rfl) rfl rfl rfl ?_
  refine At.val (Val.bin rfl rfl rfl) rfl rfl rfl ?_
  refine At.nil ?_
  refine At.thenN ?_
  refine At.cond rfl (fun h1 => ?_) (fun h1 => ?_)
  · skip
    have hk : l.length + k < n := by have := h1; simp [zs_length] at this; omega
    refine At.skipC ?_
    refine At.thenN ?_
    refine At.block ?_
    refine At.region ?_
    refine At.val (Val.move rfl) rfl rfl rfl ?_
    refine At.buildSl (fun a ha => by simp only [List.map_toArray, List.map_cons, List.map_nil, ha.eval (x := (.const (.int .u8 (0)))) rfl]; try rfl) (bs_54_1 _ ) rfl (fun b2 => ?_)
    refine At.append (i := 1) (sz := 1) (by_ := 1) Tryd.underlying54 info_5 rfl rfl rfl rfl rfl rfl rfl rfl rfl (fun w hw j u hj => by rw [Nat.zero_add]; exact ((hw.blk (i := 0) rfl).cell j).trans hj) (by simp [Value.oneCell']) (by rw [List.length_append, zs_length]; omega) (by rw [List.length_append, zs_length]; omega) rfl (fun v3 => ?_)
    simp only [List.set_cons_zero, List.set_cons_succ]
    refine At.drop 0 ?_
    simp only [List.eraseIdx_cons_zero, List.eraseIdx_cons_succ]
    refine At.val (Val.assign rfl) rfl rfl rfl ?_
    refine At.nil ?_
    rw [show Value.int .u8 0 = bv 0 from rfl, brow_snoc, List.append_assoc, zs_succ]
    refine At.blkN ?_
    refine At.thenN ?_
    exact At.again (k + 1, v3) (show k + 1 ≤ _ by omega) (by dsimp only; omega) (Sub.cons rfl (Sub.cons rfl Sub.nil)) (List.Perm.refl _)
  · skip
    have hk : k = n - l.length := by have := h1; simp [zs_length] at this; omega
    refine At.exitC ?_
    refine At.thenX ?_
    refine At.thenX ?_
    refine At.blkX ?_
    refine At.thenN ?_
    refine At.seq ?_
    refine At.region ?_
    refine At.val (Val.move rfl) rfl rfl rfl ?_
    refine At.val (Val.assign rfl) rfl rfl rfl ?_
    refine At.nil ?_
    refine At.thenN ?_
    refine At.retC ?_
    refine At.ret1 (.inl rfl) rfl rfl rfl (fun w hw => ?_)
    exact ⟨vk, rfl, by have := hw; rw [hk] at this; exact this⟩

theorem line_p (v : Value) (l : List UInt8) (w : World) (ho : w.ownsRow 0 5 1 v l.length (l.map bv)) (hlen : l.length ≤ 60) :
    Use Tryd.prog 80 [v] (brow 5 v l) (lineV l) w := by
  refine enter (feet [brow 5 v l]) [brow 5 v l] Tryd.func80 rfl Tryd.ntmps80 rfl (Rep.one ho) ?_
  have hL := lineL_row hlen
  have hL4 := lineL_length hlen
  have h60 : (l ++ zs (60 - l.length)).length = 60 := by simp [zs]; omega
  simp only [envOf]
  refine At.seq ?_
  refine At.region ?_
  refine At.alloc zero_30 zc_30 rfl (fun b1 => ?_)
  refine At.nil ?_
  refine At.thenN ?_
  refine At.seq ?_
  refine At.region ?_
  refine At.val (Val.move rfl) rfl rfl rfl ?_
  refine At.callR 1 rfl (fun w hw hr => filled_p _ _ 60 w hr (by omega) (by decide)) Tryd.call117 rfl rfl (fun v2 => ?_)
  simp only [List.set_cons_zero, List.set_cons_succ]
  refine At.val (Val.assign rfl) rfl rfl rfl ?_
  refine At.nil ?_
  refine At.rowIs (i := 1) rfl (fun A3 c4 hv => ?_)
  subst hv
  refine At.thenN ?_
  refine At.seq ?_
  refine At.region ?_
  refine At.val (Val.move rfl) rfl rfl rfl ?_
  refine At.callP (fun w hw => rsum_n A3 (l ++ zs (60 - l.length)) _ c4 w rfl (row_bytes (hw.row (i := 1) rfl)) (by omega)) Tryd.call106 rfl rfl ?_
  refine At.val (Val.assign rfl) rfl rfl rfl ?_
  refine At.nil ?_
  refine At.thenN ?_
  refine At.seq ?_
  refine At.region ?_
  refine At.val (Val.move rfl) rfl rfl rfl ?_
  refine At.val (Val.move rfl) rfl rfl rfl ?_
  refine At.val (Val.conv Tryd.underlying48 Tryd.underlying40 rfl) rfl rfl rfl ?_
  rw [wrap_u64 (n := ((sumOn 0 (l ++ zs (60 - l.length))).toNat : Int)) (by omega) (by have := (sumOn 0 (l ++ zs (60 - l.length))).isLt; omega)]
  refine At.callR 1 rfl (fun w hw hr => rlay_p _ _ _ 4 w hr (by have := (sumOn 0 (l ++ zs (60 - l.length))).isLt; omega) (by decide) (by omega)) Tryd.call79 rfl rfl (fun v5 => ?_)
  simp only [List.set_cons_zero, List.set_cons_succ]
  refine At.val (Val.assign rfl) rfl rfl rfl ?_
  refine At.nil ?_
  rw [← hL]
  refine At.thenN ?_
  refine At.seq ?_
  refine At.region ?_
  refine At.alloc zero_30 zc_30 rfl (fun b6 => ?_)
  refine At.nil ?_
  refine At.thenN ?_
  refine At.seq ?_
  refine At.seq ?_
  refine At.region ?_
  refine At.val (Val.assign rfl) rfl rfl rfl ?_
  refine At.nil ?_
  refine At.thenN ?_
  refine At.block ?_
  skip
  refine At.loop (σ := Nat) (fun k => k ≤ 64) (fun k => [(0, v5), (2, .pointer (some ⟨b1, 0, none⟩)), (4, .pointer (some ⟨b6, 0, none⟩)), (5, .int .i64 (k : Int))]) (fun k => [blk b6 30 ((fillTo (lineL l) (zs 64) k).map bv), blk b1 30 (List.replicate 64 (Value.int .u8 0)), rowR v5 5 1 ((lineL l).length) ((lineL l).map bv)]) (fun k => 64 - k) 0 (by omega) (Sub.cons rfl (Sub.cons rfl (Sub.cons rfl (Sub.cons rfl Sub.nil)))) (List.Perm.refl _) ?_
  intro k hs
  refine At.seq ?_
  refine At.seq ?_
  refine At.region ?_
  refine At.val (Val.move rfl) rfl rfl rfl ?_
  refine At.val (Val.bin rfl rfl rfl) rfl rfl rfl ?_
  refine At.nil ?_
  refine At.thenN ?_
  refine At.cond rfl (fun h7 => ?_) (fun h7 => ?_)
  · skip
    have hk : k < 64 := by have := h7; simp at this; omega
    obtain ⟨c, hc⟩ : ∃ c, (lineL l)[k]? = some c := ⟨_, List.getElem?_eq_getElem (by omega)⟩
    refine At.skipC ?_
    refine At.thenN ?_
    refine At.seq ?_
    refine At.block ?_
    refine At.region ?_
    refine At.val (Val.move rfl) rfl rfl rfl ?_
    refine At.val (Val.move rfl) rfl rfl rfl ?_
    refine At.val (Val.move rfl) rfl rfl rfl ?_
    refine At.val (Val.indexRow (i := 2) k (by simp) Tryd.underlying54 Tryd.sizeOf5 rfl rfl rfl (by omega) (by omega)) rfl rfl rfl ?_
    refine At.val (Val.loadRow (i := 2) (u := bv c) Tryd.isAgg5 rfl rfl (by rw [List.getElem?_map, hc]; rfl)) rfl rfl rfl ?_
    refine At.val (Val.indexArr k (by simp) Tryd.underlying30 Tryd.sizeOf5 rfl rfl (by omega) (by omega)) rfl rfl rfl ?_
    refine At.store (i := 0) (v := bv c) Tryd.sizeOf5 rfl rfl rfl rfl (by rw [fill_len (by simp [hL4, zs_length]), hL4]; exact hk) ?_
    simp only [List.set_cons_zero, List.set_cons_succ]
    rw [fill_step hc (by simp [hL4, zs_length])]
    refine At.nil ?_
    refine At.blkN ?_
    refine At.thenN ?_
    refine At.region ?_
    refine At.val (Val.move rfl) rfl rfl rfl ?_
    refine At.val (Val.bin rfl rfl rfl) rfl rfl rfl ?_
    refine At.val (Val.assign rfl) rfl rfl rfl ?_
    refine At.nil ?_
    refine At.thenN ?_
    exact At.again (k + 1) (by omega) (by omega) (Sub.cons rfl (Sub.cons rfl (Sub.cons rfl (Sub.cons (congrArg (fun z => some (Value.int IntKind.i64 z)) (wrap_i64 (by omega) (by omega))) Sub.nil)))) (List.Perm.refl _)
  · skip
    have hk : k = 64 := by have := h7; simp at this; omega
    refine At.exitC ?_
    refine At.thenX ?_
    refine At.thenX ?_
    refine At.blkX ?_
    refine At.thenN ?_
    refine At.seq ?_
    refine At.region ?_
    refine At.val (Val.loadAll (i := 0) Tryd.isAgg30 Tryd.sizeOf30 rfl rfl (by rw [fill_len (by simp [hL4, zs_length]), hL4])) rfl rfl rfl ?_
    refine At.storeAll (i := 1) Tryd.sizeOf30 rfl rfl (by rw [fill_len (by simp [hL4, zs_length]), hL4]) (by simp [Value.oneCell']) rfl (by simp) ?_
    simp only [List.set_cons_zero, List.set_cons_succ]
    refine At.nil ?_
    refine At.thenN ?_
    refine At.retC ?_
    refine At.ret1 (.inl rfl) rfl rfl (ResOf.all (i := 1) Tryd.isAgg30 Tryd.sizeOf30 rfl rfl (by rw [fill_len (by simp [hL4, zs_length]), hL4])) (fun w hw => ?_)
    exact ⟨by rw [hk, fillTo_all hL4 (zs_length 64)]; rfl, hw.drop (List.nil_sublist _)⟩

end Go.Proofs.YtoiebgnmknbkjaaDoor
