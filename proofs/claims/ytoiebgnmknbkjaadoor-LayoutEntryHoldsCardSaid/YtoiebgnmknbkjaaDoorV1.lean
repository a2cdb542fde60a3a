/- The names: both functions answer what a good name is. -/
import Derived.Test.YtoiebgnmknbkjaaDoorFa
import Derived.Test.YtoiebgnmknbkjaaDoorWv
set_option linter.unusedVariables false
set_option linter.unusedSimpArgs false
namespace Go.Proofs.YtoiebgnmknbkjaaDoor
open Go Go.Wk
theorem str_at {s : ByteArray} {k : Nat} {c : UInt8} (h : s.data.toList[k]? = some c) : s[((k : Int)).toNat]? = some c := by
  obtain ⟨hk, rfl⟩ := List.getElem?_eq_some_iff.1 h
  have hk' : k < s.size := by rw [← size_len]; exact hk
  simp only [Int.toNat_natCast]
  rw [getElem?_pos s k hk']
  rfl

theorem validI_p (s : ByteArray) (w : World) (hlen : s.size ≤ 9223372036854775807) :
    PureC Tryd.prog 130 [.string s] (.bool (validB s)) w := by
  refine enter0 Tryd.func130 rfl Tryd.ntmps130 rfl ?_
  simp only [envOf]
  refine At.seq ?_
  refine At.region ?_
  refine At.val (Val.assign rfl) rfl rfl rfl ?_
  refine At.nil ?_
  refine At.thenN ?_
  refine At.seq ?_
  refine At.seq ?_
  refine At.region ?_
  refine At.val (Val.move rfl) rfl rfl rfl ?_
  refine At.val (Val.lenStr Tryd.underlying9 rfl) rfl rfl rfl ?_
  refine At.val (Val.bin rfl rfl rfl) rfl rfl rfl ?_
  refine At.val (Val.move rfl) rfl rfl rfl ?_
  refine At.split (t := 8) rfl (fun h1 => ?_) (fun h1 => ?_)
  · skip
    refine At.no rfl rfl rfl rfl ?_
    refine At.no rfl rfl rfl rfl ?_
    refine At.no rfl rfl rfl rfl ?_
    refine At.val (Val.pickT rfl rfl) rfl rfl rfl ?_
    refine At.val (Val.move rfl) rfl rfl rfl ?_
    refine At.no rfl rfl rfl rfl ?_
    refine At.no rfl rfl rfl rfl ?_
    refine At.val (Val.pickT rfl rfl) rfl rfl rfl ?_
    refine At.val (Val.move rfl) rfl rfl rfl ?_
    refine At.no rfl rfl rfl rfl ?_
    refine At.no rfl rfl rfl rfl ?_
    refine At.val (Val.pickT rfl rfl) rfl rfl rfl ?_
    refine At.nil ?_
    refine At.thenN ?_
    refine At.condT rfl ?_
    refine At.seq ?_
    refine At.region ?_
    refine At.val (Val.assign rfl) rfl rfl rfl ?_
    refine At.nil ?_
    refine At.thenN ?_
    refine At.retC ?_
    refine At.thenR ?_
    refine At.ret1 (.inl rfl) rfl rfl rfl (fun w hw => ?_)
    exact ⟨by rw [valid_empty ‹_›], hw.mod⟩
  · skip
    refine At.yes rfl rfl ?_
    refine At.val (Val.move rfl) rfl rfl rfl ?_
    refine At.yes rfl rfl ?_
    refine At.val (Val.lenStr Tryd.underlying9 rfl) rfl rfl rfl ?_
    refine At.yes rfl rfl ?_
    refine At.val (Val.bin rfl rfl rfl) rfl rfl rfl ?_
    refine At.val (Val.pickF rfl rfl) rfl rfl rfl ?_
    refine At.val (Val.move rfl) rfl rfl rfl ?_
    refine At.split (t := 13) rfl (fun h2 => ?_) (fun h2 => ?_)
    · skip
      refine At.no rfl rfl rfl rfl ?_
      refine At.no rfl rfl rfl rfl ?_
      refine At.val (Val.pickT rfl rfl) rfl rfl rfl ?_
      refine At.val (Val.move rfl) rfl rfl rfl ?_
      refine At.no rfl rfl rfl rfl ?_
      refine At.no rfl rfl rfl rfl ?_
      refine At.val (Val.pickT rfl rfl) rfl rfl rfl ?_
      refine At.nil ?_
      refine At.thenN ?_
      refine At.condT rfl ?_
      refine At.seq ?_
      refine At.region ?_
      refine At.val (Val.assign rfl) rfl rfl rfl ?_
      refine At.nil ?_
      refine At.thenN ?_
      refine At.retC ?_
      refine At.thenR ?_
      refine At.ret1 (.inl rfl) rfl rfl rfl (fun w hw => ?_)
      exact ⟨by rw [valid_long ‹_›], hw.mod⟩
    · skip
      refine At.yes rfl rfl ?_
      refine At.val (Val.move rfl) rfl rfl rfl ?_
      refine At.yes rfl rfl ?_
      refine At.val (Val.seq_ rfl rfl) rfl rfl rfl ?_
      refine At.val (Val.pickF rfl rfl) rfl rfl rfl ?_
      refine At.val (Val.move rfl) rfl rfl rfl ?_
      refine At.split (t := 17) rfl (fun h3 => ?_) (fun h3 => ?_)
      · skip
        refine At.no rfl rfl rfl rfl ?_
        refine At.no rfl rfl rfl rfl ?_
        refine At.val (Val.pickT rfl rfl) rfl rfl rfl ?_
        refine At.nil ?_
        refine At.thenN ?_
        refine At.condT rfl ?_
        refine At.seq ?_
        refine At.region ?_
        refine At.val (Val.assign rfl) rfl rfl rfl ?_
        refine At.nil ?_
        refine At.thenN ?_
        refine At.retC ?_
        refine At.thenR ?_
        refine At.ret1 (.inl rfl) rfl rfl rfl (fun w hw => ?_)
        exact ⟨by rw [valid_dot ‹_›], hw.mod⟩
      · skip
        refine At.yes rfl rfl ?_
        refine At.val (Val.move rfl) rfl rfl rfl ?_
        refine At.yes rfl rfl ?_
        refine At.val (Val.seq_ rfl rfl) rfl rfl rfl ?_
        refine At.val (Val.pickF rfl rfl) rfl rfl rfl ?_
        refine At.nil ?_
        refine At.thenN ?_
        refine At.cond rfl (fun h4 => ?_) (fun h4 => ?_)
        · skip
          refine At.seq ?_
          refine At.region ?_
          refine At.val (Val.assign rfl) rfl rfl rfl ?_
          refine At.nil ?_
          refine At.thenN ?_
          refine At.retC ?_
          refine At.thenR ?_
          refine At.ret1 (.inl rfl) rfl rfl rfl (fun w hw => ?_)
          exact ⟨by rw [valid_dots ‹_›], hw.mod⟩
        · skip
          refine At.skipC ?_
          refine At.thenN ?_
          refine At.seq ?_
          refine At.seq ?_
          refine At.region ?_
          refine At.val (Val.move rfl) rfl rfl rfl ?_
          refine At.strBytes (us := .string) Tryd.underlying9 Tryd.underlying54 Tryd.underlying5 rfl rfl (fun b5 c6 sp7 => ?_)
          refine At.val (Val.len (bt := #[]) Tryd.underlying54 rfl) rfl rfl rfl ?_
          refine At.val (Val.move rfl) rfl rfl rfl ?_
          refine At.nil ?_
          refine At.thenN ?_
          refine At.block ?_
          skip
          refine At.loop (σ := Nat) (fun k => k ≤ s.size ∧ (s.data.toList.take k).all okc = true) (fun k => [(22, .slice (some ⟨b5, 0, none⟩) s.size c6), (23, .int .i64 s.size), (24, .int .i64 k)]) (fun k => [blk b5 5 (s.data.toList.map bv ++ sp7)]) (fun k => s.size - k) 0 ⟨Nat.zero_le _, rfl⟩ (Sub.cons rfl (Sub.cons rfl (Sub.cons rfl Sub.nil))) (List.Perm.refl _) ?_
          intro k hs
          obtain ⟨hs1, hs2⟩ := hs
          refine At.seq ?_
          refine At.region ?_
          refine At.val (Val.bin rfl rfl rfl) rfl rfl rfl ?_
          refine At.nil ?_
          refine At.thenN ?_
          refine At.seq ?_
          refine At.cond rfl (fun h8 => ?_) (fun h8 => ?_)
          · skip
            have hk : k < s.size := by simpa using h8
            obtain ⟨c', hc'⟩ : ∃ c', s.data.toList[k]? = some c' := ⟨_, List.getElem?_eq_getElem (by rw [size_len]; exact hk)⟩
            refine At.skipC ?_
            refine At.thenN ?_
            refine At.seq ?_
            refine At.block ?_
            refine At.seq ?_
            refine At.region ?_
            refine At.val (Val.indexSl k (by simp) Tryd.underlying54 Tryd.sizeOf5 rfl rfl (by omega) (by omega)) rfl rfl rfl ?_
            refine At.val (Val.load (i := 0) Tryd.isAgg5 rfl rfl (by rw [List.getElem?_append_left (by simp; exact hk), List.getElem?_map, hc']; rfl)) rfl rfl rfl ?_
            refine At.val (Val.assign rfl) rfl rfl rfl ?_
            refine At.nil ?_
            refine At.thenN ?_
            refine At.seq ?_
            refine At.region ?_
            refine At.val (Val.move rfl) rfl rfl rfl ?_
            refine At.val (Val.bin rfl rfl rfl) rfl rfl rfl ?_
            refine At.val (Val.move rfl) rfl rfl rfl ?_
            refine At.split (t := 30) rfl (fun h9 => ?_) (fun h9 => ?_)
            · skip
              refine At.no rfl rfl rfl rfl ?_
              refine At.no rfl rfl rfl rfl ?_
              refine At.val (Val.pickT rfl rfl) rfl rfl rfl ?_
              refine At.nil ?_
              refine At.thenN ?_
              refine At.condT rfl ?_
              refine At.seq ?_
              refine At.region ?_
              refine At.val (Val.assign rfl) rfl rfl rfl ?_
              refine At.nil ?_
              refine At.thenN ?_
              refine At.retC ?_
              refine At.blkR ?_
              refine At.thenR ?_
              refine At.thenR ?_
              refine At.blkR ?_
              refine At.thenR ?_
              refine At.ret1 (.inl rfl) rfl rfl rfl (fun w hw => ?_)
              exact ⟨by rw [valid_bad hc' (okc_0 ‹_›)], hw.mod⟩
            · skip
              refine At.yes rfl rfl ?_
              refine At.val (Val.move rfl) rfl rfl rfl ?_
              refine At.yes rfl rfl ?_
              refine At.val (Val.bin rfl rfl rfl) rfl rfl rfl ?_
              refine At.val (Val.pickF rfl rfl) rfl rfl rfl ?_
              refine At.nil ?_
              refine At.thenN ?_
              refine At.cond rfl (fun h10 => ?_) (fun h10 => ?_)
              · skip
                refine At.seq ?_
                refine At.region ?_
                refine At.val (Val.assign rfl) rfl rfl rfl ?_
                refine At.nil ?_
                refine At.thenN ?_
                refine At.retC ?_
                refine At.blkR ?_
                refine At.thenR ?_
                refine At.thenR ?_
                refine At.blkR ?_
                refine At.thenR ?_
                refine At.ret1 (.inl rfl) rfl rfl rfl (fun w hw => ?_)
                exact ⟨by rw [valid_bad hc' (okc_47 ‹_›)], hw.mod⟩
              · skip
                refine At.skipC ?_
                refine At.blkN ?_
                refine At.thenN ?_
                refine At.region ?_
                refine At.val (Val.bin rfl rfl rfl) rfl rfl rfl ?_
                refine At.val (Val.move rfl) rfl rfl rfl ?_
                refine At.nil ?_
                refine At.thenN ?_
                exact At.again (k + 1) ⟨by omega, all_take_succ hc' hs2 (okc_yes ‹_› ‹_›)⟩ (by omega) (Sub.cons rfl (Sub.cons rfl (Sub.cons (by rw [wrap_i64 (by omega) (by omega)]; rfl) Sub.nil))) (List.Perm.refl _)
          · skip
            have hk : k = s.size := by have := h8; simp at this; omega
            refine At.exitC ?_
            refine At.thenX ?_
            refine At.thenX ?_
            refine At.blkX ?_
            refine At.thenN ?_
            refine At.seq ?_
            refine At.region ?_
            refine At.val (Val.assign rfl) rfl rfl rfl ?_
            refine At.nil ?_
            refine At.thenN ?_
            refine At.retC ?_
            refine At.ret1 (.inl rfl) rfl rfl rfl (fun w hw => ?_)
            exact ⟨by rw [valid_all ‹_› ‹_› ‹_› ‹_› (by rw [hk, ← size_len, List.take_length] at hs2; exact hs2)], hw.mod⟩

theorem validR_p (s : ByteArray) (w : World) (hlen : s.size ≤ 9223372036854775807) :
    PureC Tryd.prog 132 [.string s] (.bool (validB s)) w := by
  refine enter0 Tryd.func132 rfl Tryd.ntmps132 rfl ?_
  simp only [envOf]
  refine At.seq ?_
  refine At.region ?_
  refine At.val (Val.assign rfl) rfl rfl rfl ?_
  refine At.nil ?_
  refine At.thenN ?_
  refine At.seq ?_
  refine At.seq ?_
  refine At.region ?_
  refine At.val (Val.move rfl) rfl rfl rfl ?_
  refine At.val (Val.seq_ rfl rfl) rfl rfl rfl ?_
  refine At.val (Val.move rfl) rfl rfl rfl ?_
  refine At.split (t := 6) rfl (fun h1 => ?_) (fun h1 => ?_)
  · skip
    refine At.no rfl rfl rfl rfl ?_
    refine At.no rfl rfl rfl rfl ?_
    refine At.val (Val.pickT rfl rfl) rfl rfl rfl ?_
    refine At.val (Val.move rfl) rfl rfl rfl ?_
    refine At.no rfl rfl rfl rfl ?_
    refine At.no rfl rfl rfl rfl ?_
    refine At.val (Val.pickT rfl rfl) rfl rfl rfl ?_
    refine At.val (Val.move rfl) rfl rfl rfl ?_
    refine At.no rfl rfl rfl rfl ?_
    refine At.no rfl rfl rfl rfl ?_
    refine At.no rfl rfl rfl rfl ?_
    refine At.val (Val.pickT rfl rfl) rfl rfl rfl ?_
    refine At.nil ?_
    refine At.thenN ?_
    refine At.condT rfl ?_
    refine At.seq ?_
    refine At.region ?_
    refine At.val (Val.assign rfl) rfl rfl rfl ?_
    refine At.nil ?_
    refine At.thenN ?_
    refine At.retC ?_
    refine At.thenR ?_
    refine At.ret1 (.inl rfl) rfl rfl rfl (fun w hw => ?_)
    exact ⟨by rw [valid_emptyL ‹_›], hw.mod⟩
  · skip
    refine At.yes rfl rfl ?_
    refine At.val (Val.move rfl) rfl rfl rfl ?_
    refine At.yes rfl rfl ?_
    refine At.val (Val.seq_ rfl rfl) rfl rfl rfl ?_
    refine At.val (Val.pickF rfl rfl) rfl rfl rfl ?_
    refine At.val (Val.move rfl) rfl rfl rfl ?_
    refine At.split (t := 10) rfl (fun h2 => ?_) (fun h2 => ?_)
    · skip
      refine At.no rfl rfl rfl rfl ?_
      refine At.no rfl rfl rfl rfl ?_
      refine At.val (Val.pickT rfl rfl) rfl rfl rfl ?_
      refine At.val (Val.move rfl) rfl rfl rfl ?_
      refine At.no rfl rfl rfl rfl ?_
      refine At.no rfl rfl rfl rfl ?_
      refine At.no rfl rfl rfl rfl ?_
      refine At.val (Val.pickT rfl rfl) rfl rfl rfl ?_
      refine At.nil ?_
      refine At.thenN ?_
      refine At.condT rfl ?_
      refine At.seq ?_
      refine At.region ?_
      refine At.val (Val.assign rfl) rfl rfl rfl ?_
      refine At.nil ?_
      refine At.thenN ?_
      refine At.retC ?_
      refine At.thenR ?_
      refine At.ret1 (.inl rfl) rfl rfl rfl (fun w hw => ?_)
      exact ⟨by rw [valid_dot ‹_›], hw.mod⟩
    · skip
      refine At.yes rfl rfl ?_
      refine At.val (Val.move rfl) rfl rfl rfl ?_
      refine At.yes rfl rfl ?_
      refine At.val (Val.seq_ rfl rfl) rfl rfl rfl ?_
      refine At.val (Val.pickF rfl rfl) rfl rfl rfl ?_
      refine At.val (Val.move rfl) rfl rfl rfl ?_
      refine At.split (t := 14) rfl (fun h3 => ?_) (fun h3 => ?_)
      · skip
        refine At.no rfl rfl rfl rfl ?_
        refine At.no rfl rfl rfl rfl ?_
        refine At.no rfl rfl rfl rfl ?_
        refine At.val (Val.pickT rfl rfl) rfl rfl rfl ?_
        refine At.nil ?_
        refine At.thenN ?_
        refine At.condT rfl ?_
        refine At.seq ?_
        refine At.region ?_
        refine At.val (Val.assign rfl) rfl rfl rfl ?_
        refine At.nil ?_
        refine At.thenN ?_
        refine At.retC ?_
        refine At.thenR ?_
        refine At.ret1 (.inl rfl) rfl rfl rfl (fun w hw => ?_)
        exact ⟨by rw [valid_dots ‹_›], hw.mod⟩
      · skip
        refine At.yes rfl rfl ?_
        refine At.val (Val.move rfl) rfl rfl rfl ?_
        refine At.yes rfl rfl ?_
        refine At.val (Val.lenStr Tryd.underlying9 rfl) rfl rfl rfl ?_
        refine At.yes rfl rfl ?_
        refine At.val (Val.bin rfl rfl rfl) rfl rfl rfl ?_
        refine At.val (Val.pickF rfl rfl) rfl rfl rfl ?_
        refine At.nil ?_
        refine At.thenN ?_
        refine At.cond rfl (fun h4 => ?_) (fun h4 => ?_)
        · skip
          refine At.seq ?_
          refine At.region ?_
          refine At.val (Val.assign rfl) rfl rfl rfl ?_
          refine At.nil ?_
          refine At.thenN ?_
          refine At.retC ?_
          refine At.thenR ?_
          refine At.ret1 (.inl rfl) rfl rfl rfl (fun w hw => ?_)
          exact ⟨by rw [valid_long ‹_›], hw.mod⟩
        · skip
          refine At.skipC ?_
          refine At.thenN ?_
          refine At.seq ?_
          refine At.seq ?_
          refine At.region ?_
          refine At.val (Val.assign rfl) rfl rfl rfl ?_
          refine At.nil ?_
          refine At.thenN ?_
          refine At.block ?_
          skip
          refine At.loop (σ := Nat) (fun k => k ≤ s.size ∧ (s.data.toList.take k).all okc = true) (fun k => [(0, .string s), (3, .int .i64 k)]) (fun k => []) (fun k => s.size - k) 0 ⟨Nat.zero_le _, rfl⟩ (Sub.cons rfl (Sub.cons rfl Sub.nil)) (List.Perm.refl _) ?_
          intro k hs
          obtain ⟨hs1, hs2⟩ := hs
          refine At.seq ?_
          refine At.seq ?_
          refine At.region ?_
          refine At.val (Val.move rfl) rfl rfl rfl ?_
          refine At.val (Val.move rfl) rfl rfl rfl ?_
          refine At.val (Val.lenStr Tryd.underlying9 rfl) rfl rfl rfl ?_
          refine At.val (Val.bin rfl rfl rfl) rfl rfl rfl ?_
          refine At.nil ?_
          refine At.thenN ?_
          refine At.cond rfl (fun h5 => ?_) (fun h5 => ?_)
          · skip
            have hk : k < s.size := by simpa using h5
            obtain ⟨c', hc'⟩ : ∃ c', s.data.toList[k]? = some c' := ⟨_, List.getElem?_eq_getElem (by rw [size_len]; exact hk)⟩
            refine At.skipC ?_
            refine At.thenN ?_
            refine At.seq ?_
            refine At.block ?_
            refine At.seq ?_
            refine At.region ?_
            refine At.val (Val.move rfl) rfl rfl rfl ?_
            refine At.val (Val.move rfl) rfl rfl rfl ?_
            refine At.val (Val.indexStr Tryd.underlying9 rfl rfl (by omega) (str_at hc')) rfl rfl rfl ?_
            refine At.val (Val.bin rfl rfl rfl) rfl rfl rfl ?_
            refine At.val (Val.move rfl) rfl rfl rfl ?_
            refine At.split (t := 29) rfl (fun h6 => ?_) (fun h6 => ?_)
            · skip
              refine At.no rfl rfl rfl rfl ?_
              refine At.no rfl rfl rfl rfl ?_
              refine At.no rfl rfl rfl rfl ?_
              refine At.no rfl rfl rfl rfl ?_
              refine At.val (Val.pickT rfl rfl) rfl rfl rfl ?_
              refine At.nil ?_
              refine At.thenN ?_
              refine At.condT rfl ?_
              refine At.seq ?_
              refine At.region ?_
              refine At.val (Val.assign rfl) rfl rfl rfl ?_
              refine At.nil ?_
              refine At.thenN ?_
              refine At.retC ?_
              refine At.blkR ?_
              refine At.thenR ?_
              refine At.thenR ?_
              refine At.blkR ?_
              refine At.thenR ?_
              refine At.ret1 (.inl rfl) rfl rfl rfl (fun w hw => ?_)
              exact ⟨by rw [valid_bad hc' (okc_0 ‹_›)], hw.mod⟩
            · skip
              refine At.yes rfl rfl ?_
              refine At.val (Val.move rfl) rfl rfl rfl ?_
              refine At.yes rfl rfl ?_
              refine At.val (Val.move rfl) rfl rfl rfl ?_
              refine At.yes rfl rfl ?_
              refine At.val (Val.indexStr Tryd.underlying9 rfl rfl (by omega) (str_at hc')) rfl rfl rfl ?_
              refine At.yes rfl rfl ?_
              refine At.val (Val.bin rfl rfl rfl) rfl rfl rfl ?_
              refine At.val (Val.pickF rfl rfl) rfl rfl rfl ?_
              refine At.nil ?_
              refine At.thenN ?_
              refine At.cond rfl (fun h7 => ?_) (fun h7 => ?_)
              · skip
                refine At.seq ?_
                refine At.region ?_
                refine At.val (Val.assign rfl) rfl rfl rfl ?_
                refine At.nil ?_
                refine At.thenN ?_
                refine At.retC ?_
                refine At.blkR ?_
                refine At.thenR ?_
                refine At.thenR ?_
                refine At.blkR ?_
                refine At.thenR ?_
                refine At.ret1 (.inl rfl) rfl rfl rfl (fun w hw => ?_)
                exact ⟨by rw [valid_bad hc' (okc_47 ‹_›)], hw.mod⟩
              · skip
                refine At.skipC ?_
                refine At.blkN ?_
                refine At.thenN ?_
                refine At.region ?_
                refine At.val (Val.move rfl) rfl rfl rfl ?_
                refine At.val (Val.bin rfl rfl rfl) rfl rfl rfl ?_
                refine At.val (Val.assign rfl) rfl rfl rfl ?_
                refine At.nil ?_
                refine At.thenN ?_
                exact At.again (k + 1) ⟨by omega, all_take_succ hc' hs2 (okc_yes ‹_› ‹_›)⟩ (by omega) (Sub.cons rfl (Sub.cons (by rw [wrap_i64 (by omega) (by omega)]; rfl) Sub.nil)) (List.Perm.refl _)
          · skip
            have hk : k = s.size := by have := h5; simp at this; omega
            refine At.exitC ?_
            refine At.thenX ?_
            refine At.thenX ?_
            refine At.blkX ?_
            refine At.thenN ?_
            refine At.seq ?_
            refine At.region ?_
            refine At.val (Val.assign rfl) rfl rfl rfl ?_
            refine At.nil ?_
            refine At.thenN ?_
            refine At.retC ?_
            refine At.ret1 (.inl rfl) rfl rfl rfl (fun w hw => ?_)
            exact ⟨by rw [valid_all (notEmpty_of ‹_›) ‹_› ‹_› ‹_› (by rw [hk, ← size_len, List.take_length] at hs2; exact hs2)], hw.mod⟩

end Go.Proofs.YtoiebgnmknbkjaaDoor
