/- The eye. -/
import Derived.Test.YtoiebgnmknbkjaaDoorB6
import Derived.Test.YtoiebgnmknbkjaaDoorPa
set_option linter.unusedVariables false
set_option linter.unusedSimpArgs false
namespace Go.Proofs.YtoiebgnmknbkjaaDoor
open Go Go.Wk
theorem eyeNumber_p (b L o c at' n : Nat) (l : List UInt8) (w : World) (hh : Holds w b 139 (eyeC L o l.length c at')) (hb : Bytes w (some ⟨L, o, none⟩) l) (hne : L ≠ b) (hc : l.length ≤ c) (hm : l.length ≤ 140737488355328) (hn : at' + n ≤ l.length) (h8 : n ≤ 8) :
    Upd Tryd.prog 108 [.pointer (some ⟨b, 0, none⟩), .int .i64 (n : Int)] (blk b 139 (eyeC L o l.length c at')) (.int .u64 (num l at' n : Nat)) (blk b 139 (eyeC L o l.length c (at' + n))) w := by
  refine enter (feet [(blk b 139 (eyeC L o l.length c at'))]) [(blk b 139 (eyeC L o l.length c at'))] Tryd.func108 rfl Tryd.ntmps108 rfl (Rep.one hh) ?_
  have hS : ¬ feet [(blk b 139 (eyeC L o l.length c at'))] L := fun ⟨r, hr, hx⟩ => by rcases List.mem_singleton.1 hr with rfl; exact hne hx
  simp only [envOf]
  refine At.seq ?_
  refine At.region ?_
  refine At.val (Val.assign rfl) rfl rfl rfl ?_
  refine At.nil ?_
  refine At.thenN ?_
  refine At.seq ?_
  refine At.region ?_
  refine At.val (Val.assign rfl) rfl rfl rfl ?_
  refine At.nil ?_
  refine At.thenN ?_
  refine At.seq ?_
  refine At.seq ?_
  refine At.region ?_
  refine At.val (Val.move rfl) rfl rfl rfl ?_
  refine At.val (Val.move rfl) rfl rfl rfl ?_
  refine At.nil ?_
  refine At.thenN ?_
  refine At.block ?_
  skip
  refine At.loop (σ := Nat) (fun k => k ≤ n) (fun k => [(0, .pointer (some ⟨b, 0, none⟩)), (1, .int .i64 (n : Int)), (5, .int .u64 (num l at' k : Nat)), (7, .int .i64 (n : Int)), (8, .int .i64 (k : Int))]) (fun k => [blk b 139 (eyeC L o l.length c at')]) (fun k => n - k) 0 (Nat.zero_le _) (Sub.cons rfl (Sub.cons rfl (Sub.cons (congrArg (fun z => some (Value.int IntKind.u64 z)) (by rw [num_zero]; rfl)) (Sub.cons rfl (Sub.cons rfl Sub.nil))))) (List.Perm.refl _) ?_
  intro k hs
  refine At.seq ?_
  refine At.region ?_
  refine At.val (Val.bin rfl rfl rfl) rfl rfl rfl ?_
  refine At.nil ?_
  refine At.thenN ?_
  refine At.seq ?_
  refine At.cond rfl (fun h1 => ?_) (fun h1 => ?_)
  · skip
    have hk : k < n := by have := h1; simp at this; omega
    obtain ⟨u, hu⟩ : ∃ u, l[at' + k]? = some u := ⟨_, List.getElem?_eq_getElem (by omega)⟩
    obtain ⟨b', o', hbo, hcell⟩ := hb _ _ hu
    simp only [Option.some.injEq, Addr.mk.injEq] at hbo
    obtain ⟨rfl, rfl, _⟩ := hbo
    refine At.skipC ?_
    refine At.thenN ?_
    refine At.seq ?_
    refine At.block ?_
    refine At.seq ?_
    refine At.region ?_
    refine At.val (Val.move rfl) rfl rfl rfl ?_
    refine At.val (Val.assign rfl) rfl rfl rfl ?_
    refine At.nil ?_
    refine At.thenN ?_
    refine At.quiet rfl (by decide +kernel) ?_
    refine QAt.val (Val.move rfl) rfl rfl rfl ?_
    refine QAt.val (Val.move rfl) rfl rfl rfl ?_
    refine QAt.val (Val.nilCheck rfl) rfl rfl rfl ?_
    refine QAt.val (Val.field 0 rfl fo_139_0 rfl) rfl rfl rfl ?_
    refine QAt.val (Val.load (i := 0) Tryd.isAgg54 rfl rfl rfl) rfl rfl rfl ?_
    refine QAt.val (Val.move rfl) rfl rfl rfl ?_
    refine QAt.val (Val.nilCheck rfl) rfl rfl rfl ?_
    refine QAt.val (Val.field 1 rfl fo_139_1 rfl) rfl rfl rfl ?_
    refine QAt.val (Val.load (i := 0) Tryd.isAgg3 rfl rfl rfl) rfl rfl rfl ?_
    refine QAt.val (Val.move rfl) rfl rfl rfl ?_
    refine QAt.val (Val.bin rfl rfl rfl) rfl rfl rfl ?_
    rw [wrap_i64 (n := (at' : Int) + (k : Int)) (by omega) (by omega)]
    refine QAt.val (Val.indexSl (o + (at' + k)) (by omega) Tryd.underlying54 Tryd.sizeOf5 rfl rfl (by omega) (by omega)) rfl rfl rfl ?_
    refine QAt.val (Val.loadOld Tryd.isAgg5 rfl hcell hS) rfl rfl rfl ?_
    refine QAt.val (Val.conv Tryd.underlying5 Tryd.underlying40 rfl) rfl rfl rfl ?_
    rw [wrap_u64 (n := (u.toNat : Int)) (by omega) (by have := u.toNat_lt; omega)]
    refine QAt.val (Val.move rfl) rfl rfl rfl ?_
    refine QAt.val (Val.bin rfl rfl rfl) rfl rfl rfl ?_
    rw [wrap_i64 (n := 8 * (k : Int)) (by omega) (by omega)]
    refine QAt.val (Val.shl rfl rfl (by omega)) rfl rfl rfl ?_
    refine QAt.val (Val.bin rfl rfl rfl) rfl rfl rfl ?_
    rw [num_or hu (by omega)]
    refine QAt.val (Val.assign rfl) rfl rfl rfl ?_
    refine QAt.fin ?_
    refine At.blkN ?_
    refine At.thenN ?_
    refine At.region ?_
    refine At.val (Val.bin rfl rfl rfl) rfl rfl rfl ?_
    refine At.val (Val.move rfl) rfl rfl rfl ?_
    refine At.nil ?_
    refine At.thenN ?_
    exact At.again (k + 1) (by omega) (by omega) (Sub.cons rfl (Sub.cons rfl (Sub.cons rfl (Sub.cons rfl (Sub.cons (congrArg (fun z => some (Value.int IntKind.i64 z)) (wrap_i64 (by omega) (by omega))) Sub.nil))))) (List.Perm.refl _)
  · skip
    have hk : k = n := by have := h1; simp at this; omega
    refine At.exitC ?_
    refine At.thenX ?_
    refine At.thenX ?_
    refine At.blkX ?_
    refine At.thenN ?_
    refine At.seq ?_
    refine At.region ?_
    refine At.val (Val.move rfl) rfl rfl rfl ?_
    refine At.val (Val.nilCheck rfl) rfl rfl rfl ?_
    refine At.val (Val.field 1 rfl fo_139_1 rfl) rfl rfl rfl ?_
    refine At.val (Val.load (i := 0) Tryd.isAgg3 rfl rfl rfl) rfl rfl rfl ?_
    refine At.val (Val.move rfl) rfl rfl rfl ?_
    refine At.val (Val.bin rfl rfl rfl) rfl rfl rfl ?_
    rw [wrap_i64 (n := (at' : Int) + (n : Int)) (by omega) (by omega)]
    refine At.val (Val.nilCheck rfl) rfl rfl rfl ?_
    refine At.val (Val.field 1 rfl fo_139_1 rfl) rfl rfl rfl ?_
    refine At.store (i := 0) Tryd.sizeOf3 rfl rfl rfl rfl (by simp) ?_
    simp only [List.set_cons_zero, List.set_cons_succ]
    refine At.nil ?_
    rw [show ([Value.slice (some ⟨L, o, none⟩) l.length c, Value.int .i64 ((at' : Int) + (n : Int))] : List Value) = eyeC L o l.length c (at' + n) from by simp]
    refine At.thenN ?_
    refine At.seq ?_
    refine At.region ?_
    refine At.val (Val.move rfl) rfl rfl rfl ?_
    refine At.val (Val.assign rfl) rfl rfl rfl ?_
    refine At.nil ?_
    refine At.thenN ?_
    refine At.retC ?_
    refine At.ret1 (.inl rfl) rfl rfl rfl (fun w hw => ?_)
    exact ⟨by rw [hk], hw⟩

theorem eyeHalf_p (b L o c at' : Nat) (l : List UInt8) (w : World) (hh : Holds w b 139 (eyeC L o l.length c at')) (hb : Bytes w (some ⟨L, o, none⟩) l) (hne : L ≠ b) (hc : l.length ≤ c) (hm : l.length ≤ 140737488355328) (hn : at' + 4 ≤ l.length) :
    Upd Tryd.prog 87 [.pointer (some ⟨b, 0, none⟩)] (blk b 139 (eyeC L o l.length c at')) (.int .i64 (num l at' 4 : Nat)) (blk b 139 (eyeC L o l.length c (at' + 4))) w := by
  refine enter (feet [(blk b 139 (eyeC L o l.length c at'))]) [(blk b 139 (eyeC L o l.length c at'))] Tryd.func87 rfl Tryd.ntmps87 rfl (Rep.one hh) ?_
  simp only [envOf]
  refine At.seq ?_
  refine At.region ?_
  refine At.val (Val.assign rfl) rfl rfl rfl ?_
  refine At.nil ?_
  refine At.thenN ?_
  refine At.seq ?_
  refine At.region ?_
  refine At.val (Val.move rfl) rfl rfl rfl ?_
  refine At.call1 0 rfl (fun w hw hr => eyeNumber_p b L o c at' 4 l w hr (fun k u hk => by obtain ⟨b', o', h1, h2⟩ := hb k u hk; refine ⟨b', o', h1, hw.oldCell h2 ?_⟩; rintro ⟨r, hr', hx⟩; rcases List.mem_singleton.1 hr' with rfl; simp only [Option.some.injEq, Addr.mk.injEq] at h1; exact hne (h1.1.trans hx)) hne hc hm hn (by decide)) Tryd.call108 rfl rfl ?_
  simp only [List.set_cons_zero, List.set_cons_succ]
  refine At.val (Val.conv Tryd.underlying40 Tryd.underlying3 rfl) rfl rfl rfl ?_
  refine At.val (Val.assign rfl) rfl rfl rfl ?_
  refine At.nil ?_
  refine At.thenN ?_
  refine At.retC ?_
  refine At.ret1 (.inl rfl) rfl rfl rfl (fun w hw => ?_)
  exact ⟨by rw [wrap_i64 (by omega) (by have := num_lt (l := l) at' 4; omega)], hw⟩

theorem eyeZeros_T (b L o c at' n : Nat) (l : List UInt8) (why : Int) (w : World) (hh : Holds w b 139 (eyeC L o l.length c at')) (hb : Bytes w (some ⟨L, o, none⟩) l) (hne : L ≠ b) (hc : l.length ≤ c) (hm : l.length ≤ 140737488355328) (hn : at' + n ≤ l.length) (hz : allZero ((l.drop at').take n)) :
    Upd Tryd.prog 88 [.pointer (some ⟨b, 0, none⟩), .int .i64 (n : Int), .int .i64 why] (blk b 139 (eyeC L o l.length c at')) (.tuple #[]) (blk b 139 (eyeC L o l.length c (at' + n))) w := by
  refine enter (feet [(blk b 139 (eyeC L o l.length c at'))]) [(blk b 139 (eyeC L o l.length c at'))] Tryd.func88 rfl Tryd.ntmps88 rfl (Rep.one hh) ?_
  have hS : ¬ feet [(blk b 139 (eyeC L o l.length c at'))] L := fun ⟨r, hr, hx⟩ => by rcases List.mem_singleton.1 hr with rfl; exact hne hx
  have hX : ((l.drop at').take n).length = n := by simp; omega
  have hbX := cut_bytes (n := n) hb hc hn
  simp only [envOf]
  refine At.seq ?_
  refine At.seq ?_
  refine At.quiet rfl (by decide +kernel) ?_
  refine QAt.val (Val.move rfl) rfl rfl rfl ?_
  refine QAt.val (Val.nilCheck rfl) rfl rfl rfl ?_
  refine QAt.val (Val.field 0 rfl fo_139_0 rfl) rfl rfl rfl ?_
  refine QAt.val (Val.load (i := 0) Tryd.isAgg54 rfl rfl rfl) rfl rfl rfl ?_
  refine QAt.val (Val.move rfl) rfl rfl rfl ?_
  refine QAt.val (Val.nilCheck rfl) rfl rfl rfl ?_
  refine QAt.val (Val.field 1 rfl fo_139_1 rfl) rfl rfl rfl ?_
  refine QAt.val (Val.load (i := 0) Tryd.isAgg3 rfl rfl rfl) rfl rfl rfl ?_
  refine QAt.val (Val.move rfl) rfl rfl rfl ?_
  refine QAt.val (Val.nilCheck rfl) rfl rfl rfl ?_
  refine QAt.val (Val.field 1 rfl fo_139_1 rfl) rfl rfl rfl ?_
  refine QAt.val (Val.load (i := 0) Tryd.isAgg3 rfl rfl rfl) rfl rfl rfl ?_
  refine QAt.val (Val.move rfl) rfl rfl rfl ?_
  refine QAt.val (Val.bin rfl rfl rfl) rfl rfl rfl ?_
  rw [wrap_i64 (n := (at' : Int) + (n : Int)) (by omega) (by omega)]
  refine QAt.val (Val.cutSl at' (at' + n) (if c = at' then o else o + at' * 1) n (c - at') Tryd.underlying54 Tryd.sizeOf5 rfl ⟨_, _, rfl, by omega, by omega⟩ ⟨_, _, rfl, by omega, by omega⟩ (by omega) (by omega) rfl (by omega) rfl) rfl rfl rfl ?_
  refine QAt.val (Val.len (bt := #[]) Tryd.underlying54 rfl) rfl rfl rfl ?_
  refine QAt.val (Val.move rfl) rfl rfl rfl ?_
  refine QAt.fin ?_
  refine At.thenN ?_
  refine At.block ?_
  skip
  refine At.loop (σ := Nat) (fun k => k ≤ n) (fun k => [(0, .pointer (some ⟨b, 0, none⟩)), (1, .int .i64 (n : Int)), (2, .int .i64 why), (22, .slice (some ⟨L, if c = at' then o else o + at' * 1, none⟩) n (c - at')), (23, .int .i64 (n : Int)), (24, .int .i64 (k : Int))]) (fun k => [blk b 139 (eyeC L o l.length c at')]) (fun k => n - k) 0 (Nat.zero_le _) (Sub.cons rfl (Sub.cons rfl (Sub.cons rfl (Sub.cons rfl (Sub.cons rfl (Sub.cons rfl Sub.nil)))))) (List.Perm.refl _) ?_
  intro k hs
  refine At.seq ?_
  refine At.region ?_
  refine At.val (Val.bin rfl rfl rfl) rfl rfl rfl ?_
  refine At.nil ?_
  refine At.thenN ?_
  refine At.seq ?_
  refine At.cond rfl (fun h1 => ?_) (fun h1 => ?_)
  · skip
    have hk : k < n := by have := h1; simp at this; omega
    obtain ⟨u, hu⟩ : ∃ u, ((l.drop at').take n)[k]? = some u := ⟨_, List.getElem?_eq_getElem (by omega)⟩
    obtain ⟨b', o', hbo, hcell⟩ := hbX _ _ hu
    simp only [Option.some.injEq, Addr.mk.injEq] at hbo
    obtain ⟨rfl, rfl, _⟩ := hbo
    refine At.skipC ?_
    refine At.thenN ?_
    refine At.seq ?_
    refine At.block ?_
    refine At.seq ?_
    refine At.region ?_
    refine At.val (Val.indexSl ((if c = at' then o else o + at' * 1) + k) (by omega) Tryd.underlying54 Tryd.sizeOf5 rfl rfl (by omega) (by omega)) rfl rfl rfl ?_
    refine At.val (Val.loadOld Tryd.isAgg5 rfl hcell hS) rfl rfl rfl ?_
    refine At.val (Val.assign rfl) rfl rfl rfl ?_
    refine At.nil ?_
    refine At.thenN ?_
    refine At.region ?_
    refine At.val (Val.move rfl) rfl rfl rfl ?_
    refine At.val (Val.bin rfl rfl rfl) rfl rfl rfl ?_
    refine At.val (Val.move rfl) rfl rfl rfl ?_
    refine At.split (t := 29) rfl (fun h2 => ?_) (fun h2 => ?_)
    · skip
      have hu0 : u = 0 := zero_byte (by simpa using h2)
      refine At.callP (fun w hw => must_T _ w) Tryd.call84 rfl rfl ?_
      refine At.nil ?_
      refine At.blkN ?_
      refine At.thenN ?_
      refine At.region ?_
      refine At.val (Val.bin rfl rfl rfl) rfl rfl rfl ?_
      refine At.val (Val.move rfl) rfl rfl rfl ?_
      refine At.nil ?_
      refine At.thenN ?_
      exact At.again (k + 1) (by omega) (by omega) (Sub.cons rfl (Sub.cons rfl (Sub.cons rfl (Sub.cons rfl (Sub.cons rfl (Sub.cons (congrArg (fun z => some (Value.int IntKind.i64 z)) (wrap_i64 (by omega) (by omega))) Sub.nil)))))) (List.Perm.refl _)
    · skip
      rw [allZero_at hu hz] at h2; exact absurd h2 (by decide)
  · skip
    have hk : k = n := by have := h1; simp at this; omega
    refine At.exitC ?_
    refine At.thenX ?_
    refine At.thenX ?_
    refine At.blkX ?_
    refine At.thenN ?_
    refine At.region ?_
    refine At.val (Val.move rfl) rfl rfl rfl ?_
    refine At.val (Val.nilCheck rfl) rfl rfl rfl ?_
    refine At.val (Val.field 1 rfl fo_139_1 rfl) rfl rfl rfl ?_
    refine At.val (Val.load (i := 0) Tryd.isAgg3 rfl rfl rfl) rfl rfl rfl ?_
    refine At.val (Val.move rfl) rfl rfl rfl ?_
    refine At.val (Val.bin rfl rfl rfl) rfl rfl rfl ?_
    rw [wrap_i64 (n := (at' : Int) + (n : Int)) (by omega) (by omega)]
    refine At.val (Val.nilCheck rfl) rfl rfl rfl ?_
    refine At.val (Val.field 1 rfl fo_139_1 rfl) rfl rfl rfl ?_
    refine At.store (i := 0) Tryd.sizeOf3 rfl rfl rfl rfl (by simp) ?_
    simp only [List.set_cons_zero, List.set_cons_succ]
    refine At.nil ?_
    rw [show ([Value.slice (some ⟨L, o, none⟩) l.length c, Value.int .i64 ((at' : Int) + (n : Int))] : List Value) = eyeC L o l.length c (at' + n) from by simp]
    refine At.ret0 (.inr rfl) rfl rfl  (fun w hw => ?_)
    exact ⟨rfl, hw⟩

theorem eyeZeros_F (b L o c at' n : Nat) (l : List UInt8) (why : Int) (w : World) (hh : Holds w b 139 (eyeC L o l.length c at')) (hb : Bytes w (some ⟨L, o, none⟩) l) (hne : L ≠ b) (hc : l.length ≤ c) (hm : l.length ≤ 140737488355328) (hn : at' + n ≤ l.length) (hz : ¬ allZero ((l.drop at').take n)) :
    Throws1 Tryd.prog 88 [.pointer (some ⟨b, 0, none⟩), .int .i64 (n : Int), .int .i64 why] (blk b 139 (eyeC L o l.length c at')) (brk 178 why) w := by
  refine enter (feet [(blk b 139 (eyeC L o l.length c at'))]) [(blk b 139 (eyeC L o l.length c at'))] Tryd.func88 rfl Tryd.ntmps88 rfl (Rep.one hh) ?_
  have hS : ¬ feet [(blk b 139 (eyeC L o l.length c at'))] L := fun ⟨r, hr, hx⟩ => by rcases List.mem_singleton.1 hr with rfl; exact hne hx
  have hX : ((l.drop at').take n).length = n := by simp; omega
  have hbX := cut_bytes (n := n) hb hc hn
  simp only [envOf]
  refine At.seq ?_
  refine At.seq ?_
  refine At.quiet rfl (by decide +kernel) ?_
  refine QAt.val (Val.move rfl) rfl rfl rfl ?_
  refine QAt.val (Val.nilCheck rfl) rfl rfl rfl ?_
  refine QAt.val (Val.field 0 rfl fo_139_0 rfl) rfl rfl rfl ?_
  refine QAt.val (Val.load (i := 0) Tryd.isAgg54 rfl rfl rfl) rfl rfl rfl ?_
  refine QAt.val (Val.move rfl) rfl rfl rfl ?_
  refine QAt.val (Val.nilCheck rfl) rfl rfl rfl ?_
  refine QAt.val (Val.field 1 rfl fo_139_1 rfl) rfl rfl rfl ?_
  refine QAt.val (Val.load (i := 0) Tryd.isAgg3 rfl rfl rfl) rfl rfl rfl ?_
  refine QAt.val (Val.move rfl) rfl rfl rfl ?_
  refine QAt.val (Val.nilCheck rfl) rfl rfl rfl ?_
  refine QAt.val (Val.field 1 rfl fo_139_1 rfl) rfl rfl rfl ?_
  refine QAt.val (Val.load (i := 0) Tryd.isAgg3 rfl rfl rfl) rfl rfl rfl ?_
  refine QAt.val (Val.move rfl) rfl rfl rfl ?_
  refine QAt.val (Val.bin rfl rfl rfl) rfl rfl rfl ?_
  rw [wrap_i64 (n := (at' : Int) + (n : Int)) (by omega) (by omega)]
  refine QAt.val (Val.cutSl at' (at' + n) (if c = at' then o else o + at' * 1) n (c - at') Tryd.underlying54 Tryd.sizeOf5 rfl ⟨_, _, rfl, by omega, by omega⟩ ⟨_, _, rfl, by omega, by omega⟩ (by omega) (by omega) rfl (by omega) rfl) rfl rfl rfl ?_
  refine QAt.val (Val.len (bt := #[]) Tryd.underlying54 rfl) rfl rfl rfl ?_
  refine QAt.val (Val.move rfl) rfl rfl rfl ?_
  refine QAt.fin ?_
  refine At.thenN ?_
  refine At.block ?_
  skip
  refine At.loop (σ := Nat) (fun k => k ≤ n ∧ allZero (((l.drop at').take n).take k)) (fun k => [(0, .pointer (some ⟨b, 0, none⟩)), (1, .int .i64 (n : Int)), (2, .int .i64 why), (22, .slice (some ⟨L, if c = at' then o else o + at' * 1, none⟩) n (c - at')), (23, .int .i64 (n : Int)), (24, .int .i64 (k : Int))]) (fun k => [blk b 139 (eyeC L o l.length c at')]) (fun k => n - k) 0 ⟨Nat.zero_le _, by simp [allZero]⟩ (Sub.cons rfl (Sub.cons rfl (Sub.cons rfl (Sub.cons rfl (Sub.cons rfl (Sub.cons rfl Sub.nil)))))) (List.Perm.refl _) ?_
  intro k hs
  refine At.seq ?_
  refine At.region ?_
  refine At.val (Val.bin rfl rfl rfl) rfl rfl rfl ?_
  refine At.nil ?_
  refine At.thenN ?_
  refine At.seq ?_
  refine At.cond rfl (fun h1 => ?_) (fun h1 => ?_)
  · skip
    have hk : k < n := by have := h1; simp at this; omega
    obtain ⟨u, hu⟩ : ∃ u, ((l.drop at').take n)[k]? = some u := ⟨_, List.getElem?_eq_getElem (by omega)⟩
    obtain ⟨b', o', hbo, hcell⟩ := hbX _ _ hu
    simp only [Option.some.injEq, Addr.mk.injEq] at hbo
    obtain ⟨rfl, rfl, _⟩ := hbo
    refine At.skipC ?_
    refine At.thenN ?_
    refine At.seq ?_
    refine At.block ?_
    refine At.seq ?_
    refine At.region ?_
    refine At.val (Val.indexSl ((if c = at' then o else o + at' * 1) + k) (by omega) Tryd.underlying54 Tryd.sizeOf5 rfl rfl (by omega) (by omega)) rfl rfl rfl ?_
    refine At.val (Val.loadOld Tryd.isAgg5 rfl hcell hS) rfl rfl rfl ?_
    refine At.val (Val.assign rfl) rfl rfl rfl ?_
    refine At.nil ?_
    refine At.thenN ?_
    refine At.region ?_
    refine At.val (Val.move rfl) rfl rfl rfl ?_
    refine At.val (Val.bin rfl rfl rfl) rfl rfl rfl ?_
    refine At.val (Val.move rfl) rfl rfl rfl ?_
    refine At.split (t := 29) rfl (fun h2 => ?_) (fun h2 => ?_)
    · skip
      have hu0 : u = 0 := zero_byte (by simpa using h2)
      refine At.callP (fun w hw => must_T _ w) Tryd.call84 rfl rfl ?_
      refine At.nil ?_
      refine At.blkN ?_
      refine At.thenN ?_
      refine At.region ?_
      refine At.val (Val.bin rfl rfl rfl) rfl rfl rfl ?_
      refine At.val (Val.move rfl) rfl rfl rfl ?_
      refine At.nil ?_
      refine At.thenN ?_
      exact At.again (k + 1) ⟨by omega, by rw [List.take_add_one, hu]; intro x hx; rcases List.mem_append.1 hx with hx | hx; exact hs.2 x hx; simp at hx; rw [hx, hu0]⟩ (by omega) (Sub.cons rfl (Sub.cons rfl (Sub.cons rfl (Sub.cons rfl (Sub.cons rfl (Sub.cons (congrArg (fun z => some (Value.int IntKind.i64 z)) (wrap_i64 (by omega) (by omega))) Sub.nil)))))) (List.Perm.refl _)
    · skip
      refine At.callT0 (fun w hw => must_F _ w) Tryd.call84 rfl ?_
      refine At.blkE ?_
      refine At.thenE ?_
      refine At.thenE ?_
      refine At.blkE ?_
      refine At.thenE ?_
      refine At.fail rfl (fun w hw => ?_)
      exact ⟨rfl, hw.drop (List.nil_sublist _)⟩
  · skip
    have hk : k = n := by have := h1; simp at this; omega
    exact absurd (by have h0 := hs.2; rw [hk, List.take_of_length_le (by rw [hX]; exact Nat.le_refl _)] at h0; exact h0) hz

theorem eyeText_T (b L o c at' : Nat) (l : List UInt8) (s : ByteArray) (why : Int) (w : World) (hh : Holds w b 139 (eyeC L o l.length c at')) (hb : Bytes w (some ⟨L, o, none⟩) l) (hne : L ≠ b) (hc : l.length ≤ c) (hm : l.length ≤ 140737488355328) (hn : at' + s.data.toList.length ≤ l.length) (ht : ((l.drop at').take s.data.toList.length) = s.data.toList) :
    Upd Tryd.prog 86 [.pointer (some ⟨b, 0, none⟩), .string s, .int .i64 why] (blk b 139 (eyeC L o l.length c at')) (.tuple #[]) (blk b 139 (eyeC L o l.length c (at' + s.data.toList.length))) w := by
  refine enter (feet [(blk b 139 (eyeC L o l.length c at'))]) [(blk b 139 (eyeC L o l.length c at'))] Tryd.func86 rfl Tryd.ntmps86 rfl (Rep.one hh) ?_
  have hS : ¬ feet [(blk b 139 (eyeC L o l.length c at'))] L := fun ⟨r, hr, hx⟩ => by rcases List.mem_singleton.1 hr with rfl; exact hne hx
  have hs : s.size = s.data.toList.length := Array.length_toList.symm
  have hX : ((l.drop at').take s.data.toList.length).length = s.data.toList.length := by simp; omega
  have hbX := cut_bytes (n := s.data.toList.length) hb hc hn
  simp only [envOf]
  refine At.seq ?_
  refine At.tail 20 rfl (by decide +kernel) ?_
  simp only [List.take_succ_cons, List.take_zero, List.drop_succ_cons, List.drop_zero]
  refine QAt.val (Val.move rfl) rfl rfl rfl ?_
  refine QAt.val (Val.nilCheck rfl) rfl rfl rfl ?_
  refine QAt.val (Val.field 0 rfl fo_139_0 rfl) rfl rfl rfl ?_
  refine QAt.val (Val.load (i := 0) Tryd.isAgg54 rfl rfl rfl) rfl rfl rfl ?_
  refine QAt.val (Val.move rfl) rfl rfl rfl ?_
  refine QAt.val (Val.nilCheck rfl) rfl rfl rfl ?_
  refine QAt.val (Val.field 1 rfl fo_139_1 rfl) rfl rfl rfl ?_
  refine QAt.val (Val.load (i := 0) Tryd.isAgg3 rfl rfl rfl) rfl rfl rfl ?_
  refine QAt.val (Val.move rfl) rfl rfl rfl ?_
  refine QAt.val (Val.nilCheck rfl) rfl rfl rfl ?_
  refine QAt.val (Val.field 1 rfl fo_139_1 rfl) rfl rfl rfl ?_
  refine QAt.val (Val.load (i := 0) Tryd.isAgg3 rfl rfl rfl) rfl rfl rfl ?_
  refine QAt.val (Val.move rfl) rfl rfl rfl ?_
  refine QAt.val (Val.lenStr Tryd.underlying9 rfl) rfl rfl rfl ?_
  refine QAt.val (Val.bin rfl rfl rfl) rfl rfl rfl ?_
  rw [wrap_i64 (n := (at' : Int) + (s.size : Int)) (by omega) (by omega)]
  refine QAt.val (Val.cutSl at' (at' + s.size) (if c = at' then o else o + at' * 1) s.size (c - at') Tryd.underlying54 Tryd.sizeOf5 rfl ⟨_, _, rfl, by omega, by omega⟩ ⟨_, _, rfl, by omega, by omega⟩ (by omega) (by omega) rfl (by omega) rfl) rfl rfl rfl ?_
  refine QAt.val (Val.strOf (l := ((l.drop at').take s.data.toList.length)) Tryd.underlying54 Tryd.underlying5 Tryd.underlying9 rfl (by rw [hX, hs]) (fun w' hw' k u hk => by obtain ⟨b', o', h1, h2⟩ := hbX k u hk; refine ⟨b', o', h1, hw'.oldCell h2 ?_⟩; simp only [Option.some.injEq, Addr.mk.injEq] at h1; rw [← h1.1]; exact hS)) rfl rfl rfl ?_
  refine QAt.val (Val.move rfl) rfl rfl rfl ?_
  refine QAt.val (Val.seq_ rfl rfl) rfl rfl rfl ?_
  rw [show (ByteArray.toList ⟨((l.drop at').take s.data.toList.length).toArray⟩ == s.toList) = true from by rw [ByteArray.toList_eq, ByteArray.toList_eq]; simpa using ht]
  refine QAt.val (Val.move rfl) rfl rfl rfl ?_
  refine QAt.fin ?_
  refine At.callP (fun w hw => must_T _ w) Tryd.call84 rfl rfl ?_
  refine At.nil ?_
  refine At.thenN ?_
  refine At.region ?_
  refine At.val (Val.move rfl) rfl rfl rfl ?_
  refine At.val (Val.nilCheck rfl) rfl rfl rfl ?_
  refine At.val (Val.field 1 rfl fo_139_1 rfl) rfl rfl rfl ?_
  refine At.val (Val.load (i := 0) Tryd.isAgg3 rfl rfl rfl) rfl rfl rfl ?_
  refine At.val (Val.move rfl) rfl rfl rfl ?_
  refine At.val (Val.lenStr Tryd.underlying9 rfl) rfl rfl rfl ?_
  refine At.val (Val.bin rfl rfl rfl) rfl rfl rfl ?_
  rw [wrap_i64 (n := (at' : Int) + (s.size : Int)) (by omega) (by omega)]
  refine At.val (Val.nilCheck rfl) rfl rfl rfl ?_
  refine At.val (Val.field 1 rfl fo_139_1 rfl) rfl rfl rfl ?_
  refine At.store (i := 0) Tryd.sizeOf3 rfl rfl rfl rfl (by simp) ?_
  simp only [List.set_cons_zero, List.set_cons_succ]
  refine At.nil ?_
  rw [show ([Value.slice (some ⟨L, o, none⟩) l.length c, Value.int .i64 ((at' : Int) + (s.size : Int))] : List Value) = eyeC L o l.length c (at' + s.data.toList.length) from by rw [hs, ← Int.natCast_add]]
  refine At.ret0 (.inr rfl) rfl rfl  (fun w hw => ?_)
  exact ⟨rfl, hw⟩

theorem eyeText_F (b L o c at' : Nat) (l : List UInt8) (s : ByteArray) (why : Int) (w : World) (hh : Holds w b 139 (eyeC L o l.length c at')) (hb : Bytes w (some ⟨L, o, none⟩) l) (hne : L ≠ b) (hc : l.length ≤ c) (hm : l.length ≤ 140737488355328) (hn : at' + s.data.toList.length ≤ l.length) (ht : ¬ ((l.drop at').take s.data.toList.length) = s.data.toList) :
    Throws1 Tryd.prog 86 [.pointer (some ⟨b, 0, none⟩), .string s, .int .i64 why] (blk b 139 (eyeC L o l.length c at')) (brk 178 why) w := by
  refine enter (feet [(blk b 139 (eyeC L o l.length c at'))]) [(blk b 139 (eyeC L o l.length c at'))] Tryd.func86 rfl Tryd.ntmps86 rfl (Rep.one hh) ?_
  have hS : ¬ feet [(blk b 139 (eyeC L o l.length c at'))] L := fun ⟨r, hr, hx⟩ => by rcases List.mem_singleton.1 hr with rfl; exact hne hx
  have hs : s.size = s.data.toList.length := Array.length_toList.symm
  have hX : ((l.drop at').take s.data.toList.length).length = s.data.toList.length := by simp; omega
  have hbX := cut_bytes (n := s.data.toList.length) hb hc hn
  simp only [envOf]
  refine At.seq ?_
  refine At.tail 20 rfl (by decide +kernel) ?_
  simp only [List.take_succ_cons, List.take_zero, List.drop_succ_cons, List.drop_zero]
  refine QAt.val (Val.move rfl) rfl rfl rfl ?_
  refine QAt.val (Val.nilCheck rfl) rfl rfl rfl ?_
  refine QAt.val (Val.field 0 rfl fo_139_0 rfl) rfl rfl rfl ?_
  refine QAt.val (Val.load (i := 0) Tryd.isAgg54 rfl rfl rfl) rfl rfl rfl ?_
  refine QAt.val (Val.move rfl) rfl rfl rfl ?_
  refine QAt.val (Val.nilCheck rfl) rfl rfl rfl ?_
  refine QAt.val (Val.field 1 rfl fo_139_1 rfl) rfl rfl rfl ?_
  refine QAt.val (Val.load (i := 0) Tryd.isAgg3 rfl rfl rfl) rfl rfl rfl ?_
  refine QAt.val (Val.move rfl) rfl rfl rfl ?_
  refine QAt.val (Val.nilCheck rfl) rfl rfl rfl ?_
  refine QAt.val (Val.field 1 rfl fo_139_1 rfl) rfl rfl rfl ?_
  refine QAt.val (Val.load (i := 0) Tryd.isAgg3 rfl rfl rfl) rfl rfl rfl ?_
  refine QAt.val (Val.move rfl) rfl rfl rfl ?_
  refine QAt.val (Val.lenStr Tryd.underlying9 rfl) rfl rfl rfl ?_
  refine QAt.val (Val.bin rfl rfl rfl) rfl rfl rfl ?_
  rw [wrap_i64 (n := (at' : Int) + (s.size : Int)) (by omega) (by omega)]
  refine QAt.val (Val.cutSl at' (at' + s.size) (if c = at' then o else o + at' * 1) s.size (c - at') Tryd.underlying54 Tryd.sizeOf5 rfl ⟨_, _, rfl, by omega, by omega⟩ ⟨_, _, rfl, by omega, by omega⟩ (by omega) (by omega) rfl (by omega) rfl) rfl rfl rfl ?_
  refine QAt.val (Val.strOf (l := ((l.drop at').take s.data.toList.length)) Tryd.underlying54 Tryd.underlying5 Tryd.underlying9 rfl (by rw [hX, hs]) (fun w' hw' k u hk => by obtain ⟨b', o', h1, h2⟩ := hbX k u hk; refine ⟨b', o', h1, hw'.oldCell h2 ?_⟩; simp only [Option.some.injEq, Addr.mk.injEq] at h1; rw [← h1.1]; exact hS)) rfl rfl rfl ?_
  refine QAt.val (Val.move rfl) rfl rfl rfl ?_
  refine QAt.val (Val.seq_ rfl rfl) rfl rfl rfl ?_
  rw [show (ByteArray.toList ⟨((l.drop at').take s.data.toList.length).toArray⟩ == s.toList) = false from by rw [ByteArray.toList_eq, ByteArray.toList_eq]; simpa using ht]
  refine QAt.val (Val.move rfl) rfl rfl rfl ?_
  refine QAt.fin ?_
  refine At.callT0 (fun w hw => must_F _ w) Tryd.call84 rfl ?_
  refine At.thenE ?_
  refine At.fail rfl (fun w hw => ?_)
  exact ⟨rfl, hw.drop (List.nil_sublist _)⟩

end Go.Proofs.YtoiebgnmknbkjaaDoor
