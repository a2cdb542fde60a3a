/- Copies; the shape of an image. -/
import Derived.Test.YtoiebgnmknbkjaaDoorB8
import Derived.Test.YtoiebgnmknbkjaaDoorWv
set_option linter.unusedVariables false
set_option linter.unusedSimpArgs false
namespace Go.Proofs.YtoiebgnmknbkjaaDoor
open Go Go.Wk

def lineAt (l : List UInt8) (k : Nat) : List UInt8 := (l.drop (64 * k)).take 64
theorem lineAt_length {l : List UInt8} {k : Nat} (h : 64 * k + 64 ≤ l.length) : (lineAt l k).length = 64 := by unfold lineAt; rw [List.length_take, List.length_drop]; omega
theorem lineAt_eq {l : List UInt8} {k : Nat} (h : 64 * k + 64 ≤ l.length) : ((l.drop (64 * k)).take (64 * k + 64 - (64 * k))).take 64 = lineAt l k := by unfold lineAt; rw [List.take_take, show min 64 (64 * k + 64 - 64 * k) = 64 by omega]
theorem lineAt_get {l : List UInt8} {k i : Nat} {q : UInt8} (hi : i < 64) (h : l[(64 * (k : Int) + (i : Int)).toNat]? = some q) : (lineAt l k)[i]? = some q := by
  unfold lineAt; rw [List.getElem?_take, if_pos hi, List.getElem?_drop, ← h, show (64 * (k : Int) + (i : Int)).toNat = 64 * k + i by omega]
def HasSup (l : List UInt8) (k : Nat) : Prop := OkSup (lineAt l k) ∧ num (lineAt l k) 8 4 * 512 = l.length
instance (l : List UInt8) (k : Nat) : Decidable (HasSup l k) := by unfold HasSup; infer_instance
def fitAt (l : List UInt8) (k : Nat) : Value := fitV (num (lineAt l k) 8 4 : Nat) (num (lineAt l k) 12 4 : Nat) (num (lineAt l k) 16 4 : Nat)
def findV (l : List UInt8) : Value := if 128 ≤ l.length ∧ HasSup l 0 then fitAt l 0 else if 128 ≤ l.length ∧ HasSup l 1 then fitAt l 1 else .tuple #[.agg #[.int .i64 0, .int .i64 0, .int .i64 0, .int .i64 0], .int .i64 31]
theorem find_at {l : List UInt8} {k : Nat} (hk : k < 2) (h : 128 ≤ l.length) (h1 : HasSup l k) (h2 : ∀ j, j < k → ¬ HasSup l j) : findV l = fitAt l k := by
  match k, hk with
  | 0, _ => exact if_pos ⟨h, h1⟩
  | 1, _ => unfold findV; rw [if_neg (fun q => h2 0 (by omega) q.2), if_pos ⟨h, h1⟩]
theorem find_no {l : List UInt8} (h : 128 ≤ l.length → ∀ j, j < 2 → ¬ HasSup l j) : findV l = .tuple #[.agg #[.int .i64 0, .int .i64 0, .int .i64 0, .int .i64 0], .int .i64 31] := by
  unfold findV; rw [if_neg (fun q => h q.1 0 (by omega) q.2), if_neg (fun q => h q.1 1 (by omega) q.2)]

theorem copyBytes_n (v : Value) (l : List UInt8) (w : World) (hv : RdB w v l) (hlen : l.length ≤ 140737488355328) :
    NewRow Tryd.prog 33 [v] 5 1 l.length (l.map bv) w := by
  refine enter (feet []) [] Tryd.func33 rfl Tryd.ntmps33 rfl ⟨by simp, by simp, by simp, Mod.refl _ _⟩ ?_
  simp only [envOf]
  refine At.seq ?_
  refine At.region ?_
  refine At.val (Val.assign rfl) rfl rfl rfl ?_
  refine At.nil ?_
  refine At.thenN ?_
  refine At.seq ?_
  refine At.region ?_
  refine At.val (Val.assign rfl) rfl rfl rfl ?_
  refine At.nil ?_
  refine At.thenN ?_
  refine At.seq ?_
  refine At.region ?_
  refine At.val (Val.move rfl) rfl rfl rfl ?_
  refine At.val (Val.move rfl) rfl rfl rfl ?_
  refine At.rowNilB 5 ?_
  refine At.appendRdB (i := 0) (by_ := 1) Tryd.underlying54 info_5 rfl rfl rfl rfl rfl rfl rfl hv (fun _ _ _ _ _ _ _ h => by simp [feet] at h) (by simp only [List.length_nil]; omega) (by simp only [List.length_nil]; omega) rfl (fun v1 => ?_)
  simp only [List.set_cons_zero, List.set_cons_succ]
  refine At.val (Val.assign rfl) rfl rfl rfl ?_
  refine At.nil ?_
  refine At.thenN ?_
  refine At.retC ?_
  refine At.ret1 (.inl rfl) rfl rfl rfl (fun w hw => ?_)
  exact ⟨_, rfl, hw⟩

theorem sameBytes_p (v u : Value) (l m : List UInt8) (w : World) (hv : RdB w v l) (hu : RdB w u m) (hl : l.length ≤ 140737488355328) (hm : m.length ≤ 140737488355328) :
    PureC Tryd.prog 36 [v, u] (.bool (decide (l = m))) w := by
  refine enter0 Tryd.func36 rfl Tryd.ntmps36 rfl ?_
  simp only [envOf]
  refine At.seq ?_
  refine At.region ?_
  refine At.val (Val.assign rfl) rfl rfl rfl ?_
  refine At.nil ?_
  refine At.thenN ?_
  refine At.seq ?_
  refine At.seq ?_
  refine At.region ?_
  refine At.val (Val.move rfl) rfl rfl rfl ?_
  refine At.val (Val.lenRd hv Tryd.underlying54 rfl) rfl rfl rfl ?_
  refine At.val (Val.move rfl) rfl rfl rfl ?_
  refine At.val (Val.lenRd hu Tryd.underlying54 rfl) rfl rfl rfl ?_
  refine At.val (Val.bin rfl rfl rfl) rfl rfl rfl ?_
  refine At.nil ?_
  refine At.thenN ?_
  refine At.cond rfl (fun h1 => ?_) (fun h1 => ?_)
  · skip
    try simp only [vN_T, vN_F, nmE_T, nmE_F, wI_T, wI_F, data_T, data_F, ino_T, ino_F, notT, notF, bneT, bneF, beqT, beqF, decT, decF] at h1
    refine At.seq ?_
    refine At.region ?_
    refine At.val (Val.assign rfl) rfl rfl rfl ?_
    refine At.nil ?_
    refine At.thenN ?_
    refine At.retC ?_
    refine At.thenR ?_
    refine At.ret1 (.inl rfl) rfl rfl rfl (fun w hw => ?_)
    exact ⟨retB (decide_eq_false (fun e => ‹¬ (l.length : Int) = m.length› (by rw [e]))).symm, hw.mod⟩
  · skip
    try simp only [vN_T, vN_F, nmE_T, nmE_F, wI_T, wI_F, data_T, data_F, ino_T, ino_F, notT, notF, bneT, bneF, beqT, beqF, decT, decF] at h1
    have hn : l.length = m.length := by omega
    refine At.skipC ?_
    refine At.thenN ?_
    refine At.seq ?_
    refine At.seq ?_
    refine At.region ?_
    refine At.val (Val.assign rfl) rfl rfl rfl ?_
    refine At.nil ?_
    refine At.thenN ?_
    refine At.block ?_
    skip
    refine At.loop (σ := Nat) (fun k => k ≤ l.length ∧ l.take k = m.take k) (fun k => [(0, v), (1, u), (5, .int .i64 (k : Int))]) (fun k => []) (fun k => l.length - k) 0 ⟨Nat.zero_le _, rfl⟩ (Sub.cons rfl (Sub.cons rfl (Sub.cons rfl Sub.nil))) (List.Perm.refl _) ?_
    intro k hs
    refine At.seq ?_
    refine At.seq ?_
    refine At.region ?_
    refine At.val (Val.move rfl) rfl rfl rfl ?_
    refine At.val (Val.move rfl) rfl rfl rfl ?_
    refine At.val (Val.lenRd hv Tryd.underlying54 rfl) rfl rfl rfl ?_
    refine At.val (Val.bin rfl rfl rfl) rfl rfl rfl ?_
    refine At.nil ?_
    refine At.thenN ?_
    refine At.cond rfl (fun h2 => ?_) (fun h2 => ?_)
    · skip
      try simp only [vN_T, vN_F, nmE_T, nmE_F, wI_T, wI_F, data_T, data_F, ino_T, ino_F, notT, notF, bneT, bneF, beqT, beqF, decT, decF] at h2
      refine At.skipC ?_
      refine At.thenN ?_
      refine At.seq ?_
      refine At.block ?_
      refine At.seq ?_
      refine At.quiet rfl (by decide +kernel) ?_
      refine QAt.val (Val.move rfl) rfl rfl rfl ?_
      refine QAt.val (Val.move rfl) rfl rfl rfl ?_
      refine QAt.idxB hv Tryd.underlying54 Tryd.sizeOf5 rfl rfl (by omega) (by omega) rfl rfl (fun b3 o4 q5 hq6 hl7 hc8 => ?_)
      refine QAt.val (Val.loadOld Tryd.isAgg5 rfl hc8 (fun h => h)) rfl rfl rfl ?_
      refine QAt.val (Val.move rfl) rfl rfl rfl ?_
      refine QAt.val (Val.move rfl) rfl rfl rfl ?_
      refine QAt.idxB hu Tryd.underlying54 Tryd.sizeOf5 rfl rfl (by omega) (by omega) rfl rfl (fun b9 o10 q11 hq12 hl13 hc14 => ?_)
      refine QAt.val (Val.loadOld Tryd.isAgg5 rfl hc14 (fun h => h)) rfl rfl rfl ?_
      refine QAt.val (Val.bin rfl rfl rfl) rfl rfl rfl ?_
      refine QAt.fin ?_
      refine At.thenN ?_
      refine At.cond rfl (fun h15 => ?_) (fun h15 => ?_)
      · skip
        try simp only [vN_T, vN_F, nmE_T, nmE_F, wI_T, wI_F, data_T, data_F, ino_T, ino_F, notT, notF, bneT, bneF, beqT, beqF, decT, decF] at h15
        refine At.seq ?_
        refine At.region ?_
        refine At.val (Val.assign rfl) rfl rfl rfl ?_
        refine At.nil ?_
        refine At.thenN ?_
        refine At.retC ?_
        refine At.blkR ?_
        refine At.thenR ?_
        refine At.thenR ?_
        refine At.blkR ?_
        refine At.thenR ?_
        refine At.ret1 (.inl rfl) rfl rfl rfl (fun w hw => ?_)
        exact ⟨retB (decide_eq_false (fun e => by subst e; simp_all)).symm, hw.mod⟩
      · skip
        try simp only [vN_T, vN_F, nmE_T, nmE_F, wI_T, wI_F, data_T, data_F, ino_T, ino_F, notT, notF, bneT, bneF, beqT, beqF, decT, decF] at h15
        refine At.skipC ?_
        refine At.blkN ?_
        refine At.thenN ?_
        refine At.region ?_
        refine At.val (Val.move rfl) rfl rfl rfl ?_
        first | refine At.val (Val.addI rfl rfl (by omega) (by omega)) rfl rfl rfl ?_ | refine At.val (Val.bin rfl rfl rfl) rfl rfl rfl ?_
        refine At.val (Val.assign rfl) rfl rfl rfl ?_
        refine At.nil ?_
        refine At.thenN ?_
        exact At.again (k + 1) ⟨by omega, by rw [List.take_add_one, List.take_add_one, hs.2, show l[k]? = m[k]? from by simp only [Int.toNat_natCast] at *; simp_all; exact UInt8.toNat_inj.1 (by omega)]⟩ (by omega) (Sub.cons rfl (Sub.cons rfl (Sub.cons (congrArg (fun z => some (Value.int IntKind.i64 z)) (by omega)) Sub.nil))) (List.Perm.refl _)
    · skip
      try simp only [vN_T, vN_F, nmE_T, nmE_F, wI_T, wI_F, data_T, data_F, ino_T, ino_F, notT, notF, bneT, bneF, beqT, beqF, decT, decF] at h2
      refine At.exitC ?_
      refine At.thenX ?_
      refine At.thenX ?_
      refine At.blkX ?_
      refine At.thenN ?_
      refine At.seq ?_
      refine At.region ?_
      refine At.val (Val.assign rfl) rfl rfl rfl ?_
      refine At.nil ?_
      refine At.thenN ?_
      refine At.retC ?_
      refine At.ret1 (.inl rfl) rfl rfl rfl (fun w hw => ?_)
      exact ⟨retB (decide_eq_true (by have h1 := hs.2; rw [List.take_of_length_le (by omega), List.take_of_length_le (by omega)] at h1; exact h1)).symm, hw.mod⟩

theorem findI_p (v : Value) (l : List UInt8) (w : World) (ht : Tab w) (hv : RdB w v l) (hlen : l.length ≤ 140737488355328) :
    PureC Tryd.prog 34 [v] (findV l) w := by
  refine enter0 Tryd.func34 rfl Tryd.ntmps34 rfl ?_
  simp only [envOf]
  refine At.seq ?_
  refine At.region ?_
  refine At.alloc Tryd.zeroValue25 rfl rfl (fun b1 => ?_)
  refine At.val (Val.assign rfl) rfl rfl rfl ?_
  refine At.nil ?_
  refine At.thenN ?_
  refine At.seq ?_
  refine At.seq ?_
  refine At.region ?_
  refine At.val (Val.assign rfl) rfl rfl rfl ?_
  refine At.nil ?_
  refine At.thenN ?_
  refine At.block ?_
  skip
  refine At.loop (σ := Nat) (fun k => k ≤ 2 ∧ ∀ j, j < k → 128 ≤ l.length ∧ ¬ HasSup l j) (fun k => [(0, v), (2, .pointer (some ⟨b1, 0, none⟩)), (4, .int .i64 (64 * (k : Int)))]) (fun k => [blk b1 25 ([.int .i64 0, .int .i64 0, .int .i64 0, .int .i64 0])]) (fun k => 2 - k) 0 ⟨by omega, fun j h => by omega⟩ (Sub.cons rfl (Sub.cons rfl (Sub.cons rfl Sub.nil))) (List.Perm.refl _) ?_
  intro k hs
  refine At.seq ?_
  refine At.seq ?_
  refine At.region ?_
  refine At.val (Val.move rfl) rfl rfl rfl ?_
  refine At.val (Val.bin rfl rfl rfl) rfl rfl rfl ?_
  refine At.val (Val.move rfl) rfl rfl rfl ?_
  refine At.split (t := 9) rfl (fun h2 => ?_) (fun h2 => ?_)
  · skip
    try simp only [vN_T, vN_F, nmE_T, nmE_F, wI_T, wI_F, data_T, data_F, ino_T, ino_F, notT, notF, bneT, bneF, beqT, beqF, decT, decF] at h2
    refine At.yes rfl rfl ?_
    refine At.val (Val.move rfl) rfl rfl rfl ?_
    refine At.yes rfl rfl ?_
    refine At.val (Val.lenRd hv Tryd.underlying54 rfl) rfl rfl rfl ?_
    refine At.yes rfl rfl ?_
    refine At.val (Val.bin rfl rfl rfl) rfl rfl rfl ?_
    refine At.val (Val.pickT rfl rfl) rfl rfl rfl ?_
    refine At.nil ?_
    refine At.thenN ?_
    refine At.cond rfl (fun h3 => ?_) (fun h3 => ?_)
    · skip
      try simp only [vN_T, vN_F, nmE_T, nmE_F, wI_T, wI_F, data_T, data_F, ino_T, ino_F, notT, notF, bneT, bneF, beqT, beqF, decT, decF] at h3
      have hk : k < 2 := by omega
      have h128 : 128 ≤ l.length := by omega
      have hL := lineAt_length (l := l) (k := k) (by omega)
      have hnum := num_lt (l := lineAt l k) 8 4
      refine At.skipC ?_
      refine At.thenN ?_
      refine At.seq ?_
      refine At.block ?_
      refine At.seq ?_
      refine At.region ?_
      refine At.val (Val.move rfl) rfl rfl rfl ?_
      refine At.val (Val.move rfl) rfl rfl rfl ?_
      refine At.val (Val.move rfl) rfl rfl rfl ?_
      first | refine At.val (Val.addI rfl rfl (by omega) (by omega)) rfl rfl rfl ?_ | refine At.val (Val.bin rfl rfl rfl) rfl rfl rfl ?_
      refine At.cutB (64 * k) (64 * k + 64) hv Tryd.underlying54 Tryd.sizeOf5 rfl ⟨_, _, rfl, by omega, by omega⟩ ⟨_, _, rfl, by omega, by omega⟩ (by omega) (by omega) rfl rfl (fun v4 hv5 => ?_)
      refine At.arrB hv5 Tryd.underlying30 rfl (by rw [List.length_take, List.length_drop]; omega) (by decide) rfl rfl (fun b6 o7 hc8 => ?_)
      rw [lineAt_eq (by omega)] at hc8
      refine At.val (Val.loadOldPart (vs := ((lineAt l k)).map bv) Tryd.isAgg30 Tryd.sizeOf30 rfl (by rw [List.length_map]; exact hL) hc8 (fun h => h)) rfl rfl rfl ?_
      refine At.callP (fun w hw => openSup_p (lineAt l k) w (ht.mod hw.mod) hL) Tryd.call26 rfl rfl ?_
      by_cases ho : OkSup (lineAt l k)
      · skip
        rw [openSup_yes ho]
        refine At.val (Val.move rfl) rfl rfl rfl ?_
        refine At.val (Val.extract rfl rfl) rfl rfl rfl ?_
        refine At.val (Val.extract rfl rfl) rfl rfl rfl ?_
        refine At.alloc Tryd.zeroValue23 rfl rfl (fun b9 => ?_)
        refine At.storeAll (i := 0) Tryd.sizeOf23 rfl rfl rfl (by simp [Value.oneCell']) rfl rfl ?_
        simp only [List.set_cons_zero, List.set_cons_succ]
        refine At.val (Val.assign rfl) rfl rfl rfl ?_
        refine At.nil ?_
        refine At.thenN ?_
        refine At.seq ?_
        refine At.region ?_
        refine At.val (Val.move rfl) rfl rfl rfl ?_
        refine At.val (Val.bin rfl rfl rfl) rfl rfl rfl ?_
        refine At.val (Val.move rfl) rfl rfl rfl ?_
        refine At.yes rfl rfl ?_
        refine At.val (Val.field 0 rfl fo_23_0 rfl) rfl rfl rfl ?_
        refine At.yes rfl rfl ?_
        refine At.val (Val.load (i := 0) Tryd.isAgg3 rfl rfl rfl) rfl rfl rfl ?_
        refine At.yes rfl rfl ?_
        first | refine At.val (Val.mulI rfl rfl (by omega) (by omega)) rfl rfl rfl ?_ | refine At.val (Val.bin rfl rfl rfl) rfl rfl rfl ?_
        refine At.yes rfl rfl ?_
        refine At.val (Val.move rfl) rfl rfl rfl ?_
        refine At.yes rfl rfl ?_
        refine At.val (Val.lenRd hv Tryd.underlying54 rfl) rfl rfl rfl ?_
        refine At.yes rfl rfl ?_
        refine At.val (Val.bin rfl rfl rfl) rfl rfl rfl ?_
        refine At.val (Val.pickT rfl rfl) rfl rfl rfl ?_
        refine At.nil ?_
        refine At.thenN ?_
        refine At.cond rfl (fun h10 => ?_) (fun h10 => ?_)
        · skip
          try simp only [vN_T, vN_F, nmE_T, nmE_F, wI_T, wI_F, data_T, data_F, ino_T, ino_F, notT, notF, bneT, bneF, beqT, beqF, decT, decF] at h10
          refine At.seq ?_
          refine At.region ?_
          refine At.val (Val.loadAll (i := 0) Tryd.isAgg23 Tryd.sizeOf23 rfl rfl rfl) rfl rfl rfl ?_
          refine At.callP (fun w hw => fit_p _ _ _ w) Tryd.call20 rfl rfl ?_
          have hfit := fit_yes ho.1
          rw [hfit]
          · skip
            refine At.val (Val.extract rfl rfl) rfl rfl rfl ?_
            refine At.val (Val.extract rfl rfl) rfl rfl rfl ?_
            refine At.storeAll (i := 1) Tryd.sizeOf25 rfl rfl rfl (by simp [Value.oneCell']) rfl rfl ?_
            simp only [List.set_cons_zero, List.set_cons_succ]
            refine At.val (Val.assign rfl) rfl rfl rfl ?_
            refine At.nil ?_
            refine At.thenN ?_
            refine At.retC ?_
            refine At.blkR ?_
            refine At.thenR ?_
            refine At.thenR ?_
            refine At.blkR ?_
            refine At.thenR ?_
            refine At.ret2 (.inl rfl) rfl rfl (ResOf.all (i := 1) Tryd.isAgg25 Tryd.sizeOf25 rfl rfl rfl) rfl (fun w hw => ?_)
            exact ⟨by rw [find_at (k := k) hk h128 ⟨ho, by omega⟩ (fun j hj => (hs.2 j hj).2)]; unfold fitAt; rw [hfit]; rfl, hw.mod⟩
        · skip
          try simp only [vN_T, vN_F, nmE_T, nmE_F, wI_T, wI_F, data_T, data_F, ino_T, ino_F, notT, notF, bneT, bneF, beqT, beqF, decT, decF] at h10
          refine At.skipC ?_
          refine At.blkN ?_
          refine At.thenN ?_
          refine At.region ?_
          refine At.val (Val.move rfl) rfl rfl rfl ?_
          first | refine At.val (Val.addI rfl rfl (by omega) (by omega)) rfl rfl rfl ?_ | refine At.val (Val.bin rfl rfl rfl) rfl rfl rfl ?_
          refine At.val (Val.assign rfl) rfl rfl rfl ?_
          refine At.nil ?_
          refine At.thenN ?_
          refine At.drop 0 ?_
          simp only [List.eraseIdx_cons_zero, List.eraseIdx_cons_succ]
          exact At.again (k + 1) ⟨by omega, fun j hj => ⟨h128, by rcases Nat.lt_or_ge j k with h | h; exact (hs.2 j h).2; obtain rfl : j = k := (by omega); exact fun q => by first | exact ho q.1 | (have := q.2; omega)⟩⟩ (by omega) (Sub.cons rfl (Sub.cons rfl (Sub.cons (congrArg (fun z => some (Value.int IntKind.i64 z)) (by omega)) Sub.nil))) (List.Perm.refl _)
      · skip
        rw [openSup_no ho]
        refine At.val (Val.move rfl) rfl rfl rfl ?_
        refine At.val (Val.extract rfl rfl) rfl rfl rfl ?_
        refine At.val (Val.extract rfl rfl) rfl rfl rfl ?_
        refine At.alloc Tryd.zeroValue23 rfl rfl (fun b11 => ?_)
        refine At.storeAll (i := 0) Tryd.sizeOf23 rfl rfl rfl (by simp [Value.oneCell']) rfl rfl ?_
        simp only [List.set_cons_zero, List.set_cons_succ]
        refine At.val (Val.assign rfl) rfl rfl rfl ?_
        refine At.nil ?_
        refine At.thenN ?_
        refine At.seq ?_
        refine At.region ?_
        refine At.val (Val.move rfl) rfl rfl rfl ?_
        refine At.val (Val.bin rfl rfl rfl) rfl rfl rfl ?_
        refine At.val (Val.move rfl) rfl rfl rfl ?_
        refine At.no rfl rfl rfl rfl ?_
        refine At.no rfl rfl rfl rfl ?_
        refine At.no rfl rfl rfl rfl ?_
        refine At.no rfl rfl rfl rfl ?_
        refine At.no rfl rfl rfl rfl ?_
        refine At.no rfl rfl rfl rfl ?_
        refine At.val (Val.pickF rfl rfl) rfl rfl rfl ?_
        refine At.nil ?_
        refine At.thenN ?_
        refine At.condF rfl ?_
        refine At.skipC ?_
        refine At.blkN ?_
        refine At.thenN ?_
        refine At.region ?_
        refine At.val (Val.move rfl) rfl rfl rfl ?_
        first | refine At.val (Val.addI rfl rfl (by omega) (by omega)) rfl rfl rfl ?_ | refine At.val (Val.bin rfl rfl rfl) rfl rfl rfl ?_
        refine At.val (Val.assign rfl) rfl rfl rfl ?_
        refine At.nil ?_
        refine At.thenN ?_
        refine At.drop 0 ?_
        simp only [List.eraseIdx_cons_zero, List.eraseIdx_cons_succ]
        exact At.again (k + 1) ⟨by omega, fun j hj => ⟨h128, by rcases Nat.lt_or_ge j k with h | h; exact (hs.2 j h).2; obtain rfl : j = k := (by omega); exact fun q => by first | exact ho q.1 | (have := q.2; omega)⟩⟩ (by omega) (Sub.cons rfl (Sub.cons rfl (Sub.cons (congrArg (fun z => some (Value.int IntKind.i64 z)) (by omega)) Sub.nil))) (List.Perm.refl _)
    · skip
      try simp only [vN_T, vN_F, nmE_T, nmE_F, wI_T, wI_F, data_T, data_F, ino_T, ino_F, notT, notF, bneT, bneF, beqT, beqF, decT, decF] at h3
      refine At.exitC ?_
      refine At.thenX ?_
      refine At.thenX ?_
      refine At.blkX ?_
      refine At.thenN ?_
      refine At.seq ?_
      refine At.region ?_
      refine At.val (Val.build (fun a ha => by simp only [List.map_toArray, List.map_cons, List.map_nil] <;> rfl) (bld_25_)) rfl rfl rfl ?_
      refine At.storeAll (i := 0) Tryd.sizeOf25 rfl rfl rfl (by simp [Value.oneCell']) rfl rfl ?_
      simp only [List.set_cons_zero, List.set_cons_succ]
      refine At.val (Val.assign rfl) rfl rfl rfl ?_
      refine At.nil ?_
      refine At.thenN ?_
      refine At.retC ?_
      refine At.ret2 (.inl rfl) rfl rfl (ResOf.all (i := 0) Tryd.isAgg25 Tryd.sizeOf25 rfl rfl rfl) rfl (fun w hw => ?_)
      exact ⟨by rw [find_no (fun h j hj => (hs.2 j (by omega)).2)], hw.mod⟩
  · skip
    try simp only [vN_T, vN_F, nmE_T, nmE_F, wI_T, wI_F, data_T, data_F, ino_T, ino_F, notT, notF, bneT, bneF, beqT, beqF, decT, decF] at h2
    refine At.no rfl rfl rfl rfl ?_
    refine At.no rfl rfl rfl rfl ?_
    refine At.no rfl rfl rfl rfl ?_
    refine At.val (Val.pickF rfl rfl) rfl rfl rfl ?_
    refine At.nil ?_
    refine At.thenN ?_
    refine At.condF rfl ?_
    refine At.exitC ?_
    refine At.thenX ?_
    refine At.thenX ?_
    refine At.blkX ?_
    refine At.thenN ?_
    refine At.seq ?_
    refine At.region ?_
    refine At.val (Val.build (fun a ha => by simp only [List.map_toArray, List.map_cons, List.map_nil] <;> rfl) (bld_25_)) rfl rfl rfl ?_
    refine At.storeAll (i := 0) Tryd.sizeOf25 rfl rfl rfl (by simp [Value.oneCell']) rfl rfl ?_
    simp only [List.set_cons_zero, List.set_cons_succ]
    refine At.val (Val.assign rfl) rfl rfl rfl ?_
    refine At.nil ?_
    refine At.thenN ?_
    refine At.retC ?_
    refine At.ret2 (.inl rfl) rfl rfl (ResOf.all (i := 0) Tryd.isAgg25 Tryd.sizeOf25 rfl rfl rfl) rfl (fun w hw => ?_)
    exact ⟨by rw [find_no (fun h j hj => (hs.2 j (by omega)).2)], hw.mod⟩

theorem findR_p (v : Value) (l : List UInt8) (w : World) (hv : RdB w v l) (hlen : l.length ≤ 140737488355328) :
    PureC Tryd.prog 35 [v] (findV l) w := by
  refine enter0 Tryd.func35 rfl Tryd.ntmps35 rfl ?_
  simp only [envOf]
  refine At.seq ?_
  refine At.region ?_
  refine At.alloc Tryd.zeroValue25 rfl rfl (fun b1 => ?_)
  refine At.val (Val.assign rfl) rfl rfl rfl ?_
  refine At.nil ?_
  refine At.thenN ?_
  refine At.seq ?_
  refine At.seq ?_
  refine At.region ?_
  refine At.val (Val.move rfl) rfl rfl rfl ?_
  refine At.val (Val.lenRd hv Tryd.underlying54 rfl) rfl rfl rfl ?_
  refine At.val (Val.bin rfl rfl rfl) rfl rfl rfl ?_
  refine At.nil ?_
  refine At.thenN ?_
  refine At.cond rfl (fun h2 => ?_) (fun h2 => ?_)
  · skip
    try simp only [vN_T, vN_F, nmE_T, nmE_F, wI_T, wI_F, data_T, data_F, ino_T, ino_F, notT, notF, bneT, bneF, beqT, beqF, decT, decF] at h2
    refine At.seq ?_
    refine At.region ?_
    refine At.val (Val.build (fun a ha => by simp only [List.map_toArray, List.map_cons, List.map_nil] <;> rfl) (bld_25_)) rfl rfl rfl ?_
    refine At.storeAll (i := 0) Tryd.sizeOf25 rfl rfl rfl (by simp [Value.oneCell']) rfl rfl ?_
    simp only [List.set_cons_zero, List.set_cons_succ]
    refine At.val (Val.assign rfl) rfl rfl rfl ?_
    refine At.nil ?_
    refine At.thenN ?_
    refine At.retC ?_
    refine At.thenR ?_
    refine At.ret2 (.inl rfl) rfl rfl (ResOf.all (i := 0) Tryd.isAgg25 Tryd.sizeOf25 rfl rfl rfl) rfl (fun w hw => ?_)
    exact ⟨by rw [find_no (fun h => by omega)], hw.mod⟩
  · skip
    try simp only [vN_T, vN_F, nmE_T, nmE_F, wI_T, wI_F, data_T, data_F, ino_T, ino_F, notT, notF, bneT, bneF, beqT, beqF, decT, decF] at h2
    refine At.skipC ?_
    refine At.thenN ?_
    refine At.seq ?_
    refine At.seq ?_
    refine At.region ?_
    refine At.val (Val.assign rfl) rfl rfl rfl ?_
    refine At.nil ?_
    refine At.thenN ?_
    refine At.block ?_
    skip
    refine At.loop (σ := Nat) (fun k => k ≤ 2 ∧ ∀ j, j < k → ¬ HasSup l j) (fun k => [(0, v), (2, .pointer (some ⟨b1, 0, none⟩)), (4, .int .i64 (k : Int))]) (fun k => [blk b1 25 ([.int .i64 0, .int .i64 0, .int .i64 0, .int .i64 0])]) (fun k => 2 - k) 0 ⟨by omega, fun j h => by omega⟩ (Sub.cons rfl (Sub.cons rfl (Sub.cons rfl Sub.nil))) (List.Perm.refl _) ?_
    intro k hs
    refine At.seq ?_
    refine At.seq ?_
    refine At.region ?_
    refine At.val (Val.move rfl) rfl rfl rfl ?_
    refine At.val (Val.bin rfl rfl rfl) rfl rfl rfl ?_
    refine At.nil ?_
    refine At.thenN ?_
    refine At.cond rfl (fun h3 => ?_) (fun h3 => ?_)
    · skip
      try simp only [vN_T, vN_F, nmE_T, nmE_F, wI_T, wI_F, data_T, data_F, ino_T, ino_F, notT, notF, bneT, bneF, beqT, beqF, decT, decF] at h3
      have hk : k < 2 := by omega
      have h128 : 128 ≤ l.length := by omega
      have hL := lineAt_length (l := l) (k := k) (by omega)
      have hnum := num_lt (l := lineAt l k) 8 4
      have hp : -9223372036854775808 ≤ ((num (lineAt l k) 8 4 : Nat) : Int) ∧ ((num (lineAt l k) 8 4 : Nat) : Int) ≤ 9223372036854775807 := by omega
      refine At.skipC ?_
      refine At.thenN ?_
      refine At.seq ?_
      refine At.block ?_
      refine At.seq ?_
      refine At.region ?_
      refine At.alloc zero_30 zc_30 rfl (fun b4 => ?_)
      refine At.nil ?_
      refine At.thenN ?_
      refine At.seq ?_
      refine At.seq ?_
      refine At.region ?_
      refine At.val (Val.assign rfl) rfl rfl rfl ?_
      refine At.nil ?_
      refine At.thenN ?_
      refine At.block ?_
      skip
      refine At.loop (σ := Nat) (fun i => i ≤ 64) (fun i => [(0, v), (2, .pointer (some ⟨b1, 0, none⟩)), (4, .int .i64 (k : Int)), (5, .pointer (some ⟨b4, 0, none⟩)), (6, .int .i64 (i : Int))]) (fun i => [blk b4 30 ((fillTo (lineAt l k) (zs 64) i).map bv), blk b1 25 ([.int .i64 0, .int .i64 0, .int .i64 0, .int .i64 0])]) (fun i => 64 - i) 0 (by omega) (Sub.cons rfl (Sub.cons rfl (Sub.cons rfl (Sub.cons rfl (Sub.cons rfl Sub.nil))))) (by rw [fillTo_zero, zs_bv]) ?_
      intro i hi64
      refine At.seq ?_
      refine At.seq ?_
      refine At.region ?_
      refine At.val (Val.move rfl) rfl rfl rfl ?_
      refine At.val (Val.bin rfl rfl rfl) rfl rfl rfl ?_
      refine At.nil ?_
      refine At.thenN ?_
      refine At.cond rfl (fun h5 => ?_) (fun h5 => ?_)
      · skip
        try simp only [vN_T, vN_F, nmE_T, nmE_F, wI_T, wI_F, data_T, data_F, ino_T, ino_F, notT, notF, bneT, bneF, beqT, beqF, decT, decF] at h5
        have hi : i < 64 := by omega
        refine At.skipC ?_
        refine At.thenN ?_
        refine At.seq ?_
        refine At.block ?_
        refine At.region ?_
        refine At.val (Val.move rfl) rfl rfl rfl ?_
        refine At.val (Val.move rfl) rfl rfl rfl ?_
        refine At.val (Val.move rfl) rfl rfl rfl ?_
        first | refine At.val (Val.mulI rfl rfl (by omega) (by omega)) rfl rfl rfl ?_ | refine At.val (Val.bin rfl rfl rfl) rfl rfl rfl ?_
        refine At.val (Val.move rfl) rfl rfl rfl ?_
        first | refine At.val (Val.addI rfl rfl (by omega) (by omega)) rfl rfl rfl ?_ | refine At.val (Val.bin rfl rfl rfl) rfl rfl rfl ?_
        refine At.idxB hv Tryd.underlying54 Tryd.sizeOf5 rfl rfl (by omega) (by omega) rfl rfl (fun b6 o7 q8 hq9 hl10 hc11 => ?_)
        refine At.val (Val.loadOld Tryd.isAgg5 rfl hc11 (fun h => h)) rfl rfl rfl ?_
        refine At.val (Val.indexArr i (by omega) Tryd.underlying30 Tryd.sizeOf5 rfl rfl (by omega) (by omega)) rfl rfl rfl ?_
        refine At.store (i := 0) (v := bv q8) Tryd.sizeOf5 rfl rfl rfl rfl (by rw [fill_len (by rw [hL, zs_length]), hL]; exact hi) ?_
        simp only [List.set_cons_zero, List.set_cons_succ]
        rw [fill_step (lineAt_get hi hq9) (by rw [hL, zs_length])]
        refine At.nil ?_
        refine At.blkN ?_
        refine At.thenN ?_
        refine At.region ?_
        refine At.val (Val.move rfl) rfl rfl rfl ?_
        first | refine At.val (Val.addI rfl rfl (by omega) (by omega)) rfl rfl rfl ?_ | refine At.val (Val.bin rfl rfl rfl) rfl rfl rfl ?_
        refine At.val (Val.assign rfl) rfl rfl rfl ?_
        refine At.nil ?_
        refine At.thenN ?_
        exact At.again (i + 1) (by omega) (by omega) (Sub.cons rfl (Sub.cons rfl (Sub.cons rfl (Sub.cons rfl (Sub.cons (congrArg (fun z => some (Value.int IntKind.i64 z)) (by omega)) Sub.nil))))) (List.Perm.refl _)
      · skip
        try simp only [vN_T, vN_F, nmE_T, nmE_F, wI_T, wI_F, data_T, data_F, ino_T, ino_F, notT, notF, bneT, bneF, beqT, beqF, decT, decF] at h5
        obtain rfl : i = 64 := by omega
        rw [fillTo_all hL (zs_length 64)]
        refine At.exitC ?_
        refine At.thenX ?_
        refine At.thenX ?_
        refine At.blkX ?_
        refine At.thenN ?_
        refine At.seq ?_
        refine At.region ?_
        refine At.val (Val.loadAll (i := 0) Tryd.isAgg30 Tryd.sizeOf30 rfl rfl (by rw [List.length_map]; exact hL)) rfl rfl rfl ?_
        refine At.callP (fun w hw => openSupR_p (lineAt l k) w hL) Tryd.call27 rfl rfl ?_
        by_cases ho : OkSup (lineAt l k)
        · skip
          rw [openSup_yes ho]
          refine At.val (Val.move rfl) rfl rfl rfl ?_
          refine At.val (Val.extract rfl rfl) rfl rfl rfl ?_
          refine At.val (Val.extract rfl rfl) rfl rfl rfl ?_
          refine At.alloc Tryd.zeroValue23 rfl rfl (fun b12 => ?_)
          refine At.storeAll (i := 0) Tryd.sizeOf23 rfl rfl rfl (by simp [Value.oneCell']) rfl rfl ?_
          simp only [List.set_cons_zero, List.set_cons_succ]
          refine At.val (Val.assign rfl) rfl rfl rfl ?_
          refine At.nil ?_
          refine At.thenN ?_
          refine At.seq ?_
          refine At.region ?_
          refine At.val (Val.move rfl) rfl rfl rfl ?_
          refine At.val (Val.bin rfl rfl rfl) rfl rfl rfl ?_
          refine At.val (Val.move rfl) rfl rfl rfl ?_
          refine At.yes rfl rfl ?_
          refine At.val (Val.field 0 rfl fo_23_0 rfl) rfl rfl rfl ?_
          refine At.yes rfl rfl ?_
          refine At.val (Val.load (i := 0) Tryd.isAgg3 rfl rfl rfl) rfl rfl rfl ?_
          refine At.yes rfl rfl ?_
          first | refine At.val (Val.mulI rfl rfl (by omega) (by omega)) rfl rfl rfl ?_ | refine At.val (Val.bin rfl rfl rfl) rfl rfl rfl ?_
          refine At.yes rfl rfl ?_
          refine At.val (Val.move rfl) rfl rfl rfl ?_
          refine At.yes rfl rfl ?_
          refine At.val (Val.lenRd hv Tryd.underlying54 rfl) rfl rfl rfl ?_
          refine At.yes rfl rfl ?_
          refine At.val (Val.bin rfl rfl rfl) rfl rfl rfl ?_
          refine At.val (Val.pickT rfl rfl) rfl rfl rfl ?_
          refine At.nil ?_
          refine At.thenN ?_
          refine At.cond rfl (fun h13 => ?_) (fun h13 => ?_)
          · skip
            try simp only [vN_T, vN_F, nmE_T, nmE_F, wI_T, wI_F, data_T, data_F, ino_T, ino_F, notT, notF, bneT, bneF, beqT, beqF, decT, decF] at h13
            refine At.seq ?_
            refine At.region ?_
            refine At.val (Val.loadAll (i := 0) Tryd.isAgg23 Tryd.sizeOf23 rfl rfl rfl) rfl rfl rfl ?_
            refine At.callP (fun w hw => fitR_p _ _ _ w hp) Tryd.call21 rfl rfl ?_
            have hfit := fit_yes ho.1
            rw [hfit]
            · skip
              refine At.val (Val.extract rfl rfl) rfl rfl rfl ?_
              refine At.val (Val.extract rfl rfl) rfl rfl rfl ?_
              refine At.storeAll (i := 2) Tryd.sizeOf25 rfl rfl rfl (by simp [Value.oneCell']) rfl rfl ?_
              simp only [List.set_cons_zero, List.set_cons_succ]
              refine At.val (Val.assign rfl) rfl rfl rfl ?_
              refine At.nil ?_
              refine At.thenN ?_
              refine At.retC ?_
              refine At.blkR ?_
              refine At.thenR ?_
              refine At.thenR ?_
              refine At.blkR ?_
              refine At.thenR ?_
              refine At.ret2 (.inl rfl) rfl rfl (ResOf.all (i := 2) Tryd.isAgg25 Tryd.sizeOf25 rfl rfl rfl) rfl (fun w hw => ?_)
              exact ⟨by rw [find_at (k := k) hk h128 ⟨ho, by omega⟩ hs.2]; unfold fitAt; rw [hfit]; rfl, hw.mod⟩
          · skip
            try simp only [vN_T, vN_F, nmE_T, nmE_F, wI_T, wI_F, data_T, data_F, ino_T, ino_F, notT, notF, bneT, bneF, beqT, beqF, decT, decF] at h13
            refine At.skipC ?_
            refine At.blkN ?_
            refine At.thenN ?_
            refine At.region ?_
            refine At.val (Val.move rfl) rfl rfl rfl ?_
            first | refine At.val (Val.addI rfl rfl (by omega) (by omega)) rfl rfl rfl ?_ | refine At.val (Val.bin rfl rfl rfl) rfl rfl rfl ?_
            refine At.val (Val.assign rfl) rfl rfl rfl ?_
            refine At.nil ?_
            refine At.thenN ?_
            refine At.drop 1 ?_
            simp only [List.eraseIdx_cons_zero, List.eraseIdx_cons_succ]
            refine At.drop 0 ?_
            simp only [List.eraseIdx_cons_zero, List.eraseIdx_cons_succ]
            exact At.again (k + 1) ⟨by omega, fun j hj => by rcases Nat.lt_or_ge j k with h | h; exact hs.2 j h; obtain rfl : j = k := (by omega); exact fun q => by first | exact ho q.1 | (have := q.2; omega)⟩ (by omega) (Sub.cons rfl (Sub.cons rfl (Sub.cons (congrArg (fun z => some (Value.int IntKind.i64 z)) (by omega)) Sub.nil))) (List.Perm.refl _)
        · skip
          rw [openSup_no ho]
          refine At.val (Val.move rfl) rfl rfl rfl ?_
          refine At.val (Val.extract rfl rfl) rfl rfl rfl ?_
          refine At.val (Val.extract rfl rfl) rfl rfl rfl ?_
          refine At.alloc Tryd.zeroValue23 rfl rfl (fun b14 => ?_)
          refine At.storeAll (i := 0) Tryd.sizeOf23 rfl rfl rfl (by simp [Value.oneCell']) rfl rfl ?_
          simp only [List.set_cons_zero, List.set_cons_succ]
          refine At.val (Val.assign rfl) rfl rfl rfl ?_
          refine At.nil ?_
          refine At.thenN ?_
          refine At.seq ?_
          refine At.region ?_
          refine At.val (Val.move rfl) rfl rfl rfl ?_
          refine At.val (Val.bin rfl rfl rfl) rfl rfl rfl ?_
          refine At.val (Val.move rfl) rfl rfl rfl ?_
          refine At.no rfl rfl rfl rfl ?_
          refine At.no rfl rfl rfl rfl ?_
          refine At.no rfl rfl rfl rfl ?_
          refine At.no rfl rfl rfl rfl ?_
          refine At.no rfl rfl rfl rfl ?_
          refine At.no rfl rfl rfl rfl ?_
          refine At.val (Val.pickF rfl rfl) rfl rfl rfl ?_
          refine At.nil ?_
          refine At.thenN ?_
          refine At.condF rfl ?_
          refine At.skipC ?_
          refine At.blkN ?_
          refine At.thenN ?_
          refine At.region ?_
          refine At.val (Val.move rfl) rfl rfl rfl ?_
          first | refine At.val (Val.addI rfl rfl (by omega) (by omega)) rfl rfl rfl ?_ | refine At.val (Val.bin rfl rfl rfl) rfl rfl rfl ?_
          refine At.val (Val.assign rfl) rfl rfl rfl ?_
          refine At.nil ?_
          refine At.thenN ?_
          refine At.drop 1 ?_
          simp only [List.eraseIdx_cons_zero, List.eraseIdx_cons_succ]
          refine At.drop 0 ?_
          simp only [List.eraseIdx_cons_zero, List.eraseIdx_cons_succ]
          exact At.again (k + 1) ⟨by omega, fun j hj => by rcases Nat.lt_or_ge j k with h | h; exact hs.2 j h; obtain rfl : j = k := (by omega); exact fun q => by first | exact ho q.1 | (have := q.2; omega)⟩ (by omega) (Sub.cons rfl (Sub.cons rfl (Sub.cons (congrArg (fun z => some (Value.int IntKind.i64 z)) (by omega)) Sub.nil))) (List.Perm.refl _)
    · skip
      try simp only [vN_T, vN_F, nmE_T, nmE_F, wI_T, wI_F, data_T, data_F, ino_T, ino_F, notT, notF, bneT, bneF, beqT, beqF, decT, decF] at h3
      refine At.exitC ?_
      refine At.thenX ?_
      refine At.thenX ?_
      refine At.blkX ?_
      refine At.thenN ?_
      refine At.seq ?_
      refine At.region ?_
      refine At.val (Val.build (fun a ha => by simp only [List.map_toArray, List.map_cons, List.map_nil] <;> rfl) (bld_25_)) rfl rfl rfl ?_
      refine At.storeAll (i := 0) Tryd.sizeOf25 rfl rfl rfl (by simp [Value.oneCell']) rfl rfl ?_
      simp only [List.set_cons_zero, List.set_cons_succ]
      refine At.val (Val.assign rfl) rfl rfl rfl ?_
      refine At.nil ?_
      refine At.thenN ?_
      refine At.retC ?_
      refine At.ret2 (.inl rfl) rfl rfl (ResOf.all (i := 0) Tryd.isAgg25 Tryd.sizeOf25 rfl rfl rfl) rfl (fun w hw => ?_)
      exact ⟨by rw [find_no (fun h j hj => hs.2 j (by omega))], hw.mod⟩

end Go.Proofs.YtoiebgnmknbkjaaDoor
