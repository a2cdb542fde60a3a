/- Bytes of words; good lists of undos. -/
import Derived.Test.YtoiebgnmknbkjaaDoorB2
import Derived.Test.YtoiebgnmknbkjaaDoorA3
import Derived.Test.YtoiebgnmknbkjaaDoorB1
import Derived.Test.YtoiebgnmknbkjaaDoorWv
import Derived.Test.YtoiebgnmknbkjaaDoorB3
set_option linter.unusedVariables false
set_option linter.unusedSimpArgs false
namespace Go.Proofs.YtoiebgnmknbkjaaDoor
open Go Go.Wk

def bytesW (ws : List (BitVec 64)) : List UInt8 := ws.flatMap fun x => le 8 x.toNat
theorem bytesW_append (a b : List (BitVec 64)) : bytesW (a ++ b) = bytesW a ++ bytesW b := by simp [bytesW]
theorem bytesW_length (a : List (BitVec 64)) : (bytesW a).length = 8 * a.length := by
  induction a with
  | nil => rfl
  | cons c a ih => simp only [bytesW, List.flatMap_cons, List.length_append, List.length_cons, le_length] at *; rw [ih]; omega
theorem bytesW_snoc (a : List (BitVec 64)) (x : BitVec 64) : bytesW (a ++ [x]) = bytesW a ++ le 8 x.toNat := by rw [bytesW_append]; simp [bytesW]
def SlotWd (a : Int) : Prop := 2048 ≤ a ∧ a ≤ 18431 ∧ (a - 2048) % 8 = 0 ∧ (a - 2048) % 64 ≤ 16
instance (a : Int) : Decidable (SlotWd a) := by unfold SlotWd; infer_instance
def hasAt (L : List (Int × BitVec 64)) (a : Int) : Bool := L.any fun d => d.1 == a
theorem hasAt_T {L : List (Int × BitVec 64)} {a : Int} : hasAt L a = true ↔ ∃ (i : Nat) (d : Int × BitVec 64), L[i]? = some d ∧ d.1 = a := by
  unfold hasAt
  rw [List.any_eq_true]
  constructor
  · rintro ⟨d, hd, h⟩
    obtain ⟨i, hi, rfl⟩ := List.getElem_of_mem hd
    exact ⟨i, _, List.getElem?_eq_getElem hi, by simpa using h⟩
  · rintro ⟨i, d, hd, h⟩
    exact ⟨d, List.mem_of_getElem? hd, by simpa using h⟩
def OkAt (L : List (Int × BitVec 64)) (j : Nat) : Prop := ∀ c, L[j]? = some c → SlotWd c.1 ∧ hasAt (L.take j) c.1 = false
def GoodUn (L : List (Int × BitVec 64)) : Prop := 1 ≤ L.length ∧ L.length ≤ 8 ∧ ∀ j, j < L.length → OkAt L j
noncomputable instance (L : List (Int × BitVec 64)) : Decidable (GoodUn L) := Classical.propDecidable _
theorem good_no1 {L : List (Int × BitVec 64)} {j : Nat} {c : Int × BitVec 64} (h : L[j]? = some c) (hn : ¬ SlotWd c.1) : ¬ GoodUn L := fun g => hn (g.2.2 j (List.getElem?_eq_some_iff.1 h).1 c h).1
theorem good_no2 {L : List (Int × BitVec 64)} {j : Nat} {c : Int × BitVec 64} (h : L[j]? = some c) (hn : hasAt (L.take j) c.1 = true) : ¬ GoodUn L := fun g => by
  have := (g.2.2 j (List.getElem?_eq_some_iff.1 h).1 c h).2
  rw [hn] at this; cases this
theorem okAt_of {L : List (Int × BitVec 64)} {j : Nat} {c : Int × BitVec 64} (h : L[j]? = some c) (h1 : SlotWd c.1) (h2 : hasAt (L.take j) c.1 = false) : OkAt L j := fun d hd => by
  rw [h] at hd; obtain rfl := Option.some.inj hd; exact ⟨h1, h2⟩


theorem wrap_over {a : Int} (h : ¬ -9223372036854773760 ≤ a) (h0 : -9223372036854775808 ≤ a) : IntKind.i64.wrap (a - 2048) = a - 2048 + 18446744073709551616 := by
  have e : (a - 2048) % (2 ^ 64 : Int) = a - 2048 + 18446744073709551616 := by
    rw [show (2 : Int) ^ 64 = 18446744073709551616 from rfl]; omega
  unfold IntKind.wrap
  show (let m := (a - 2048) % (2 ^ 64 : Int); if (IntKind.i64.signed && decide (m ≥ (2 ^ (64 - 1) : Int))) = true then m - (2 ^ 64 : Int) else m) = _
  rw [e]
  rw [if_neg]
  simp [IntKind.signed]
  omega

theorem bytes_n (v : Value) (ws : List (BitVec 64)) (w : World) (hv : RdW w v ws) (hlen : ws.length ≤ 1000000) :
    NewRow Tryd.prog 103 [v] 5 1 (bytesW ws).length ((bytesW ws).map bv) w := by
  refine enter (feet []) [] Tryd.func103 rfl Tryd.ntmps103 rfl ⟨by simp, by simp, by simp, Mod.refl _ _⟩ ?_
  simp only [envOf]
  refine At.seq ?_
  refine At.region ?_
  refine At.val (Val.assign rfl) rfl rfl rfl ?_
  refine At.nil ?_
  refine At.thenN ?_
  refine At.seq ?_
  refine At.region ?_
  refine At.val (Val.move rfl) rfl rfl rfl ?_
  refine At.val (Val.lenRd hv Tryd.underlying156 rfl) rfl rfl rfl ?_
  refine At.val (Val.mulI rfl rfl (by omega) (by omega)) rfl rfl rfl ?_
  rw [show (8 : Int) * (ws.length : Int) = ((8 * ws.length : Nat) : Int) from by omega]
  refine At.makeRow0B (c := 8 * ws.length) Tryd.underlying54 info_5 rfl rfl rfl rfl rfl (by omega) rfl (fun v1 => ?_)
  refine At.val (Val.assign rfl) rfl rfl rfl ?_
  refine At.nil ?_
  refine At.thenN ?_
  refine At.seq ?_
  refine At.seq ?_
  refine At.region ?_
  refine At.val (Val.move rfl) rfl rfl rfl ?_
  refine At.val (Val.lenRd hv Tryd.underlying156 rfl) rfl rfl rfl ?_
  refine At.val (Val.move rfl) rfl rfl rfl ?_
  refine At.nil ?_
  refine At.thenN ?_
  refine At.block ?_
  skip
  refine At.loop (σ := Nat × Value) (fun s => s.1 ≤ ws.length) (fun s => [(3, s.2), (11, v), (12, .int .i64 (ws.length : Int)), (13, .int .i64 (s.1 : Int))]) (fun s => [brow 5 s.2 (bytesW (ws.take s.1))]) (fun s => ws.length - s.1) (0, v1) (Nat.zero_le _) (Sub.cons rfl (Sub.cons rfl (Sub.cons rfl (Sub.cons rfl Sub.nil)))) (List.Perm.refl _) ?_
  intro s hs
  obtain ⟨k, vk⟩ := s
  dsimp only at hs ⊢
  refine At.seq ?_
  refine At.region ?_
  refine At.val (Val.bin rfl rfl rfl) rfl rfl rfl ?_
  refine At.nil ?_
  refine At.thenN ?_
  refine At.seq ?_
  refine At.cond rfl (fun h2 => ?_) (fun h2 => ?_)
  · skip
    try simp only [vN_T, vN_F, nmE_T, nmE_F, wI_T, wI_F, data_T, data_F, ino_T, ino_F, notT, notF, bneT, bneF, beqT, beqF, decT, decF] at h2
    have hk : k < ws.length := by omega
    have hbl := bytesW_length (ws.take k)
    have htl : (ws.take k).length = k := by rw [List.length_take]; omega
    refine At.skipC ?_
    refine At.thenN ?_
    refine At.seq ?_
    refine At.block ?_
    refine At.seq ?_
    refine At.region ?_
    refine At.idxF hv Tryd.underlying156 Tryd.sizeOf40 rfl rfl (by omega) (by omega) rfl rfl (fun b3 o4 q5 hq6 hc7 => ?_)
    refine At.val (Val.loadOld Tryd.isAgg40 rfl hc7 (fun h => by simp [feet] at h)) rfl rfl rfl ?_
    refine At.val (Val.assign rfl) rfl rfl rfl ?_
    refine At.nil ?_
    refine At.thenN ?_
    refine At.seq ?_
    refine At.region ?_
    refine At.val (Val.move rfl) rfl rfl rfl ?_
    refine At.callP (fun w hw => lay_p q5 w) Tryd.call125 rfl rfl ?_
    refine At.alloc zero_181 zc_181 rfl (fun b9 => ?_)
    refine At.storeAll (i := 0) Tryd.sizeOf181 rfl rfl (by simp [le_length]) (by simp [Value.oneCell']) rfl (by simp) ?_
    simp only [List.set_cons_zero, List.set_cons_succ]
    refine At.nil ?_
    refine At.thenN ?_
    refine At.region ?_
    refine At.val (Val.move rfl) rfl rfl rfl ?_
    refine At.val (Val.cutArr 0 8 0 8 8 Tryd.underlying181 Tryd.sizeOf5 rfl rfl rfl (by decide) (by decide) rfl rfl rfl) rfl rfl rfl ?_
    refine At.appendBlkB (i := 1) (j := 0) (m := le 8 q5.toNat) (by_ := 1) Tryd.underlying54 info_5 rfl rfl rfl rfl rfl rfl rfl rfl (le_length ..) (by omega) (by omega) rfl (fun v10 => ?_)
    simp only [List.set_cons_zero, List.set_cons_succ]
    refine At.val (Val.assign rfl) rfl rfl rfl ?_
    refine At.nil ?_
    refine At.blkN ?_
    refine At.thenN ?_
    refine At.region ?_
    first | refine At.val (Val.addI rfl rfl (by omega) (by omega)) rfl rfl rfl ?_ | refine At.val (Val.bin rfl rfl rfl) rfl rfl rfl ?_
    refine At.val (Val.move rfl) rfl rfl rfl ?_
    refine At.nil ?_
    refine At.thenN ?_
    refine At.drop 0 ?_
    simp only [List.eraseIdx_cons_zero, List.eraseIdx_cons_succ]
    exact At.again (k + 1, v10) (show k + 1 ≤ _ by omega) (by dsimp only; omega) (Sub.cons rfl (Sub.cons rfl (Sub.cons rfl (Sub.cons (congrArg (fun z => some (Value.int IntKind.i64 z)) (by omega)) Sub.nil)))) (by rw [List.take_succ_of_get (by have := hq6; rwa [Int.toNat_natCast] at this), bytesW_snoc])
  · skip
    try simp only [vN_T, vN_F, nmE_T, nmE_F, wI_T, wI_F, data_T, data_F, ino_T, ino_F, notT, notF, bneT, bneF, beqT, beqF, decT, decF] at h2
    obtain rfl : k = ws.length := by omega
    rw [List.take_length]
    refine At.exitC ?_
    refine At.thenX ?_
    refine At.thenX ?_
    refine At.blkX ?_
    refine At.thenN ?_
    refine At.seq ?_
    refine At.region ?_
    refine At.val (Val.move rfl) rfl rfl rfl ?_
    refine At.val (Val.assign rfl) rfl rfl rfl ?_
    refine At.nil ?_
    refine At.thenN ?_
    refine At.retC ?_
    refine At.ret1 (.inl rfl) rfl rfl rfl (fun w hw => ?_)
    exact ⟨vk, rfl, hw.drop (List.singleton_sublist.2 (List.mem_of_getElem? (i := 0) rfl))⟩

theorem undoEq_p (c : Int × BitVec 64) (bc : Nat) (a : Int) (w : World) (hc : w.cell? ⟨bc, 0, none⟩ = some (.int .i64 a)) :
    PureC Tryd.prog 134 [.agg #[.int .i64 c.1, b64 c.2], .pointer (some ⟨bc, 0, none⟩)] (.bool (c.1 == a)) w := by
  refine enter0 Tryd.func134 rfl Tryd.ntmps134 rfl ?_
  simp only [envOf]
  refine At.seq ?_
  refine At.region ?_
  refine At.box rfl rfl rfl (fun b1 => ?_)
  refine At.val (Val.assign rfl) rfl rfl rfl ?_
  refine At.nil ?_
  refine At.thenN ?_
  refine At.seq ?_
  refine At.region ?_
  refine At.val (Val.field 0 rfl fo_111_0 rfl) rfl rfl rfl ?_
  refine At.val (Val.load (i := 0) Tryd.isAgg3 rfl rfl rfl) rfl rfl rfl ?_
  refine At.val (Val.field 0 rfl fo_111_0 rfl) rfl rfl rfl ?_
  refine At.val (Val.loadOld Tryd.isAgg3 rfl hc (fun h => h)) rfl rfl rfl ?_
  refine At.val (Val.bin rfl rfl rfl) rfl rfl rfl ?_
  refine At.val (Val.assign rfl) rfl rfl rfl ?_
  refine At.nil ?_
  refine At.thenN ?_
  refine At.retC ?_
  refine At.ret1 (.inl rfl) rfl rfl rfl (fun w hw => ?_)
  exact ⟨rfl, hw.mod⟩

theorem undoIdx_x (v : Value) (L : List (Int × BitVec 64)) (bc : Nat) (a : Int) (w : World) (hv : RdP w v L) (hc : w.cell? ⟨bc, 0, none⟩ = some (.int .i64 a)) (hlen : L.length ≤ 140737488355328) :
    SomeC Tryd.prog 137 [v, .func (.func 134) #[] #[.pointer (some ⟨bc, 0, none⟩)]] (fun r => ∃ n : Int, r = .int .i64 n ∧ (0 ≤ n ↔ hasAt L a = true)) w := by
  refine enter0 Tryd.func137 rfl Tryd.ntmps137 rfl ?_
  simp only [envOf]
  refine At.seq ?_
  refine At.region ?_
  refine At.val (Val.assign rfl) rfl rfl rfl ?_
  refine At.nil ?_
  refine At.thenN ?_
  refine At.seq ?_
  refine At.seq ?_
  refine At.region ?_
  refine At.val (Val.move rfl) rfl rfl rfl ?_
  refine At.val (Val.lenRd hv Tryd.underlying102 rfl) rfl rfl rfl ?_
  refine At.val (Val.move rfl) rfl rfl rfl ?_
  refine At.nil ?_
  refine At.thenN ?_
  refine At.block ?_
  skip
  refine At.loop (σ := Nat) (fun k => k ≤ L.length ∧ hasAt (L.take k) a = false) (fun k => [(0, v), (1, .func (.func 134) #[] #[.pointer (some ⟨bc, 0, none⟩)]), (7, .int .i64 (L.length : Int)), (8, .int .i64 (k : Int))]) (fun k => []) (fun k => L.length - k) 0 ⟨Nat.zero_le _, rfl⟩ (Sub.cons rfl (Sub.cons rfl (Sub.cons rfl (Sub.cons rfl Sub.nil)))) (List.Perm.refl _) ?_
  intro k hs
  refine At.seq ?_
  refine At.region ?_
  refine At.val (Val.bin rfl rfl rfl) rfl rfl rfl ?_
  refine At.nil ?_
  refine At.thenN ?_
  refine At.seq ?_
  refine At.cond rfl (fun h1 => ?_) (fun h1 => ?_)
  · skip
    try simp only [vN_T, vN_F, nmE_T, nmE_F, wI_T, wI_F, data_T, data_F, ino_T, ino_F, notT, notF, bneT, bneF, beqT, beqF, decT, decF] at h1
    have hk : k < L.length := by omega
    refine At.skipC ?_
    refine At.thenN ?_
    refine At.seq ?_
    refine At.block ?_
    refine At.seq ?_
    refine At.region ?_
    refine At.val (Val.move rfl) rfl rfl rfl ?_
    refine At.val (Val.assign rfl) rfl rfl rfl ?_
    refine At.nil ?_
    refine At.thenN ?_
    refine At.seq ?_
    refine At.region ?_
    refine At.val (Val.move rfl) rfl rfl rfl ?_
    refine At.val (Val.move rfl) rfl rfl rfl ?_
    refine At.val (Val.move rfl) rfl rfl rfl ?_
    refine At.idxP hv Tryd.underlying102 Tryd.sizeOf111 rfl rfl (by omega) (by omega) rfl rfl (fun b2 o3 q4 hq5 hc6 hd7 => ?_)
    refine At.val (Val.loadPair Tryd.isAgg111 Tryd.sizeOf111 rfl hc6 hd7 (fun h => h)) rfl rfl rfl ?_
    refine At.callV rfl Tryd.call134 rfl rfl (fun w hw => undoEq_p q4 bc a w (hw.mod.cell hc)) ?_
    refine At.nil ?_
    refine At.thenN ?_
    refine At.cond rfl (fun h8 => ?_) (fun h8 => ?_)
    · skip
      try simp only [vN_T, vN_F, nmE_T, nmE_F, wI_T, wI_F, data_T, data_F, ino_T, ino_F, notT, notF, bneT, bneF, beqT, beqF, decT, decF] at h8
      refine At.seq ?_
      refine At.region ?_
      refine At.val (Val.move rfl) rfl rfl rfl ?_
      refine At.val (Val.assign rfl) rfl rfl rfl ?_
      refine At.nil ?_
      refine At.thenN ?_
      refine At.retC ?_
      refine At.blkR ?_
      refine At.thenR ?_
      refine At.thenR ?_
      refine At.blkR ?_
      refine At.thenR ?_
      refine At.ret1 (.inl rfl) rfl rfl rfl (fun w hw => ?_)
      exact ⟨_, ⟨(k : Int), rfl, ⟨fun _ => hasAt_T.2 ⟨k, _, (by have := hq5; rwa [Int.toNat_natCast] at this), by assumption⟩, fun _ => by omega⟩⟩, rfl, hw.mod⟩
    · skip
      try simp only [vN_T, vN_F, nmE_T, nmE_F, wI_T, wI_F, data_T, data_F, ino_T, ino_F, notT, notF, bneT, bneF, beqT, beqF, decT, decF] at h8
      refine At.skipC ?_
      refine At.blkN ?_
      refine At.thenN ?_
      refine At.region ?_
      first | refine At.val (Val.addI rfl rfl (by omega) (by omega)) rfl rfl rfl ?_ | refine At.val (Val.bin rfl rfl rfl) rfl rfl rfl ?_
      refine At.val (Val.move rfl) rfl rfl rfl ?_
      refine At.nil ?_
      refine At.thenN ?_
      exact At.again (k + 1) ⟨by omega, by rw [List.take_succ_of_get (by have := hq5; rwa [Int.toNat_natCast] at this)]; unfold hasAt; rw [List.any_append]; unfold hasAt at hs; rw [hs.2]; simp; assumption⟩ (by omega) (Sub.cons rfl (Sub.cons rfl (Sub.cons rfl (Sub.cons (congrArg (fun z => some (Value.int IntKind.i64 z)) (by omega)) Sub.nil)))) (List.Perm.refl _)
  · skip
    try simp only [vN_T, vN_F, nmE_T, nmE_F, wI_T, wI_F, data_T, data_F, ino_T, ino_F, notT, notF, bneT, bneF, beqT, beqF, decT, decF] at h1
    obtain rfl : k = L.length := by omega
    refine At.exitC ?_
    refine At.thenX ?_
    refine At.thenX ?_
    refine At.blkX ?_
    refine At.thenN ?_
    refine At.seq ?_
    refine At.region ?_
    refine At.val (Val.assign rfl) rfl rfl rfl ?_
    refine At.nil ?_
    refine At.thenN ?_
    refine At.retC ?_
    refine At.ret1 (.inl rfl) rfl rfl rfl (fun w hw => ?_)
    exact ⟨_, ⟨-1, rfl, by have h2 := hs.2; rw [List.take_length] at h2; rw [h2]; decide⟩, rfl, hw.mod⟩

theorem undoHas_p (v : Value) (L : List (Int × BitVec 64)) (bc : Nat) (a : Int) (w : World) (hv : RdP w v L) (hc : w.cell? ⟨bc, 0, none⟩ = some (.int .i64 a)) (hlen : L.length ≤ 140737488355328) :
    PureC Tryd.prog 133 [v, .func (.func 134) #[] #[.pointer (some ⟨bc, 0, none⟩)]] (.bool (hasAt L a)) w := by
  refine enter0 Tryd.func133 rfl Tryd.ntmps133 rfl ?_
  simp only [envOf]
  refine At.seq ?_
  refine At.region ?_
  refine At.val (Val.assign rfl) rfl rfl rfl ?_
  refine At.nil ?_
  refine At.thenN ?_
  refine At.seq ?_
  refine At.region ?_
  refine At.val (Val.move rfl) rfl rfl rfl ?_
  refine At.val (Val.move rfl) rfl rfl rfl ?_
  refine At.callX (fun w hw => undoIdx_x v L bc a w (hv.mod hw.mod) (hw.mod.cell hc) hlen) Tryd.call137 rfl rfl (fun v1 hv2 => ?_)
  obtain ⟨n, rfl, hn⟩ := hv2
  refine At.val (Val.bin rfl rfl rfl) rfl rfl rfl ?_
  refine At.val (Val.assign rfl) rfl rfl rfl ?_
  refine At.nil ?_
  refine At.thenN ?_
  refine At.retC ?_
  refine At.ret1 (.inl rfl) rfl rfl rfl (fun w hw => ?_)
  exact ⟨retB (by apply Bool.eq_iff_iff.2; rw [decide_eq_true_eq]; exact hn), hw.mod⟩

theorem goodUn_p (v : Value) (L : List (Int × BitVec 64)) (w : World) (hv : RdP w v L) (hlen : L.length ≤ 140737488355328) (hbd : ∀ c ∈ L, -9223372036854775808 ≤ c.1 ∧ c.1 ≤ 9223372036854775807) :
    PureC Tryd.prog 114 [v] (.bool (decide (GoodUn L))) w := by
  refine enter0 Tryd.func114 rfl Tryd.ntmps114 rfl ?_
  simp only [envOf]
  refine At.seq ?_
  refine At.region ?_
  refine At.val (Val.assign rfl) rfl rfl rfl ?_
  refine At.nil ?_
  refine At.thenN ?_
  refine At.seq ?_
  refine At.seq ?_
  refine At.region ?_
  refine At.weaken [(0, _), (2, _)] (Sub.cons rfl (Sub.cons rfl Sub.nil)) ?_
  refine At.boolMeet 8 13 (decide (L.length = 0 ∨ 8 < L.length)) ?_ ?_
  · skip
    simp only [List.take_succ_cons, List.take_zero]
    refine At.val (Val.move rfl) rfl rfl rfl ?_
    refine At.val (Val.lenRd hv Tryd.underlying102 rfl) rfl rfl rfl ?_
    refine At.val (Val.bin rfl rfl rfl) rfl rfl rfl ?_
    refine At.val (Val.move rfl) rfl rfl rfl ?_
    refine At.split (t := 9) rfl (fun h1 => ?_) (fun h1 => ?_)
    · skip
      try simp only [vN_T, vN_F, nmE_T, nmE_F, wI_T, wI_F, data_T, data_F, ino_T, ino_F, notT, notF, bneT, bneF, beqT, beqF, decT, decF] at h1
      refine At.no rfl rfl rfl rfl ?_
      refine At.no rfl rfl rfl rfl ?_
      refine At.no rfl rfl rfl rfl ?_
      refine At.val (Val.pickT rfl rfl) rfl rfl rfl ?_
      refine At.nil ?_
      exact At.boolEnd rfl (by first | rfl | exact (decide_eq_true (by omega)).symm | exact (decide_eq_false (by omega)).symm | (apply Bool.eq_iff_iff.2; simp only [decide_eq_true_eq, beq_iff_eq, bne_iff_ne, ne_eq, wI_T, data_T, ino_T, vN_T, nmE_T, Bool.not_eq_true', wI_F, data_F, ino_F, vN_F, nmE_F, decide_eq_false_iff_not]; omega)) (by repeat (first | exact Sub.nil | refine Sub.cons rfl ?_))
    · skip
      try simp only [vN_T, vN_F, nmE_T, nmE_F, wI_T, wI_F, data_T, data_F, ino_T, ino_F, notT, notF, bneT, bneF, beqT, beqF, decT, decF] at h1
      refine At.yes rfl rfl ?_
      refine At.val (Val.move rfl) rfl rfl rfl ?_
      refine At.yes rfl rfl ?_
      refine At.val (Val.lenRd hv Tryd.underlying102 rfl) rfl rfl rfl ?_
      refine At.yes rfl rfl ?_
      refine At.val (Val.bin rfl rfl rfl) rfl rfl rfl ?_
      refine At.val (Val.pickF rfl rfl) rfl rfl rfl ?_
      refine At.nil ?_
      exact At.boolEnd rfl (by first | rfl | exact (decide_eq_true (by omega)).symm | exact (decide_eq_false (by omega)).symm | (apply Bool.eq_iff_iff.2; simp only [decide_eq_true_eq, beq_iff_eq, bne_iff_ne, ne_eq, wI_T, data_T, ino_T, vN_T, nmE_T, Bool.not_eq_true', wI_F, data_F, ino_F, vN_F, nmE_F, decide_eq_false_iff_not]; omega)) (by repeat (first | exact Sub.nil | refine Sub.cons rfl ?_))
  · skip
    simp only [List.drop_succ_cons, List.drop_zero]
    refine At.nil ?_
    refine At.thenN ?_
    refine At.cond rfl (fun h2 => ?_) (fun h2 => ?_)
    · skip
      try simp only [vN_T, vN_F, nmE_T, nmE_F, wI_T, wI_F, data_T, data_F, ino_T, ino_F, notT, notF, bneT, bneF, beqT, beqF, decT, decF] at h2
      refine At.seq ?_
      refine At.region ?_
      refine At.val (Val.assign rfl) rfl rfl rfl ?_
      refine At.nil ?_
      refine At.thenN ?_
      refine At.retC ?_
      refine At.thenR ?_
      refine At.ret1 (.inl rfl) rfl rfl rfl (fun w hw => ?_)
      exact ⟨retB (by first | exact (decide_eq_false (fun g => by have h1 := g.1; have h2 := g.2.1; omega)).symm | exact (decide_eq_false (good_no1 hqk hno)).symm | exact (decide_eq_false (good_no2 hqk (by assumption))).symm | exact (decide_eq_true ⟨by omega, by omega, hs.2⟩).symm), hw.mod⟩
    · skip
      try simp only [vN_T, vN_F, nmE_T, nmE_F, wI_T, wI_F, data_T, data_F, ino_T, ino_F, notT, notF, bneT, bneF, beqT, beqF, decT, decF] at h2
      refine At.skipC ?_
      refine At.thenN ?_
      refine At.seq ?_
      refine At.seq ?_
      refine At.region ?_
      refine At.val (Val.move rfl) rfl rfl rfl ?_
      refine At.val (Val.lenRd hv Tryd.underlying102 rfl) rfl rfl rfl ?_
      refine At.val (Val.move rfl) rfl rfl rfl ?_
      refine At.nil ?_
      refine At.thenN ?_
      refine At.block ?_
      skip
      refine At.loop (σ := Nat) (fun k => k ≤ L.length ∧ ∀ j, j < k → OkAt L j) (fun k => [(0, v), (14, v), (15, .int .i64 (L.length : Int)), (16, .int .i64 (k : Int))]) (fun k => []) (fun k => L.length - k) 0 ⟨Nat.zero_le _, fun j h => by omega⟩ (Sub.cons rfl (Sub.cons rfl (Sub.cons rfl (Sub.cons rfl Sub.nil)))) (List.Perm.refl _) ?_
      intro k hs
      refine At.seq ?_
      refine At.region ?_
      refine At.val (Val.bin rfl rfl rfl) rfl rfl rfl ?_
      refine At.nil ?_
      refine At.thenN ?_
      refine At.seq ?_
      refine At.cond rfl (fun h3 => ?_) (fun h3 => ?_)
      · skip
        try simp only [vN_T, vN_F, nmE_T, nmE_F, wI_T, wI_F, data_T, data_F, ino_T, ino_F, notT, notF, bneT, bneF, beqT, beqF, decT, decF] at h3
        have hk : k < L.length := by omega
        refine At.skipC ?_
        refine At.thenN ?_
        refine At.seq ?_
        refine At.block ?_
        refine At.seq ?_
        refine At.region ?_
        refine At.val (Val.move rfl) rfl rfl rfl ?_
        refine At.idxP hv Tryd.underlying102 Tryd.sizeOf111 rfl rfl (by omega) (by omega) rfl rfl (fun b4 o5 q6 hq7 hc8 hd9 => ?_)
        refine At.val (Val.loadPair Tryd.isAgg111 Tryd.sizeOf111 rfl hc8 hd9 (fun h => h)) rfl rfl rfl ?_
        refine At.alloc Tryd.zeroValue111 rfl rfl (fun b10 => ?_)
        refine At.val (Val.assign rfl) rfl rfl rfl ?_
        refine At.storeAll (i := 0) Tryd.sizeOf111 rfl rfl rfl (by simp [Value.oneCell']) rfl rfl ?_
        simp only [List.set_cons_zero, List.set_cons_succ]
        refine At.nil ?_
        have hqk := hq7
        rw [Int.toNat_natCast] at hqk
        have hbq := hbd _ (List.mem_of_getElem? hqk)
        refine At.thenN ?_
        refine At.seq ?_
        refine At.region ?_
        refine At.val (Val.field 0 rfl fo_111_0 rfl) rfl rfl rfl ?_
        refine At.val (Val.load (i := 0) Tryd.isAgg3 rfl rfl rfl) rfl rfl rfl ?_
        refine At.val (Val.bin rfl rfl rfl) rfl rfl rfl ?_
        by_cases hlo : -9223372036854773760 ≤ q6.1
        · skip
          rw [wrap_i64 (n := q6.1 - 2048) (by omega) (by omega)]
          refine At.val (Val.assign rfl) rfl rfl rfl ?_
          refine At.nil ?_
          refine At.thenN ?_
          refine At.seq ?_
          refine At.seq ?_
          refine At.region ?_
          refine At.weaken [(0, _), (14, _), (15, _), (16, _), (17, _), (18, _), (19, _), (20, _), (4, _), (3, _), (21, _), (22, _), (23, _), (5, _)] (Sub.cons rfl (Sub.cons rfl (Sub.cons rfl (Sub.cons rfl (Sub.cons rfl (Sub.cons rfl (Sub.cons rfl (Sub.cons rfl (Sub.cons rfl (Sub.cons rfl (Sub.cons rfl (Sub.cons rfl (Sub.cons rfl (Sub.cons rfl Sub.nil)))))))))))))) ?_
          refine At.boolMeet 13 36 (!decide (SlotWd q6.1)) ?_ ?_
          · skip
            simp only [List.take_succ_cons, List.take_zero]
            refine At.val (Val.move rfl) rfl rfl rfl ?_
            refine At.callP (fun w hw => within_p _ _ _ w) Tryd.call73 rfl rfl ?_
            refine At.val (Val.not rfl) rfl rfl rfl ?_
            refine At.val (Val.move rfl) rfl rfl rfl ?_
            refine At.split (t := 27) rfl (fun h11 => ?_) (fun h11 => ?_)
            · skip
              try simp only [vN_T, vN_F, nmE_T, nmE_F, wI_T, wI_F, data_T, data_F, ino_T, ino_F, notT, notF, bneT, bneF, beqT, beqF, decT, decF] at h11
              refine At.no rfl rfl rfl rfl ?_
              refine At.no rfl rfl rfl rfl ?_
              refine At.no rfl rfl rfl rfl ?_
              refine At.val (Val.pickT rfl rfl) rfl rfl rfl ?_
              refine At.val (Val.move rfl) rfl rfl rfl ?_
              refine At.no rfl rfl rfl rfl ?_
              refine At.no rfl rfl rfl rfl ?_
              refine At.no rfl rfl rfl rfl ?_
              refine At.val (Val.pickT rfl rfl) rfl rfl rfl ?_
              refine At.nil ?_
              exact At.boolEnd rfl (by first | (rw [decide_eq_true (show SlotWd q6.1 by unfold SlotWd; omega)]; rfl) | (rw [decide_eq_false (show ¬ SlotWd q6.1 by unfold SlotWd; omega)]; rfl) | (apply Bool.eq_iff_iff.2; simp only [Bool.not_eq_true', decide_eq_false_iff_not, decide_eq_true_eq]; unfold SlotWd; omega)) (by repeat (first | exact Sub.nil | refine Sub.cons rfl ?_))
            · skip
              try simp only [vN_T, vN_F, nmE_T, nmE_F, wI_T, wI_F, data_T, data_F, ino_T, ino_F, notT, notF, bneT, bneF, beqT, beqF, decT, decF] at h11
              refine At.yes rfl rfl ?_
              refine At.val (Val.move rfl) rfl rfl rfl ?_
              refine At.yes rfl rfl ?_
              first | refine At.val (Val.remI rfl rfl (by omega) (by decide)) rfl rfl rfl ?_ | refine At.val (Val.rem rfl rfl (by decide)) rfl rfl rfl ?_
              refine At.yes rfl rfl ?_
              refine At.val (Val.bin rfl rfl rfl) rfl rfl rfl ?_
              refine At.val (Val.pickF rfl rfl) rfl rfl rfl ?_
              refine At.val (Val.move rfl) rfl rfl rfl ?_
              refine At.split (t := 32) rfl (fun h12 => ?_) (fun h12 => ?_)
              · skip
                try simp only [vN_T, vN_F, nmE_T, nmE_F, wI_T, wI_F, data_T, data_F, ino_T, ino_F, notT, notF, bneT, bneF, beqT, beqF, decT, decF] at h12
                refine At.no rfl rfl rfl rfl ?_
                refine At.no rfl rfl rfl rfl ?_
                refine At.no rfl rfl rfl rfl ?_
                refine At.val (Val.pickT rfl rfl) rfl rfl rfl ?_
                refine At.nil ?_
                exact At.boolEnd rfl (by first | (rw [decide_eq_true (show SlotWd q6.1 by unfold SlotWd; omega)]; rfl) | (rw [decide_eq_false (show ¬ SlotWd q6.1 by unfold SlotWd; omega)]; rfl) | (apply Bool.eq_iff_iff.2; simp only [Bool.not_eq_true', decide_eq_false_iff_not, decide_eq_true_eq]; unfold SlotWd; omega)) (by repeat (first | exact Sub.nil | refine Sub.cons rfl ?_))
              · skip
                try simp only [vN_T, vN_F, nmE_T, nmE_F, wI_T, wI_F, data_T, data_F, ino_T, ino_F, notT, notF, bneT, bneF, beqT, beqF, decT, decF] at h12
                refine At.yes rfl rfl ?_
                refine At.val (Val.move rfl) rfl rfl rfl ?_
                refine At.yes rfl rfl ?_
                first | refine At.val (Val.remI rfl rfl (by omega) (by decide)) rfl rfl rfl ?_ | refine At.val (Val.rem rfl rfl (by decide)) rfl rfl rfl ?_
                refine At.yes rfl rfl ?_
                refine At.val (Val.bin rfl rfl rfl) rfl rfl rfl ?_
                refine At.val (Val.pickF rfl rfl) rfl rfl rfl ?_
                refine At.nil ?_
                exact At.boolEnd rfl (by first | (rw [decide_eq_true (show SlotWd q6.1 by unfold SlotWd; omega)]; rfl) | (rw [decide_eq_false (show ¬ SlotWd q6.1 by unfold SlotWd; omega)]; rfl) | (apply Bool.eq_iff_iff.2; simp only [Bool.not_eq_true', decide_eq_false_iff_not, decide_eq_true_eq]; unfold SlotWd; omega)) (by repeat (first | exact Sub.nil | refine Sub.cons rfl ?_))
          · skip
            simp only [List.drop_succ_cons, List.drop_zero]
            refine At.nil ?_
            refine At.thenN ?_
            refine At.cond rfl (fun h13 => ?_) (fun h13 => ?_)
            · skip
              try simp only [vN_T, vN_F, nmE_T, nmE_F, wI_T, wI_F, data_T, data_F, ino_T, ino_F, notT, notF, bneT, bneF, beqT, beqF, decT, decF] at h13
              have hno := h13
              refine At.seq ?_
              refine At.region ?_
              refine At.val (Val.assign rfl) rfl rfl rfl ?_
              refine At.nil ?_
              refine At.thenN ?_
              refine At.retC ?_
              refine At.thenR ?_
              refine At.blkR ?_
              refine At.thenR ?_
              refine At.thenR ?_
              refine At.blkR ?_
              refine At.thenR ?_
              refine At.ret1 (.inl rfl) rfl rfl rfl (fun w hw => ?_)
              exact ⟨retB (by first | exact (decide_eq_false (fun g => by have h1 := g.1; have h2 := g.2.1; omega)).symm | exact (decide_eq_false (good_no1 hqk hno)).symm | exact (decide_eq_false (good_no2 hqk (by assumption))).symm | exact (decide_eq_true ⟨by omega, by omega, hs.2⟩).symm), hw.mod⟩
            · skip
              try simp only [vN_T, vN_F, nmE_T, nmE_F, wI_T, wI_F, data_T, data_F, ino_T, ino_F, notT, notF, bneT, bneF, beqT, beqF, decT, decF] at h13
              have hyes := h13
              refine At.skipC ?_
              refine At.thenN ?_
              refine At.seq ?_
              refine At.region ?_
              refine At.val (Val.move rfl) rfl rfl rfl ?_
              refine At.val (Val.move rfl) rfl rfl rfl ?_
              refine At.cutP (k) hv Tryd.underlying102 Tryd.sizeOf111 rfl ⟨_, _, rfl, by omega, by omega⟩ (by omega) rfl rfl (fun v14 hv15 => ?_)
              refine At.val (Val.makeFunc rfl) rfl rfl rfl ?_
              refine At.callP (fun w hw => undoHas_p _ (L.take k) b10 q6.1 w (hv15.mod hw.mod) ((hw.blk (i := 0) rfl).cell 0) (by rw [List.length_take]; omega)) Tryd.call133 rfl rfl ?_
              refine At.nil ?_
              refine At.thenN ?_
              refine At.cond rfl (fun h16 => ?_) (fun h16 => ?_)
              · skip
                try simp only [vN_T, vN_F, nmE_T, nmE_F, wI_T, wI_F, data_T, data_F, ino_T, ino_F, notT, notF, bneT, bneF, beqT, beqF, decT, decF] at h16
                refine At.seq ?_
                refine At.region ?_
                refine At.val (Val.assign rfl) rfl rfl rfl ?_
                refine At.nil ?_
                refine At.thenN ?_
                refine At.retC ?_
                refine At.blkR ?_
                refine At.thenR ?_
                refine At.thenR ?_
                refine At.blkR ?_
                refine At.thenR ?_
                refine At.ret1 (.inl rfl) rfl rfl rfl (fun w hw => ?_)
                exact ⟨retB (by first | exact (decide_eq_false (fun g => by have h1 := g.1; have h2 := g.2.1; omega)).symm | exact (decide_eq_false (good_no1 hqk hno)).symm | exact (decide_eq_false (good_no2 hqk (by assumption))).symm | exact (decide_eq_true ⟨by omega, by omega, hs.2⟩).symm), hw.mod⟩
              · skip
                try simp only [vN_T, vN_F, nmE_T, nmE_F, wI_T, wI_F, data_T, data_F, ino_T, ino_F, notT, notF, bneT, bneF, beqT, beqF, decT, decF] at h16
                refine At.skipC ?_
                refine At.blkN ?_
                refine At.thenN ?_
                refine At.region ?_
                first | refine At.val (Val.addI rfl rfl (by omega) (by omega)) rfl rfl rfl ?_ | refine At.val (Val.bin rfl rfl rfl) rfl rfl rfl ?_
                refine At.val (Val.move rfl) rfl rfl rfl ?_
                refine At.nil ?_
                refine At.thenN ?_
                refine At.drop 0 ?_
                simp only [List.eraseIdx_cons_zero, List.eraseIdx_cons_succ]
                exact At.again (k + 1) ⟨by omega, fun j hj => by rcases Nat.lt_or_ge j k with h | h; exact hs.2 j h; obtain rfl : j = k := (by omega); exact okAt_of hqk hyes (by assumption)⟩ (by omega) (Sub.cons rfl (Sub.cons rfl (Sub.cons rfl (Sub.cons (congrArg (fun z => some (Value.int IntKind.i64 z)) (by omega)) Sub.nil)))) (List.Perm.refl _)
        · skip
          have hno : ¬ SlotWd q6.1 := by unfold SlotWd; omega
          obtain ⟨ov, hov⟩ : ∃ ov, ov = IntKind.i64.wrap (q6.1 - 2048) := ⟨_, rfl⟩
          have hov' : ov = q6.1 - 2048 + 18446744073709551616 := by rw [hov]; exact wrap_over hlo hbq.1
          rw [← hov]
          refine At.val (Val.assign rfl) rfl rfl rfl ?_
          refine At.nil ?_
          refine At.thenN ?_
          refine At.seq ?_
          refine At.seq ?_
          refine At.region ?_
          refine At.weaken [(0, _), (14, _), (15, _), (16, _), (17, _), (18, _), (19, _), (20, _), (4, _), (3, _), (21, _), (22, _), (23, _), (5, _)] (Sub.cons rfl (Sub.cons rfl (Sub.cons rfl (Sub.cons rfl (Sub.cons rfl (Sub.cons rfl (Sub.cons rfl (Sub.cons rfl (Sub.cons rfl (Sub.cons rfl (Sub.cons rfl (Sub.cons rfl (Sub.cons rfl (Sub.cons rfl Sub.nil)))))))))))))) ?_
          refine At.boolMeet 13 36 (!decide (SlotWd q6.1)) ?_ ?_
          · skip
            simp only [List.take_succ_cons, List.take_zero]
            refine At.val (Val.move rfl) rfl rfl rfl ?_
            refine At.callP (fun w hw => within_p _ _ _ w) Tryd.call73 rfl rfl ?_
            refine At.val (Val.not rfl) rfl rfl rfl ?_
            refine At.val (Val.move rfl) rfl rfl rfl ?_
            refine At.split (t := 27) rfl (fun h17 => ?_) (fun h17 => ?_)
            · skip
              try simp only [vN_T, vN_F, nmE_T, nmE_F, wI_T, wI_F, data_T, data_F, ino_T, ino_F, notT, notF, bneT, bneF, beqT, beqF, decT, decF] at h17
              refine At.no rfl rfl rfl rfl ?_
              refine At.no rfl rfl rfl rfl ?_
              refine At.no rfl rfl rfl rfl ?_
              refine At.val (Val.pickT rfl rfl) rfl rfl rfl ?_
              refine At.val (Val.move rfl) rfl rfl rfl ?_
              refine At.no rfl rfl rfl rfl ?_
              refine At.no rfl rfl rfl rfl ?_
              refine At.no rfl rfl rfl rfl ?_
              refine At.val (Val.pickT rfl rfl) rfl rfl rfl ?_
              refine At.nil ?_
              exact At.boolEnd rfl (by first | (rw [decide_eq_true (show SlotWd q6.1 by unfold SlotWd; omega)]; rfl) | (rw [decide_eq_false (show ¬ SlotWd q6.1 by unfold SlotWd; omega)]; rfl) | (apply Bool.eq_iff_iff.2; simp only [Bool.not_eq_true', decide_eq_false_iff_not, decide_eq_true_eq]; unfold SlotWd; omega)) (by repeat (first | exact Sub.nil | refine Sub.cons rfl ?_))
            · skip
              try simp only [vN_T, vN_F, nmE_T, nmE_F, wI_T, wI_F, data_T, data_F, ino_T, ino_F, notT, notF, bneT, bneF, beqT, beqF, decT, decF] at h17
              refine At.yes rfl rfl ?_
              refine At.val (Val.move rfl) rfl rfl rfl ?_
              refine At.yes rfl rfl ?_
              first | refine At.val (Val.remI rfl rfl (by omega) (by decide)) rfl rfl rfl ?_ | refine At.val (Val.rem rfl rfl (by decide)) rfl rfl rfl ?_
              refine At.yes rfl rfl ?_
              refine At.val (Val.bin rfl rfl rfl) rfl rfl rfl ?_
              refine At.val (Val.pickF rfl rfl) rfl rfl rfl ?_
              refine At.val (Val.move rfl) rfl rfl rfl ?_
              refine At.split (t := 32) rfl (fun h18 => ?_) (fun h18 => ?_)
              · skip
                try simp only [vN_T, vN_F, nmE_T, nmE_F, wI_T, wI_F, data_T, data_F, ino_T, ino_F, notT, notF, bneT, bneF, beqT, beqF, decT, decF] at h18
                refine At.no rfl rfl rfl rfl ?_
                refine At.no rfl rfl rfl rfl ?_
                refine At.no rfl rfl rfl rfl ?_
                refine At.val (Val.pickT rfl rfl) rfl rfl rfl ?_
                refine At.nil ?_
                exact At.boolEnd rfl (by first | (rw [decide_eq_true (show SlotWd q6.1 by unfold SlotWd; omega)]; rfl) | (rw [decide_eq_false (show ¬ SlotWd q6.1 by unfold SlotWd; omega)]; rfl) | (apply Bool.eq_iff_iff.2; simp only [Bool.not_eq_true', decide_eq_false_iff_not, decide_eq_true_eq]; unfold SlotWd; omega)) (by repeat (first | exact Sub.nil | refine Sub.cons rfl ?_))
              · skip
                try simp only [vN_T, vN_F, nmE_T, nmE_F, wI_T, wI_F, data_T, data_F, ino_T, ino_F, notT, notF, bneT, bneF, beqT, beqF, decT, decF] at h18
                refine At.yes rfl rfl ?_
                refine At.val (Val.move rfl) rfl rfl rfl ?_
                refine At.yes rfl rfl ?_
                first | refine At.val (Val.remI rfl rfl (by omega) (by decide)) rfl rfl rfl ?_ | refine At.val (Val.rem rfl rfl (by decide)) rfl rfl rfl ?_
                refine At.yes rfl rfl ?_
                refine At.val (Val.bin rfl rfl rfl) rfl rfl rfl ?_
                refine At.val (Val.pickF rfl rfl) rfl rfl rfl ?_
                refine At.nil ?_
                exact At.boolEnd rfl (by first | (rw [decide_eq_true (show SlotWd q6.1 by unfold SlotWd; omega)]; rfl) | (rw [decide_eq_false (show ¬ SlotWd q6.1 by unfold SlotWd; omega)]; rfl) | (apply Bool.eq_iff_iff.2; simp only [Bool.not_eq_true', decide_eq_false_iff_not, decide_eq_true_eq]; unfold SlotWd; omega)) (by repeat (first | exact Sub.nil | refine Sub.cons rfl ?_))
          · skip
            simp only [List.drop_succ_cons, List.drop_zero]
            refine At.nil ?_
            refine At.thenN ?_
            refine At.cond rfl (fun h19 => ?_) (fun h19 => ?_)
            · skip
              try simp only [vN_T, vN_F, nmE_T, nmE_F, wI_T, wI_F, data_T, data_F, ino_T, ino_F, notT, notF, bneT, bneF, beqT, beqF, decT, decF] at h19
              have hno := h19
              refine At.seq ?_
              refine At.region ?_
              refine At.val (Val.assign rfl) rfl rfl rfl ?_
              refine At.nil ?_
              refine At.thenN ?_
              refine At.retC ?_
              refine At.thenR ?_
              refine At.blkR ?_
              refine At.thenR ?_
              refine At.thenR ?_
              refine At.blkR ?_
              refine At.thenR ?_
              refine At.ret1 (.inl rfl) rfl rfl rfl (fun w hw => ?_)
              exact ⟨retB (by first | exact (decide_eq_false (fun g => by have h1 := g.1; have h2 := g.2.1; omega)).symm | exact (decide_eq_false (good_no1 hqk hno)).symm | exact (decide_eq_false (good_no2 hqk (by assumption))).symm | exact (decide_eq_true ⟨by omega, by omega, hs.2⟩).symm), hw.mod⟩
            · skip
              try simp only [vN_T, vN_F, nmE_T, nmE_F, wI_T, wI_F, data_T, data_F, ino_T, ino_F, notT, notF, bneT, bneF, beqT, beqF, decT, decF] at h19
              have hyes := h19
              refine At.skipC ?_
              refine At.thenN ?_
              refine At.seq ?_
              refine At.region ?_
              refine At.val (Val.move rfl) rfl rfl rfl ?_
              refine At.val (Val.move rfl) rfl rfl rfl ?_
              refine At.cutP (k) hv Tryd.underlying102 Tryd.sizeOf111 rfl ⟨_, _, rfl, by omega, by omega⟩ (by omega) rfl rfl (fun v20 hv21 => ?_)
              refine At.val (Val.makeFunc rfl) rfl rfl rfl ?_
              refine At.callP (fun w hw => undoHas_p _ (L.take k) b10 q6.1 w (hv21.mod hw.mod) ((hw.blk (i := 0) rfl).cell 0) (by rw [List.length_take]; omega)) Tryd.call133 rfl rfl ?_
              refine At.nil ?_
              refine At.thenN ?_
              refine At.cond rfl (fun h22 => ?_) (fun h22 => ?_)
              · skip
                try simp only [vN_T, vN_F, nmE_T, nmE_F, wI_T, wI_F, data_T, data_F, ino_T, ino_F, notT, notF, bneT, bneF, beqT, beqF, decT, decF] at h22
                refine At.seq ?_
                refine At.region ?_
                refine At.val (Val.assign rfl) rfl rfl rfl ?_
                refine At.nil ?_
                refine At.thenN ?_
                refine At.retC ?_
                refine At.blkR ?_
                refine At.thenR ?_
                refine At.thenR ?_
                refine At.blkR ?_
                refine At.thenR ?_
                refine At.ret1 (.inl rfl) rfl rfl rfl (fun w hw => ?_)
                exact ⟨retB (by first | exact (decide_eq_false (fun g => by have h1 := g.1; have h2 := g.2.1; omega)).symm | exact (decide_eq_false (good_no1 hqk hno)).symm | exact (decide_eq_false (good_no2 hqk (by assumption))).symm | exact (decide_eq_true ⟨by omega, by omega, hs.2⟩).symm), hw.mod⟩
              · skip
                try simp only [vN_T, vN_F, nmE_T, nmE_F, wI_T, wI_F, data_T, data_F, ino_T, ino_F, notT, notF, bneT, bneF, beqT, beqF, decT, decF] at h22
                refine At.skipC ?_
                refine At.blkN ?_
                refine At.thenN ?_
                refine At.region ?_
                first | refine At.val (Val.addI rfl rfl (by omega) (by omega)) rfl rfl rfl ?_ | refine At.val (Val.bin rfl rfl rfl) rfl rfl rfl ?_
                refine At.val (Val.move rfl) rfl rfl rfl ?_
                refine At.nil ?_
                refine At.thenN ?_
                refine At.drop 0 ?_
                simp only [List.eraseIdx_cons_zero, List.eraseIdx_cons_succ]
                exact At.again (k + 1) ⟨by omega, fun j hj => by rcases Nat.lt_or_ge j k with h | h; exact hs.2 j h; obtain rfl : j = k := (by omega); exact okAt_of hqk hyes (by assumption)⟩ (by omega) (Sub.cons rfl (Sub.cons rfl (Sub.cons rfl (Sub.cons (congrArg (fun z => some (Value.int IntKind.i64 z)) (by omega)) Sub.nil)))) (List.Perm.refl _)
      · skip
        try simp only [vN_T, vN_F, nmE_T, nmE_F, wI_T, wI_F, data_T, data_F, ino_T, ino_F, notT, notF, bneT, bneF, beqT, beqF, decT, decF] at h3
        obtain rfl : k = L.length := by omega
        refine At.exitC ?_
        refine At.thenX ?_
        refine At.thenX ?_
        refine At.blkX ?_
        refine At.thenN ?_
        refine At.seq ?_
        refine At.region ?_
        refine At.val (Val.assign rfl) rfl rfl rfl ?_
        refine At.nil ?_
        refine At.thenN ?_
        refine At.retC ?_
        refine At.ret1 (.inl rfl) rfl rfl rfl (fun w hw => ?_)
        exact ⟨retB (by first | exact (decide_eq_false (fun g => by have h1 := g.1; have h2 := g.2.1; omega)).symm | exact (decide_eq_false (good_no1 hqk hno)).symm | exact (decide_eq_false (good_no2 hqk (by assumption))).symm | exact (decide_eq_true ⟨by omega, by omega, hs.2⟩).symm), hw.mod⟩

end Go.Proofs.YtoiebgnmknbkjaaDoor
