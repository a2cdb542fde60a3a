/- Parts of the proof, joined: see the law's text. -/
import Derived.Test.YtfchinibjhcejaaDoorU2
import Derived.Test.YtfchinibjhcejaaDoorU1
import Derived.Shelf.Slices.CompactI
import Derived.Test.YtfchinibjhcejaaDoorChecked
set_option linter.unusedVariables false
set_option linter.unusedSimpArgs false
namespace Go.Proofs.YtfchinibjhcejaaDoor
open Go Go.Wk
def bytesW (ws : List (BitVec 64)) : List UInt8 := ws.flatMap fun x => le 8 x.toNat
theorem bytesW_append (a b : List (BitVec 64)) : bytesW (a ++ b) = bytesW a ++ bytesW b := by simp [bytesW]
theorem bytesW_length (a : List (BitVec 64)) : (bytesW a).length = 8 * a.length := by
  induction a with
  | nil => rfl
  | cons c a ih => simp only [bytesW, List.flatMap_cons, List.length_append, List.length_cons, le_length] at *; rw [ih]; omega
theorem bytesW_snoc (a : List (BitVec 64)) (x : BitVec 64) : bytesW (a ++ [x]) = bytesW a ++ le 8 x.toNat := by rw [bytesW_append]; simp [bytesW]
def SlotWd (a : Int) : Prop := 2048 ≤ a ∧ a ≤ 18431 ∧ (a - 2048) % 8 = 0 ∧ (a - 2048) % 64 ≤ 16
instance (a : Int) : Decidable (SlotWd a) := by unfold SlotWd; infer_instance
def hasAt (L : List (Int × BitVec 64)) (a : Int) : Bool := L.any fun d => d.1 == a
theorem hasAt_T {L : List (Int × BitVec 64)} {a : Int} : hasAt L a = true ↔ ∃ (i : Nat) (d : Int × BitVec 64), L[i]? = some d ∧ d.1 = a := by
  unfold hasAt
  rw [List.any_eq_true]
  constructor
  · rintro ⟨d, hd, h⟩
    obtain ⟨i, hi, rfl⟩ := List.getElem_of_mem hd
    exact ⟨i, _, List.getElem?_eq_getElem hi, by simpa using h⟩
  · rintro ⟨i, d, hd, h⟩
    exact ⟨d, List.mem_of_getElem? hd, by simpa using h⟩
def OkAt (L : List (Int × BitVec 64)) (j : Nat) : Prop := ∀ c, L[j]? = some c → SlotWd c.1 ∧ hasAt (L.take j) c.1 = false
def GoodUn (L : List (Int × BitVec 64)) : Prop := 1 ≤ L.length ∧ L.length ≤ 8 ∧ ∀ j, j < L.length → OkAt L j
noncomputable instance (L : List (Int × BitVec 64)) : Decidable (GoodUn L) := Classical.propDecidable _
theorem good_no1 {L : List (Int × BitVec 64)} {j : Nat} {c : Int × BitVec 64} (h : L[j]? = some c) (hn : ¬ SlotWd c.1) : ¬ GoodUn L := fun g => hn (g.2.2 j (List.getElem?_eq_some_iff.1 h).1 c h).1
theorem good_no2 {L : List (Int × BitVec 64)} {j : Nat} {c : Int × BitVec 64} (h : L[j]? = some c) (hn : hasAt (L.take j) c.1 = true) : ¬ GoodUn L := fun g => by
  have := (g.2.2 j (List.getElem?_eq_some_iff.1 h).1 c h).2
  rw [hn] at this; cases this
theorem okAt_of {L : List (Int × BitVec 64)} {j : Nat} {c : Int × BitVec 64} (h : L[j]? = some c) (h1 : SlotWd c.1) (h2 : hasAt (L.take j) c.1 = false) : OkAt L j := fun d hd => by
  rw [h] at hd; obtain rfl := Option.some.inj hd; exact ⟨h1, h2⟩
theorem wrap_over {a : Int} (h : ¬ -9223372036854773760 ≤ a) (h0 : -9223372036854775808 ≤ a) : IntKind.i64.wrap (a - 2048) = a - 2048 + 18446744073709551616 := by
  have e : (a - 2048) % (2 ^ 64 : Int) = a - 2048 + 18446744073709551616 := by
    rw [show (2 : Int) ^ 64 = 18446744073709551616 from rfl]; omega
  unfold IntKind.wrap
  show (let m := (a - 2048) % (2 ^ 64 : Int); if (IntKind.i64.signed && decide (m ≥ (2 ^ (64 - 1) : Int))) = true then m - (2 ^ 64 : Int) else m) = _
  rw [e]
  rw [if_neg]
  simp [IntKind.signed]
  omega
theorem bytes_n (v : Value) (ws : List (BitVec 64)) (w : World) (hv : RdW w v ws) (hlen : ws.length ≤ 1000000) :
    NewRow Tryd.prog 39 [v] 5 1 (bytesW ws).length ((bytesW ws).map bv) w := by
 refine enter (feet []) [] Tryd.func39 rfl Tryd.ntmps39 rfl ⟨by simp, by simp, by simp, Mod.refl _ _⟩ ?_
 simp only [envOf]
 refine tR (tA rfl rfl (tE (tR (tM rfl rfl (tV (Val.lenRd hv Tryd.underlying60 rfl) rfl (tV (Val.mulI rfl rfl (by omega) (by omega)) rfl ?_))))))
 rw [show (8 : Int) * (ws.length : Int) = ((8 * ws.length : Nat) : Int) from by omega]
 refine At.makeRow0B (c := 8 * ws.length) Tryd.underlying29 info_5 rfl rfl rfl rfl rfl (by omega) rfl (fun v1 => (tA rfl rfl (tE (At.seq (tR (tM rfl rfl (tV (Val.lenRd hv Tryd.underlying60 rfl) rfl (tM rfl rfl (tE (At.block ?_))))))))))
 skip
 refine At.loop (σ := Nat × Value) (fun s => s.1 ≤ ws.length) (fun s => [(3, s.2), (11, v), (12, .int .i64 (ws.length : Int)), (13, .int .i64 (s.1 : Int))]) (fun s => [brow 5 s.2 (bytesW (ws.take s.1))]) (fun s => ws.length - s.1) (0, v1) (Nat.zero_le _) (Sub.cons rfl (Sub.cons rfl (Sub.cons rfl (Sub.cons rfl Sub.nil)))) (List.Perm.refl _) ?_
 intro s hs
 obtain ⟨k, vk⟩ := s
 dsimp only at hs ⊢
 refine tR (tV (Val.bin rfl rfl rfl) rfl (tE (At.seq ?_)))
 refine At.cond rfl (fun h2 => ?_) (fun h2 => ?_)
 ·try simp only [vN_T, vN_F, nmE_T, nmE_F, wI_T, wI_F, data_T, data_F, ino_T, ino_F, notT, notF, bneT, bneF, beqT, beqF, decT, decF] at h2
  have hk : k < ws.length := by omega
  have hbl := bytesW_length (ws.take k)
  have htl : (ws.take k).length = k := by rw [List.length_take]; omega
  refine At.skipC (At.thenN (At.seq (At.block (tR (At.idxF hv Tryd.underlying60 Tryd.sizeOf38 rfl rfl (by omega) (by omega) rfl rfl (fun b3 o4 q5 hq6 hc7 => (tV (Val.loadOld Tryd.isAgg38 rfl hc7 (fun h => by simp [feet] at h)) rfl (tA rfl rfl (tE (tR (tM rfl rfl (At.callP (fun w hw => lay_p q5 w) Tryd.call67 rfl rfl (At.alloc zero_115 zc_115 rfl (fun b9 => (At.storeAll (i := 0) Tryd.sizeOf115 rfl rfl (by simp [le_length]) (by simp [Value.oneCell']) rfl (by simp) ?_)))))))))))))))
  simp only [sc0, scS]
  refine tE (At.region (tM rfl rfl (tV (Val.cutArr 0 8 0 8 8 Tryd.underlying115 Tryd.sizeOf5 rfl rfl rfl (by decide) (by decide) rfl rfl rfl) rfl (At.appendBlkB (i := 1) (j := 0) (m := le 8 q5.toNat) (by_ := 1) Tryd.underlying29 info_5 rfl rfl rfl rfl rfl rfl rfl rfl (le_length ..) (by omega) (by omega) rfl (fun v10 => ?_)))))
  simp only [sc0, scS]
  refine tA rfl rfl (At.nil (At.blkN (At.thenN (At.region ?_))))
  first | refine tV (Val.addI rfl rfl (by omega) (by omega)) rfl ?_ | refine tV (Val.bin rfl rfl rfl) rfl ?_
  refine tM rfl rfl (tE (At.drop 0 ?_))
  simp only [ec0, ecS]
  exact At.again (k + 1, v10) (show k + 1 ≤ _ by omega) (by dsimp only; omega) (Sub.cons rfl (Sub.cons rfl (Sub.cons rfl (Sub.cons (congrArg (fun z => some (Value.int IntKind.i64 z)) (by omega)) Sub.nil)))) (by rw [List.take_succ_of_get (by have := hq6; rwa [Int.toNat_natCast] at this), bytesW_snoc])
 ·try simp only [vN_T, vN_F, nmE_T, nmE_F, wI_T, wI_F, data_T, data_F, ino_T, ino_F, notT, notF, bneT, bneF, beqT, beqF, decT, decF] at h2
  obtain rfl : k = ws.length := by omega
  rw [List.take_length]
  refine At.exitC (At.thenX (At.thenX (At.blkX (At.thenN (tR (tM rfl rfl (tA rfl rfl (tE (At.retC (At.ret1 (.inl rfl) rfl rfl rfl (fun w hw => ?_)))))))))))
  exact ⟨vk, rfl, hw.drop (List.singleton_sublist.2 (List.mem_of_getElem? (i := 0) rfl))⟩
theorem undoEq_p (c : Int × BitVec 64) (bc : Nat) (a : Int) (w : World) (hc : w.cell? ⟨bc, 0, none⟩ = some (.int .i64 a)) :
    PureC Tryd.prog 77 [.agg #[.int .i64 c.1, b64 c.2], .pointer (some ⟨bc, 0, none⟩)] (.bool (c.1 == a)) w := by
 refine enter0 Tryd.func77 rfl Tryd.ntmps77 rfl ?_
 simp only [envOf]
 refine tR (At.box rfl rfl rfl (fun b1 => (tA rfl rfl (tE (tR (tV (Val.field 0 rfl fo_108_0 rfl) rfl (tV (Val.load (i := 0) Tryd.isAgg3 rfl rfl rfl) rfl (tV (Val.field 0 rfl fo_108_0 rfl) rfl (tV (Val.loadOld Tryd.isAgg3 rfl hc (fun h => h)) rfl (tV (Val.bin rfl rfl rfl) rfl (tA rfl rfl (tE (At.retC (At.ret1 (.inl rfl) rfl rfl rfl (fun w hw => ?_)))))))))))))))
 exact ⟨rfl, hw.mod⟩
theorem undoIdx_x (v : Value) (L : List (Int × BitVec 64)) (bc : Nat) (a : Int) (w : World) (hv : RdP w v L) (hc : w.cell? ⟨bc, 0, none⟩ = some (.int .i64 a)) (hlen : L.length ≤ 140737488355328) :
    SomeC Tryd.prog 81 [v, .func (.func 77) #[] #[.pointer (some ⟨bc, 0, none⟩)]] (fun r => ∃ n : Int, r = .int .i64 n ∧ (0 ≤ n ↔ hasAt L a = true)) w := by
 refine enter0 Tryd.func81 rfl Tryd.ntmps81 rfl ?_
 simp only [envOf]
 refine tR (tA rfl rfl (tE (At.seq (tR (tM rfl rfl (tV (Val.lenRd hv Tryd.underlying25 rfl) rfl (tM rfl rfl (tE (At.block ?_)))))))))
 skip
 refine At.loop (σ := Nat) (fun k => k ≤ L.length ∧ hasAt (L.take k) a = false) (fun k => [(0, v), (1, .func (.func 77) #[] #[.pointer (some ⟨bc, 0, none⟩)]), (7, .int .i64 (L.length : Int)), (8, .int .i64 (k : Int))]) (fun k => []) (fun k => L.length - k) 0 ⟨Nat.zero_le _, rfl⟩ (Sub.cons rfl (Sub.cons rfl (Sub.cons rfl (Sub.cons rfl Sub.nil)))) (List.Perm.refl _) ?_
 intro k hs
 refine tR (tV (Val.bin rfl rfl rfl) rfl (tE (At.seq ?_)))
 refine At.cond rfl (fun h1 => ?_) (fun h1 => ?_)
 ·try simp only [vN_T, vN_F, nmE_T, nmE_F, wI_T, wI_F, data_T, data_F, ino_T, ino_F, notT, notF, bneT, bneF, beqT, beqF, decT, decF] at h1
  have hk : k < L.length := by omega
  refine At.skipC (At.thenN (At.seq (At.block (tR (tM rfl rfl (tA rfl rfl (tE (tR (tM rfl rfl (tM rfl rfl (tM rfl rfl (At.idxP hv Tryd.underlying25 Tryd.sizeOf108 rfl rfl (by omega) (by omega) rfl rfl (fun b2 o3 q4 hq5 hc6 hd7 => (tV (Val.loadPair Tryd.isAgg108 Tryd.sizeOf108 rfl hc6 hd7 (fun h => h)) rfl (At.callV rfl Tryd.call77 rfl rfl (fun w hw => undoEq_p q4 bc a w (hw.mod.cell hc)) (tE ?_))))))))))))))))
  refine At.cond rfl (fun h8 => ?_) (fun h8 => ?_)
  ·try simp only [vN_T, vN_F, nmE_T, nmE_F, wI_T, wI_F, data_T, data_F, ino_T, ino_F, notT, notF, bneT, bneF, beqT, beqF, decT, decF] at h8
   refine tR (tM rfl rfl (tA rfl rfl (tE (At.retC (At.blkR (At.thenR (At.thenR (At.blkR (At.thenR (At.ret1 (.inl rfl) rfl rfl rfl (fun w hw => ?_)))))))))))
   exact ⟨_, ⟨(k : Int), rfl, ⟨fun _ => hasAt_T.2 ⟨k, _, (by have := hq5; rwa [Int.toNat_natCast] at this), by assumption⟩, fun _ => by omega⟩⟩, rfl, hw.mod⟩
  ·try simp only [vN_T, vN_F, nmE_T, nmE_F, wI_T, wI_F, data_T, data_F, ino_T, ino_F, notT, notF, bneT, bneF, beqT, beqF, decT, decF] at h8
   refine At.skipC (At.blkN (At.thenN (At.region ?_)))
   first | refine tV (Val.addI rfl rfl (by omega) (by omega)) rfl ?_ | refine tV (Val.bin rfl rfl rfl) rfl ?_
   refine tM rfl rfl (tE ?_)
   exact At.again (k + 1) ⟨by omega, by rw [List.take_succ_of_get (by have := hq5; rwa [Int.toNat_natCast] at this)]; unfold hasAt; rw [List.any_append]; unfold hasAt at hs; rw [hs.2]; simp; assumption⟩ (by omega) (Sub.cons rfl (Sub.cons rfl (Sub.cons rfl (Sub.cons (congrArg (fun z => some (Value.int IntKind.i64 z)) (by omega)) Sub.nil)))) (List.Perm.refl _)
 ·try simp only [vN_T, vN_F, nmE_T, nmE_F, wI_T, wI_F, data_T, data_F, ino_T, ino_F, notT, notF, bneT, bneF, beqT, beqF, decT, decF] at h1
  obtain rfl : k = L.length := by omega
  refine At.exitC (At.thenX (At.thenX (At.blkX (At.thenN (tR (tA rfl rfl (tE (At.retC (At.ret1 (.inl rfl) rfl rfl rfl (fun w hw => ?_))))))))))
  exact ⟨_, ⟨-1, rfl, by have h2 := hs.2; rw [List.take_length] at h2; rw [h2]; decide⟩, rfl, hw.mod⟩
theorem undoHas_p (v : Value) (L : List (Int × BitVec 64)) (bc : Nat) (a : Int) (w : World) (hv : RdP w v L) (hc : w.cell? ⟨bc, 0, none⟩ = some (.int .i64 a)) (hlen : L.length ≤ 140737488355328) :
    PureC Tryd.prog 76 [v, .func (.func 77) #[] #[.pointer (some ⟨bc, 0, none⟩)]] (.bool (hasAt L a)) w := by
 refine enter0 Tryd.func76 rfl Tryd.ntmps76 rfl ?_
 simp only [envOf]
 refine tR (tA rfl rfl (tE (tR (tM rfl rfl (tM rfl rfl (At.callX (fun w hw => undoIdx_x v L bc a w (hv.mod hw.mod) (hw.mod.cell hc) hlen) Tryd.call81 rfl rfl (fun v1 hv2 => ?_)))))))
 obtain ⟨n, rfl, hn⟩ := hv2
 refine tV (Val.bin rfl rfl rfl) rfl (tA rfl rfl (tE (At.retC (At.ret1 (.inl rfl) rfl rfl rfl (fun w hw => ?_)))))
 exact ⟨retB (by apply Bool.eq_iff_iff.2; rw [decide_eq_true_eq]; exact hn), hw.mod⟩
theorem goodUn_p (v : Value) (L : List (Int × BitVec 64)) (w : World) (hv : RdP w v L) (hlen : L.length ≤ 140737488355328) (hbd : ∀ c ∈ L, -9223372036854775808 ≤ c.1 ∧ c.1 ≤ 9223372036854775807) :
    PureC Tryd.prog 66 [v] (.bool (decide (GoodUn L))) w := by
 refine enter0 Tryd.func66 rfl Tryd.ntmps66 rfl ?_
 simp only [envOf]
 refine tR (tA rfl rfl (tE (At.seq (tR (At.weaken [(0, _), (2, _)] (Sub.cons rfl (Sub.cons rfl Sub.nil)) ?_)))))
 refine At.boolMeet 8 13 (decide (L.length = 0 ∨ 8 < L.length)) ?_ ?_
 ·simp only [List.take_succ_cons, List.take_zero]
  refine tM rfl rfl (tV (Val.lenRd hv Tryd.underlying25 rfl) rfl (tV (Val.bin rfl rfl rfl) rfl (tM rfl rfl ?_)))
  refine At.split (t := 9) rfl (fun h1 => ?_) (fun h1 => ?_)
  ·try simp only [vN_T, vN_F, nmE_T, nmE_F, wI_T, wI_F, data_T, data_F, ino_T, ino_F, notT, notF, bneT, bneF, beqT, beqF, decT, decF] at h1
   refine At.no rfl rfl rfl rfl (At.no rfl rfl rfl rfl (At.no rfl rfl rfl rfl (tV (Val.pickT rfl rfl) rfl (At.nil ?_))))
   exact At.boolEnd rfl (by first | rfl | exact (decide_eq_true (by omega)).symm | exact (decide_eq_false (by omega)).symm | (apply Bool.eq_iff_iff.2; simp only [decide_eq_true_eq, beq_iff_eq, bne_iff_ne, ne_eq, wI_T, data_T, ino_T, vN_T, nmE_T, Bool.not_eq_true', wI_F, data_F, ino_F, vN_F, nmE_F, decide_eq_false_iff_not]; omega)) (by repeat (first | exact Sub.nil | refine Sub.cons rfl ?_))
  ·try simp only [vN_T, vN_F, nmE_T, nmE_F, wI_T, wI_F, data_T, data_F, ino_T, ino_F, notT, notF, bneT, bneF, beqT, beqF, decT, decF] at h1
   refine At.yes rfl rfl (tM rfl rfl (At.yes rfl rfl (tV (Val.lenRd hv Tryd.underlying25 rfl) rfl (At.yes rfl rfl (tV (Val.bin rfl rfl rfl) rfl (tV (Val.pickF rfl rfl) rfl (At.nil ?_)))))))
   exact At.boolEnd rfl (by first | rfl | exact (decide_eq_true (by omega)).symm | exact (decide_eq_false (by omega)).symm | (apply Bool.eq_iff_iff.2; simp only [decide_eq_true_eq, beq_iff_eq, bne_iff_ne, ne_eq, wI_T, data_T, ino_T, vN_T, nmE_T, Bool.not_eq_true', wI_F, data_F, ino_F, vN_F, nmE_F, decide_eq_false_iff_not]; omega)) (by repeat (first | exact Sub.nil | refine Sub.cons rfl ?_))
 ·simp only [List.drop_succ_cons, List.drop_zero]
  refine tE ?_
  refine At.cond rfl (fun h2 => ?_) (fun h2 => ?_)
  ·try simp only [vN_T, vN_F, nmE_T, nmE_F, wI_T, wI_F, data_T, data_F, ino_T, ino_F, notT, notF, bneT, bneF, beqT, beqF, decT, decF] at h2
   refine tR (tA rfl rfl (tE (At.retC (At.thenR (At.ret1 (.inl rfl) rfl rfl rfl (fun w hw => ?_))))))
   exact ⟨retB (by first | exact (decide_eq_false (fun g => by have h1 := g.1; have h2 := g.2.1; omega)).symm | exact (decide_eq_false (good_no1 hqk hno)).symm | exact (decide_eq_false (good_no2 hqk (by assumption))).symm | exact (decide_eq_true ⟨by omega, by omega, hs.2⟩).symm), hw.mod⟩
  ·try simp only [vN_T, vN_F, nmE_T, nmE_F, wI_T, wI_F, data_T, data_F, ino_T, ino_F, notT, notF, bneT, bneF, beqT, beqF, decT, decF] at h2
   refine At.skipC (At.thenN (At.seq (tR (tM rfl rfl (tV (Val.lenRd hv Tryd.underlying25 rfl) rfl (tM rfl rfl (tE (At.block ?_))))))))
   skip
   refine At.loop (σ := Nat) (fun k => k ≤ L.length ∧ ∀ j, j < k → OkAt L j) (fun k => [(0, v), (14, v), (15, .int .i64 (L.length : Int)), (16, .int .i64 (k : Int))]) (fun k => []) (fun k => L.length - k) 0 ⟨Nat.zero_le _, fun j h => by omega⟩ (Sub.cons rfl (Sub.cons rfl (Sub.cons rfl (Sub.cons rfl Sub.nil)))) (List.Perm.refl _) ?_
   intro k hs
   refine tR (tV (Val.bin rfl rfl rfl) rfl (tE (At.seq ?_)))
   refine At.cond rfl (fun h3 => ?_) (fun h3 => ?_)
   ·try simp only [vN_T, vN_F, nmE_T, nmE_F, wI_T, wI_F, data_T, data_F, ino_T, ino_F, notT, notF, bneT, bneF, beqT, beqF, decT, decF] at h3
    have hk : k < L.length := by omega
    refine At.skipC (At.thenN (At.seq (At.block (tR (tM rfl rfl (At.idxP hv Tryd.underlying25 Tryd.sizeOf108 rfl rfl (by omega) (by omega) rfl rfl (fun b4 o5 q6 hq7 hc8 hd9 => (tV (Val.loadPair Tryd.isAgg108 Tryd.sizeOf108 rfl hc8 hd9 (fun h => h)) rfl (At.alloc Tryd.zeroValue108 rfl rfl (fun b10 => (tA rfl rfl (At.storeAll (i := 0) Tryd.sizeOf108 rfl rfl rfl (by simp [Value.oneCell']) rfl rfl ?_))))))))))))
    simp only [sc0, scS]
    refine At.nil ?_
    have hqk := hq7
    rw [Int.toNat_natCast] at hqk
    have hbq := hbd _ (List.mem_of_getElem? hqk)
    refine At.thenN (tR (tV (Val.field 0 rfl fo_108_0 rfl) rfl (tV (Val.load (i := 0) Tryd.isAgg3 rfl rfl rfl) rfl (tV (Val.bin rfl rfl rfl) rfl ?_))))
    by_cases hlo : -9223372036854773760 ≤ q6.1
    ·rw [wrap_i64 (n := q6.1 - 2048) (by omega) (by omega)]
     refine tA rfl rfl (tE (At.seq (tR (At.weaken [(0, _), (14, _), (15, _), (16, _), (17, _), (18, _), (19, _), (20, _), (4, _), (3, _), (21, _), (22, _), (23, _), (5, _)] (Sub.cons rfl (Sub.cons rfl (Sub.cons rfl (Sub.cons rfl (Sub.cons rfl (Sub.cons rfl (Sub.cons rfl (Sub.cons rfl (Sub.cons rfl (Sub.cons rfl (Sub.cons rfl (Sub.cons rfl (Sub.cons rfl (Sub.cons rfl Sub.nil)))))))))))))) ?_))))
     refine At.boolMeet 13 36 (!decide (SlotWd q6.1)) ?_ ?_
     ·simp only [List.take_succ_cons, List.take_zero]
      refine tM rfl rfl (At.callP (fun w hw => within_p _ _ _ w) Tryd.call59 rfl rfl (tV (Val.not rfl) rfl (tM rfl rfl ?_)))
      refine At.split (t := 27) rfl (fun h11 => ?_) (fun h11 => ?_)
      ·try simp only [vN_T, vN_F, nmE_T, nmE_F, wI_T, wI_F, data_T, data_F, ino_T, ino_F, notT, notF, bneT, bneF, beqT, beqF, decT, decF] at h11
       refine At.no rfl rfl rfl rfl (At.no rfl rfl rfl rfl (At.no rfl rfl rfl rfl (tV (Val.pickT rfl rfl) rfl (tM rfl rfl (At.no rfl rfl rfl rfl (At.no rfl rfl rfl rfl (At.no rfl rfl rfl rfl (tV (Val.pickT rfl rfl) rfl (At.nil ?_)))))))))
       exact At.boolEnd rfl (by first | (rw [decide_eq_true (show SlotWd q6.1 by unfold SlotWd; omega)]; rfl) | (rw [decide_eq_false (show ¬ SlotWd q6.1 by unfold SlotWd; omega)]; rfl) | (apply Bool.eq_iff_iff.2; simp only [Bool.not_eq_true', decide_eq_false_iff_not, decide_eq_true_eq]; unfold SlotWd; omega)) (by repeat (first | exact Sub.nil | refine Sub.cons rfl ?_))
      ·try simp only [vN_T, vN_F, nmE_T, nmE_F, wI_T, wI_F, data_T, data_F, ino_T, ino_F, notT, notF, bneT, bneF, beqT, beqF, decT, decF] at h11
       refine At.yes rfl rfl (tM rfl rfl (At.yes rfl rfl ?_))
       first | refine tV (Val.remI rfl rfl (by omega) (by decide)) rfl ?_ | refine tV (Val.rem rfl rfl (by decide)) rfl ?_
       refine At.yes rfl rfl (tV (Val.bin rfl rfl rfl) rfl (tV (Val.pickF rfl rfl) rfl (tM rfl rfl ?_)))
       refine At.split (t := 32) rfl (fun h12 => ?_) (fun h12 => ?_)
       ·try simp only [vN_T, vN_F, nmE_T, nmE_F, wI_T, wI_F, data_T, data_F, ino_T, ino_F, notT, notF, bneT, bneF, beqT, beqF, decT, decF] at h12
        refine At.no rfl rfl rfl rfl (At.no rfl rfl rfl rfl (At.no rfl rfl rfl rfl (tV (Val.pickT rfl rfl) rfl (At.nil ?_))))
        exact At.boolEnd rfl (by first | (rw [decide_eq_true (show SlotWd q6.1 by unfold SlotWd; omega)]; rfl) | (rw [decide_eq_false (show ¬ SlotWd q6.1 by unfold SlotWd; omega)]; rfl) | (apply Bool.eq_iff_iff.2; simp only [Bool.not_eq_true', decide_eq_false_iff_not, decide_eq_true_eq]; unfold SlotWd; omega)) (by repeat (first | exact Sub.nil | refine Sub.cons rfl ?_))
       ·try simp only [vN_T, vN_F, nmE_T, nmE_F, wI_T, wI_F, data_T, data_F, ino_T, ino_F, notT, notF, bneT, bneF, beqT, beqF, decT, decF] at h12
        refine At.yes rfl rfl (tM rfl rfl (At.yes rfl rfl ?_))
        first | refine tV (Val.remI rfl rfl (by omega) (by decide)) rfl ?_ | refine tV (Val.rem rfl rfl (by decide)) rfl ?_
        refine At.yes rfl rfl (tV (Val.bin rfl rfl rfl) rfl (tV (Val.pickF rfl rfl) rfl (At.nil ?_)))
        exact At.boolEnd rfl (by first | (rw [decide_eq_true (show SlotWd q6.1 by unfold SlotWd; omega)]; rfl) | (rw [decide_eq_false (show ¬ SlotWd q6.1 by unfold SlotWd; omega)]; rfl) | (apply Bool.eq_iff_iff.2; simp only [Bool.not_eq_true', decide_eq_false_iff_not, decide_eq_true_eq]; unfold SlotWd; omega)) (by repeat (first | exact Sub.nil | refine Sub.cons rfl ?_))
     ·simp only [List.drop_succ_cons, List.drop_zero]
      refine tE ?_
      refine At.cond rfl (fun h13 => ?_) (fun h13 => ?_)
      ·try simp only [vN_T, vN_F, nmE_T, nmE_F, wI_T, wI_F, data_T, data_F, ino_T, ino_F, notT, notF, bneT, bneF, beqT, beqF, decT, decF] at h13
       have hno := h13
       refine tR (tA rfl rfl (tE (At.retC (At.thenR (At.blkR (At.thenR (At.thenR (At.blkR (At.thenR (At.ret1 (.inl rfl) rfl rfl rfl (fun w hw => ?_)))))))))))
       exact ⟨retB (by first | exact (decide_eq_false (fun g => by have h1 := g.1; have h2 := g.2.1; omega)).symm | exact (decide_eq_false (good_no1 hqk hno)).symm | exact (decide_eq_false (good_no2 hqk (by assumption))).symm | exact (decide_eq_true ⟨by omega, by omega, hs.2⟩).symm), hw.mod⟩
      ·try simp only [vN_T, vN_F, nmE_T, nmE_F, wI_T, wI_F, data_T, data_F, ino_T, ino_F, notT, notF, bneT, bneF, beqT, beqF, decT, decF] at h13
       have hyes := h13
       refine At.skipC (At.thenN (tR (tM rfl rfl (tM rfl rfl (At.cutP (k) hv Tryd.underlying25 Tryd.sizeOf108 rfl ⟨_, _, rfl, by omega, by omega⟩ (by omega) rfl rfl (fun v14 hv15 => (tV (Val.makeFunc rfl) rfl ?_)))))))
       refine At.callP (fun w hw => undoHas_p _ (L.take k) b10 q6.1 w (hv15.mod hw.mod) ((hw.blk (i := 0) rfl).cell 0) (by rw [List.length_take]; omega)) Tryd.call76 rfl rfl (tE ?_)
       refine At.cond rfl (fun h16 => ?_) (fun h16 => ?_)
       ·try simp only [vN_T, vN_F, nmE_T, nmE_F, wI_T, wI_F, data_T, data_F, ino_T, ino_F, notT, notF, bneT, bneF, beqT, beqF, decT, decF] at h16
        refine tR (tA rfl rfl (tE (At.retC (At.blkR (At.thenR (At.thenR (At.blkR (At.thenR (At.ret1 (.inl rfl) rfl rfl rfl (fun w hw => ?_))))))))))
        exact ⟨retB (by first | exact (decide_eq_false (fun g => by have h1 := g.1; have h2 := g.2.1; omega)).symm | exact (decide_eq_false (good_no1 hqk hno)).symm | exact (decide_eq_false (good_no2 hqk (by assumption))).symm | exact (decide_eq_true ⟨by omega, by omega, hs.2⟩).symm), hw.mod⟩
       ·try simp only [vN_T, vN_F, nmE_T, nmE_F, wI_T, wI_F, data_T, data_F, ino_T, ino_F, notT, notF, bneT, bneF, beqT, beqF, decT, decF] at h16
        refine At.skipC (At.blkN (At.thenN (At.region ?_)))
        first | refine tV (Val.addI rfl rfl (by omega) (by omega)) rfl ?_ | refine tV (Val.bin rfl rfl rfl) rfl ?_
        refine tM rfl rfl (tE (At.drop 0 ?_))
        simp only [ec0, ecS]
        exact At.again (k + 1) ⟨by omega, fun j hj => by rcases Nat.lt_or_ge j k with h | h; exact hs.2 j h; obtain rfl : j = k := (by omega); exact okAt_of hqk hyes (by assumption)⟩ (by omega) (Sub.cons rfl (Sub.cons rfl (Sub.cons rfl (Sub.cons (congrArg (fun z => some (Value.int IntKind.i64 z)) (by omega)) Sub.nil)))) (List.Perm.refl _)
    ·have hno : ¬ SlotWd q6.1 := by unfold SlotWd; omega
     obtain ⟨ov, hov⟩ : ∃ ov, ov = IntKind.i64.wrap (q6.1 - 2048) := ⟨_, rfl⟩
     have hov' : ov = q6.1 - 2048 + 18446744073709551616 := by rw [hov]; exact wrap_over hlo hbq.1
     rw [← hov]
     refine tA rfl rfl (tE (At.seq (tR (At.weaken [(0, _), (14, _), (15, _), (16, _), (17, _), (18, _), (19, _), (20, _), (4, _), (3, _), (21, _), (22, _), (23, _), (5, _)] (Sub.cons rfl (Sub.cons rfl (Sub.cons rfl (Sub.cons rfl (Sub.cons rfl (Sub.cons rfl (Sub.cons rfl (Sub.cons rfl (Sub.cons rfl (Sub.cons rfl (Sub.cons rfl (Sub.cons rfl (Sub.cons rfl (Sub.cons rfl Sub.nil)))))))))))))) ?_))))
     refine At.boolMeet 13 36 (!decide (SlotWd q6.1)) ?_ ?_
     ·simp only [List.take_succ_cons, List.take_zero]
      refine tM rfl rfl (At.callP (fun w hw => within_p _ _ _ w) Tryd.call59 rfl rfl (tV (Val.not rfl) rfl (tM rfl rfl ?_)))
      refine At.split (t := 27) rfl (fun h17 => ?_) (fun h17 => ?_)
      ·try simp only [vN_T, vN_F, nmE_T, nmE_F, wI_T, wI_F, data_T, data_F, ino_T, ino_F, notT, notF, bneT, bneF, beqT, beqF, decT, decF] at h17
       refine At.no rfl rfl rfl rfl (At.no rfl rfl rfl rfl (At.no rfl rfl rfl rfl (tV (Val.pickT rfl rfl) rfl (tM rfl rfl (At.no rfl rfl rfl rfl (At.no rfl rfl rfl rfl (At.no rfl rfl rfl rfl (tV (Val.pickT rfl rfl) rfl (At.nil ?_)))))))))
       exact At.boolEnd rfl (by first | (rw [decide_eq_true (show SlotWd q6.1 by unfold SlotWd; omega)]; rfl) | (rw [decide_eq_false (show ¬ SlotWd q6.1 by unfold SlotWd; omega)]; rfl) | (apply Bool.eq_iff_iff.2; simp only [Bool.not_eq_true', decide_eq_false_iff_not, decide_eq_true_eq]; unfold SlotWd; omega)) (by repeat (first | exact Sub.nil | refine Sub.cons rfl ?_))
      ·try simp only [vN_T, vN_F, nmE_T, nmE_F, wI_T, wI_F, data_T, data_F, ino_T, ino_F, notT, notF, bneT, bneF, beqT, beqF, decT, decF] at h17
       refine At.yes rfl rfl (tM rfl rfl (At.yes rfl rfl ?_))
       first | refine tV (Val.remI rfl rfl (by omega) (by decide)) rfl ?_ | refine tV (Val.rem rfl rfl (by decide)) rfl ?_
       refine At.yes rfl rfl (tV (Val.bin rfl rfl rfl) rfl (tV (Val.pickF rfl rfl) rfl (tM rfl rfl ?_)))
       refine At.split (t := 32) rfl (fun h18 => ?_) (fun h18 => ?_)
       ·try simp only [vN_T, vN_F, nmE_T, nmE_F, wI_T, wI_F, data_T, data_F, ino_T, ino_F, notT, notF, bneT, bneF, beqT, beqF, decT, decF] at h18
        refine At.no rfl rfl rfl rfl (At.no rfl rfl rfl rfl (At.no rfl rfl rfl rfl (tV (Val.pickT rfl rfl) rfl (At.nil ?_))))
        exact At.boolEnd rfl (by first | (rw [decide_eq_true (show SlotWd q6.1 by unfold SlotWd; omega)]; rfl) | (rw [decide_eq_false (show ¬ SlotWd q6.1 by unfold SlotWd; omega)]; rfl) | (apply Bool.eq_iff_iff.2; simp only [Bool.not_eq_true', decide_eq_false_iff_not, decide_eq_true_eq]; unfold SlotWd; omega)) (by repeat (first | exact Sub.nil | refine Sub.cons rfl ?_))
       ·try simp only [vN_T, vN_F, nmE_T, nmE_F, wI_T, wI_F, data_T, data_F, ino_T, ino_F, notT, notF, bneT, bneF, beqT, beqF, decT, decF] at h18
        refine At.yes rfl rfl (tM rfl rfl (At.yes rfl rfl ?_))
        first | refine tV (Val.remI rfl rfl (by omega) (by decide)) rfl ?_ | refine tV (Val.rem rfl rfl (by decide)) rfl ?_
        refine At.yes rfl rfl (tV (Val.bin rfl rfl rfl) rfl (tV (Val.pickF rfl rfl) rfl (At.nil ?_)))
        exact At.boolEnd rfl (by first | (rw [decide_eq_true (show SlotWd q6.1 by unfold SlotWd; omega)]; rfl) | (rw [decide_eq_false (show ¬ SlotWd q6.1 by unfold SlotWd; omega)]; rfl) | (apply Bool.eq_iff_iff.2; simp only [Bool.not_eq_true', decide_eq_false_iff_not, decide_eq_true_eq]; unfold SlotWd; omega)) (by repeat (first | exact Sub.nil | refine Sub.cons rfl ?_))
     ·simp only [List.drop_succ_cons, List.drop_zero]
      refine tE ?_
      refine At.cond rfl (fun h19 => ?_) (fun h19 => ?_)
      ·try simp only [vN_T, vN_F, nmE_T, nmE_F, wI_T, wI_F, data_T, data_F, ino_T, ino_F, notT, notF, bneT, bneF, beqT, beqF, decT, decF] at h19
       have hno := h19
       refine tR (tA rfl rfl (tE (At.retC (At.thenR (At.blkR (At.thenR (At.thenR (At.blkR (At.thenR (At.ret1 (.inl rfl) rfl rfl rfl (fun w hw => ?_)))))))))))
       exact ⟨retB (by first | exact (decide_eq_false (fun g => by have h1 := g.1; have h2 := g.2.1; omega)).symm | exact (decide_eq_false (good_no1 hqk hno)).symm | exact (decide_eq_false (good_no2 hqk (by assumption))).symm | exact (decide_eq_true ⟨by omega, by omega, hs.2⟩).symm), hw.mod⟩
      ·try simp only [vN_T, vN_F, nmE_T, nmE_F, wI_T, wI_F, data_T, data_F, ino_T, ino_F, notT, notF, bneT, bneF, beqT, beqF, decT, decF] at h19
       have hyes := h19
       refine At.skipC (At.thenN (tR (tM rfl rfl (tM rfl rfl (At.cutP (k) hv Tryd.underlying25 Tryd.sizeOf108 rfl ⟨_, _, rfl, by omega, by omega⟩ (by omega) rfl rfl (fun v20 hv21 => (tV (Val.makeFunc rfl) rfl ?_)))))))
       refine At.callP (fun w hw => undoHas_p _ (L.take k) b10 q6.1 w (hv21.mod hw.mod) ((hw.blk (i := 0) rfl).cell 0) (by rw [List.length_take]; omega)) Tryd.call76 rfl rfl (tE ?_)
       refine At.cond rfl (fun h22 => ?_) (fun h22 => ?_)
       ·try simp only [vN_T, vN_F, nmE_T, nmE_F, wI_T, wI_F, data_T, data_F, ino_T, ino_F, notT, notF, bneT, bneF, beqT, beqF, decT, decF] at h22
        refine tR (tA rfl rfl (tE (At.retC (At.blkR (At.thenR (At.thenR (At.blkR (At.thenR (At.ret1 (.inl rfl) rfl rfl rfl (fun w hw => ?_))))))))))
        exact ⟨retB (by first | exact (decide_eq_false (fun g => by have h1 := g.1; have h2 := g.2.1; omega)).symm | exact (decide_eq_false (good_no1 hqk hno)).symm | exact (decide_eq_false (good_no2 hqk (by assumption))).symm | exact (decide_eq_true ⟨by omega, by omega, hs.2⟩).symm), hw.mod⟩
       ·try simp only [vN_T, vN_F, nmE_T, nmE_F, wI_T, wI_F, data_T, data_F, ino_T, ino_F, notT, notF, bneT, bneF, beqT, beqF, decT, decF] at h22
        refine At.skipC (At.blkN (At.thenN (At.region ?_)))
        first | refine tV (Val.addI rfl rfl (by omega) (by omega)) rfl ?_ | refine tV (Val.bin rfl rfl rfl) rfl ?_
        refine tM rfl rfl (tE (At.drop 0 ?_))
        simp only [ec0, ecS]
        exact At.again (k + 1) ⟨by omega, fun j hj => by rcases Nat.lt_or_ge j k with h | h; exact hs.2 j h; obtain rfl : j = k := (by omega); exact okAt_of hqk hyes (by assumption)⟩ (by omega) (Sub.cons rfl (Sub.cons rfl (Sub.cons rfl (Sub.cons (congrArg (fun z => some (Value.int IntKind.i64 z)) (by omega)) Sub.nil)))) (List.Perm.refl _)
   ·try simp only [vN_T, vN_F, nmE_T, nmE_F, wI_T, wI_F, data_T, data_F, ino_T, ino_F, notT, notF, bneT, bneF, beqT, beqF, decT, decF] at h3
    obtain rfl : k = L.length := by omega
    refine At.exitC (At.thenX (At.thenX (At.blkX (At.thenN (tR (tA rfl rfl (tE (At.retC (At.ret1 (.inl rfl) rfl rfl rfl (fun w hw => ?_))))))))))
    exact ⟨retB (by first | exact (decide_eq_false (fun g => by have h1 := g.1; have h2 := g.2.1; omega)).symm | exact (decide_eq_false (good_no1 hqk hno)).symm | exact (decide_eq_false (good_no2 hqk (by assumption))).symm | exact (decide_eq_true ⟨by omega, by omega, hs.2⟩).symm), hw.mod⟩
end Go.Proofs.YtfchinibjhcejaaDoor
namespace Go.Proofs.YtfchinibjhcejaaDoor
open Go Go.Wk
theorem must_T (e : Int) (w : World) :
    PureC Tryd.prog 63 [.bool true, .int .i64 e] (.tuple #[]) w := by
 refine enter0 Tryd.func63 rfl Tryd.ntmps63 rfl ?_
 simp only [envOf]
 refine tR (tM rfl rfl (tV (Val.not rfl) rfl (tE (At.condF rfl (At.skipC (At.ret0 (.inr rfl) rfl rfl  (fun w hw => ?_)))))))
 exact ⟨rfl, hw.mod⟩
theorem must_F (e : Int) (w : World) :
    Throws0 Tryd.prog 63 [.bool false, .int .i64 e] (brk 129 e) w := by
 refine enter0 Tryd.func63 rfl Tryd.ntmps63 rfl ?_
 simp only [envOf]
 refine tR (tM rfl rfl (tV (Val.not rfl) rfl (tE (At.condT rfl (At.region (tM rfl rfl ?_))))))
 refine tV (Val.build (fun a ha => by simp only [List.map_toArray, List.map_cons, List.map_nil, ha.eval (x := (.tmp 6)) rfl] <;> rfl) (bld_129_0 _ )) rfl (tV (Val.mkIface Tryd.underlying129 rfl) rfl (At.panicOp rfl (At.fail rfl (fun w hw => ?_))))
 exact ⟨rfl, hw.mod⟩
theorem caughtUndos_idle (b1' b2' : Nat) (w : World) :
    Idle Tryd.prog 62 [.pointer (some ⟨b1', 0, none⟩), .pointer (some ⟨b2', 0, none⟩)] w := by
 refine CallsD.mono (enterC (v := .nilIface) (um' := .returning) (R := fun e w' => e = .returned (.tuple #[]) ∧ Mod (fun _ => False) w w') (fun _ => False) [] Tryd.func62 rfl Tryd.ntmps62 rfl rfl ⟨by simp, by simp, by simp, Mod.refl _ _⟩ (fun c₀ cs hu => .inr ⟨by simp [recoverD, hu], rfl, rfl⟩) ?_) (fun e u' w' h => ⟨h.2.1, h.1, h.2.2⟩)
 simp only [envOf]
 refine At.block (tR (tV (Val.ifNilNil (by kernel_rfl) rfl) rfl (tE (At.condT rfl (At.region (tA rfl rfl (At.nil (At.blkN (At.ret0 (.inr rfl) rfl rfl  (fun w hw => ?_))))))))))
 exact ⟨rfl, hw.mod⟩
theorem caughtUndos_pan (b1' b2' : Nat) (c0 : Value) (x : Value) (why : Int) (w : World) (h1 : Holds w b1' 25 [c0]) (hl : [c0].length = 1) (h2 : Holds w b2' 42 [x]) (hne : b1' ≠ b2') :
    Catches Tryd.prog 62 [.pointer (some ⟨b1', 0, none⟩), .pointer (some ⟨b2', 0, none⟩)] (brk 129 why) (blk b1' 25 [c0]) (blk b2' 42 [x]) (blk b1' 25 [Value.slice none 0 0]) (blk b2' 42 [.int .i64 why]) w := by
 refine CallsD.mono (enterC (v := .iface 129 (.agg #[.int .i64 why])) (um' := .panicking [{ v := .iface 129 (.agg #[.int .i64 why]), recovered := true }]) (R := fun e w' => e = .returned (.tuple #[]) ∧ Rep w (feet [(blk b1' 25 [c0]), (blk b2' 42 [x])]) [(blk b1' 25 [Value.slice none 0 0]), (blk b2' 42 [.int .i64 why])] w') (feet [(blk b1' 25 [c0]), (blk b2' 42 [x])]) [(blk b1' 25 [c0]), (blk b2' 42 [x])] Tryd.func62 rfl Tryd.ntmps62 rfl rfl (Rep.start (by simp only [List.pairwise_cons, List.mem_singleton, forall_eq, List.not_mem_nil, false_implies, implies_true, List.Pairwise.nil, and_true]; exact fun b (hb1 : b = b1') (hb2 : b = b2') => hne (hb1.symm.trans hb2)) (fun r hr => by rcases List.mem_cons.1 hr with rfl | hr; exact h1; rcases List.mem_cons.1 hr with rfl | hr; exact h2; cases hr)) (fun c₀ cs hu => .inl (by simp [recoverD, hu])) ?_) (fun e u' w' h => ⟨h.2.1, by rw [h.1]; rfl, h.2.2⟩)
 simp only [envOf]
 refine At.block (tR (tV (Val.ifHeldNil (by kernel_rfl) rfl) rfl (tE (At.condF rfl (tR (tV (Val.assertIs Tryd.underlying129 rfl) rfl (tV (Val.extract rfl rfl) rfl (tV (Val.extract rfl rfl) rfl (tE (At.condT rfl (tR (At.alloc Tryd.zeroValue129 rfl rfl (fun b1 => (At.storeAll (i := 0) Tryd.sizeOf129 rfl rfl rfl (by simp [Value.oneCell']) rfl rfl ?_))))))))))))))
 simp only [sc0, scS]
 refine tE (tR (tA rfl rfl (tE (At.mid 7 6 [blk b1 129 [_], blkP b1' 25 (fun _ => True), blk b2' 42 ([x])] [blk b1 129 [_], blk b1' 25 [Value.slice none 0 0], blk b2' 42 ([x])] rfl (by decide +kernel) (by decide) rfl rfl (fun w hw => hw.blkP (i := 1) (fun _ => True) rfl trivial) (fun w hw => hw.blkP (i := 1) (fun _ => True) rfl trivial) ?_))))
 simp only [List.take_succ_cons, List.take_zero, List.drop_succ_cons, List.drop_zero]
 refine PAt.val (Val.move rfl) rfl rfl rfl rfl (PAt.val (Val.move rfl) rfl rfl rfl rfl (PAt.val (Val.move rfl) rfl rfl rfl rfl (PAt.val (Val.field 0 rfl fo_129_0 rfl) rfl rfl rfl rfl (PAt.val (Val.load (i := 0) Tryd.isAgg42 rfl rfl rfl) rfl rfl rfl rfl (PAt.val (Val.nilCheck rfl) rfl rfl rfl rfl (PAt.midS (fun a' w' ha' hw' => storeOne_step (i := 1) (v := .slice none 0 0) (cs := [c0]) (off := 0) Tryd.sizeOf25 rfl rfl rfl rfl (by simp) a' w' ha' hw') rfl rfl (PAt.fin (tV (Val.nilCheck rfl) rfl (At.store (i := 2) Tryd.sizeOf42 rfl rfl rfl rfl (by first | decide | simp) ?_)))))))))
 simp only [sc0, scS]
 refine At.nil (At.drop 0 ?_)
 simp only [ec0, ecS]
 refine At.blkN (At.ret0 (.inr rfl) rfl rfl  (fun w hw => ?_))
 exact ⟨rfl, hw⟩
end Go.Proofs.YtfchinibjhcejaaDoor
namespace Go.Proofs.YtfchinibjhcejaaDoor
open Go Go.Wk
theorem sealR_p (a : Int) (v : BitVec 32) (w : World) :
    PureC Tryd.prog 54 [.int .i64 a, b32 v] (b64 (sealW (BitVec.ofInt 64 a) v)) w := by
 refine enter0 Tryd.func54 rfl Tryd.ntmps54 rfl ?_
 simp only [envOf]
 refine tR (tA rfl rfl (tE (At.seq (tR (tM rfl rfl (tV (Val.bin rfl rfl rfl) rfl (tE ?_)))))))
 refine At.cond rfl (fun h1 => ?_) (fun h1 => ?_)
 ·refine tR (tA rfl rfl (tE (At.retC (At.thenR (At.ret1 (.inl rfl) rfl rfl rfl (fun w hw => ?_))))))
  exact ⟨by rw [seal_zero (by have := h1; simp at this; exact BitVec.eq_of_toNat_eq (by simpa using this))]; rfl, hw.mod⟩
 ·refine At.skipC (At.thenN (tR (tA rfl rfl (tE (tR (tM rfl rfl (tM rfl rfl (tV (Val.conv Tryd.underlying3 Tryd.underlying38 rfl) rfl ?_))))))))
  rw [wrap_u64_int]
  refine At.rowNil 5 1 ?_
  refine At.callR 0 rfl (fun w hw hr => rlay_p _ [] (BitVec.ofInt 64 a).toNat 8 w hr (by have := (BitVec.ofInt 64 a).isLt; omega) (by decide) (by decide)) Tryd.call52 rfl rfl (fun v2 => ?_)
  simp only [sc0, scS]
  refine tA rfl rfl (tE (tR (tM rfl rfl (tM rfl rfl (tV (Val.conv Tryd.underlying68 Tryd.underlying38 rfl) rfl ?_)))))
  rw [wrap_u64 (n := (v.toNat : Int)) (by omega) (by have := v.isLt; omega)]
  refine At.callR 0 rfl (fun w hw hr => rlay_p _ ([] ++ le 8 (BitVec.ofInt 64 a).toNat) v.toNat 4 w hr (by have := v.isLt; omega) (by decide) (by simp [le_length])) Tryd.call52 rfl rfl (fun v3 => ?_)
  simp only [sc0, scS]
  refine tA rfl rfl (At.nil (At.rowIs (i := 0) rfl (fun A4 c5 hv => ?_)))
  subst hv
  refine At.thenN (tR (tM rfl rfl (At.callP (fun w hw => rsum_n A4 ([] ++ le 8 (BitVec.ofInt 64 a).toNat ++ le 4 v.toNat) _ c5 w rfl (row_bytes (hw.row (i := 0) rfl)) (by simp [le_length])) Tryd.call53 rfl rfl (tA rfl rfl (tE (tR (tM rfl rfl (tV (Val.conv Tryd.underlying68 Tryd.underlying38 rfl) rfl (tV (Val.bin rfl rfl rfl) rfl (tM rfl rfl (tV (Val.conv Tryd.underlying68 Tryd.underlying38 rfl) rfl (tV (Val.bin rfl rfl rfl) rfl (tA rfl rfl (tE (At.retC (At.ret1 (.inl rfl) rfl rfl rfl (fun w hw => ?_)))))))))))))))))
  have hv : v ≠ 0 := by intro e; subst e; simp at h1
  have hn := seal_nat (a := (BitVec.ofInt 64 a)) hv
  have hl := (checkW (BitVec.ofInt 64 a) v).isLt
  have hl2 := v.isLt
  exact ⟨retI (by rw [show sumOn 0 ([] ++ le 8 (BitVec.ofInt 64 a).toNat ++ le 4 v.toNat) = checkW (BitVec.ofInt 64 a) v from rfl, wrap_u64 (n := ((checkW (BitVec.ofInt 64 a) v).toNat : Int)) (by omega) (by omega), wrap_u64 (n := ((checkW (BitVec.ofInt 64 a) v).toNat : Int) * 4294967296) (by omega) (by omega), wrap_u64 (n := (v.toNat : Int)) (by omega) (by omega), wrap_u64 (by omega) (by omega), hn]; omega), hw.mod⟩
theorem held_T (a : Int) (x : BitVec 64) (why : Int) (w : World) (ht : Tab w) (hs : sealW (BitVec.ofInt 64 a) (x.setWidth 32) = x) :
    PureC Tryd.prog 64 [.int .i64 a, b64 x, .int .i64 why] (.int .i64 ((x.setWidth 32).toNat : Nat)) w := by
 refine enter0 Tryd.func64 rfl Tryd.ntmps64 rfl ?_
 simp only [envOf]
 refine tR (tA rfl rfl (tE (tR (tM rfl rfl (tM rfl rfl ?_)))))
 refine At.callP (fun w hw => (by have := unseal_p a x w (ht.mod hw.mod); rwa [unseal_yes hs] at this)) Tryd.call75 rfl rfl (tM rfl rfl (tV (Val.extract rfl rfl) rfl (tV (Val.extract rfl rfl) rfl (tA rfl rfl (tA rfl rfl (tE (tR (tM rfl rfl (tV (Val.bin rfl rfl rfl) rfl (tM rfl rfl (At.callP (fun w hw => must_T _ w) Tryd.call63 rfl rfl (tE (tR (tM rfl rfl (tV (Val.conv Tryd.underlying68 Tryd.underlying3 rfl) rfl ?_)))))))))))))))
 rw [i64_32]
 refine tA rfl rfl (tE (At.retC (At.ret1 (.inl rfl) rfl rfl rfl (fun w hw => ?_))))
 exact ⟨rfl, hw.mod⟩
theorem held_F (a : Int) (x : BitVec 64) (why : Int) (w : World) (ht : Tab w) (hs : ¬ sealW (BitVec.ofInt 64 a) (x.setWidth 32) = x) :
    Throws0 Tryd.prog 64 [.int .i64 a, b64 x, .int .i64 why] (brk 129 why) w := by
 refine enter0 Tryd.func64 rfl Tryd.ntmps64 rfl ?_
 simp only [envOf]
 refine tR (tA rfl rfl (tE (tR (tM rfl rfl (tM rfl rfl ?_)))))
 refine At.callP (fun w hw => (by have := unseal_p a x w (ht.mod hw.mod); rwa [unseal_no hs] at this)) Tryd.call75 rfl rfl (tM rfl rfl (tV (Val.extract rfl rfl) rfl (tV (Val.extract rfl rfl) rfl (tA rfl rfl (tA rfl rfl (tE (tR (tM rfl rfl (tV (Val.bin rfl rfl rfl) rfl (tM rfl rfl (At.callT0 (fun w hw => must_F _ w) Tryd.call63 rfl (At.thenE (At.fail rfl (fun w hw => ?_))))))))))))))
 exact ⟨rfl, hw.mod⟩
def GoodH (p n o : Int) : Prop := 5 ≤ p ∧ p ≤ 1023 ∧ 1 ≤ o ∧ o ≤ 256 ∧ (n = 0 ∨ 5 ≤ n ∧ n ≤ 1023)
instance (p n o : Int) : Decidable (GoodH p n o) := by unfold GoodH; infer_instance
def GoodH1 (n o : Int) : Prop := 1 ≤ o ∧ o ≤ 256 ∧ (n = 0 ∨ 5 ≤ n ∧ n ≤ 1023)
instance (n o : Int) : Decidable (GoodH1 n o) := by unfold GoodH1; infer_instance
end Go.Proofs.YtfchinibjhcejaaDoor
namespace Go.Proofs.YtfchinibjhcejaaDoor
open Go Go.Wk
theorem filled_p (v : Value) (l : List UInt8) (n : Nat) (w : World) (ho : w.ownsRow 0 5 1 v l.length (l.map bv)) (hlen : l.length ≤ 140737488355328) (hn : n ≤ 140737488355328) :
    RowUpd Tryd.prog 55 [v, .int .i64 (n : Int)] v 5 1 l.length (l.map bv) (l ++ zs (n - l.length)).length ((l ++ zs (n - l.length)).map bv) w := by
 refine enter (feet [brow 5 v l]) [brow 5 v l] Tryd.func55 rfl Tryd.ntmps55 rfl (Rep.one ho) ?_
 simp only [envOf]
 refine tR (tA rfl rfl (tE (At.seq (At.block ?_))))
 skip
 refine At.loop (σ := Nat × Value) (fun s => s.1 ≤ n - l.length) (fun s => [(0, s.2), (1, .int .i64 (n : Int))]) (fun s => [brow 5 s.2 (l ++ zs s.1)]) (fun s => n - l.length - s.1) (0, v) (Nat.zero_le _) (Sub.cons rfl (Sub.cons rfl Sub.nil)) (by simp [zs]) ?_
 intro s hs
 obtain ⟨k, vk⟩ := s
 dsimp only at hs ⊢
 refine At.seq (tR (tM rfl rfl (tV (Val.lenRow (i := 0) Tryd.underlying29 rfl rfl) rfl (tM rfl rfl (tV (Val.bin rfl rfl rfl) rfl (tE ?_))))))
 refine At.cond rfl (fun h1 => ?_) (fun h1 => ?_)
 ·have hk : l.length + k < n := by have := h1; simp [zs_length] at this; omega
  refine At.skipC (At.thenN (At.block (At.region (tM rfl rfl (At.buildSl (fun a ha => by simp only [List.map_toArray, List.map_cons, List.map_nil, ha.eval (x := (.const (.int .u8 (0)))) rfl]; try rfl) (bs_29_1 _ ) rfl (fun b2 => (At.append (i := 1) (sz := 1) (by_ := 1) Tryd.underlying29 info_5 rfl rfl rfl rfl rfl rfl rfl rfl rfl (fun w hw j u hj => by rw [Nat.zero_add]; exact ((hw.blk (i := 0) rfl).cell j).trans hj) (by simp [Value.oneCell']) (by rw [List.length_append, zs_length]; omega) (by rw [List.length_append, zs_length]; omega) rfl (fun v3 => ?_))))))))
  simp only [sc0, scS]
  refine At.drop 0 ?_
  simp only [ec0, ecS]
  refine tA rfl rfl (At.nil ?_)
  rw [show Value.int .u8 0 = bv 0 from rfl, brow_snoc, List.append_assoc, zs_succ]
  refine At.blkN (At.thenN ?_)
  exact At.again (k + 1, v3) (show k + 1 ≤ _ by omega) (by dsimp only; omega) (Sub.cons rfl (Sub.cons rfl Sub.nil)) (List.Perm.refl _)
 ·have hk : k = n - l.length := by have := h1; simp [zs_length] at this; omega
  refine At.exitC (At.thenX (At.thenX (At.blkX (At.thenN (tR (tM rfl rfl (tA rfl rfl (tE (At.retC (At.ret1 (.inl rfl) rfl rfl rfl (fun w hw => ?_)))))))))))
  exact ⟨vk, rfl, by have := hw; rw [hk] at this; exact this⟩
theorem line_p (v : Value) (l : List UInt8) (w : World) (ho : w.ownsRow 0 5 1 v l.length (l.map bv)) (hlen : l.length ≤ 60) :
    Use Tryd.prog 57 [v] (brow 5 v l) (lineV l) w := by
 refine enter (feet [brow 5 v l]) [brow 5 v l] Tryd.func57 rfl Tryd.ntmps57 rfl (Rep.one ho) ?_
 have hL := lineL_row hlen
 have hL4 := lineL_length hlen
 have h60 : (l ++ zs (60 - l.length)).length = 60 := by simp [zs]; omega
 simp only [envOf]
 refine tR (At.alloc zero_81 zc_81 rfl (fun b1 => (tE (tR (tM rfl rfl (At.callR 1 rfl (fun w hw hr => filled_p _ _ 60 w hr (by omega) (by decide)) Tryd.call55 rfl rfl (fun v2 => ?_)))))))
 simp only [sc0, scS]
 refine tA rfl rfl (At.nil (At.rowIs (i := 1) rfl (fun A3 c4 hv => ?_)))
 subst hv
 refine At.thenN (tR (tM rfl rfl (At.callP (fun w hw => rsum_n A3 (l ++ zs (60 - l.length)) _ c4 w rfl (row_bytes (hw.row (i := 1) rfl)) (by omega)) Tryd.call53 rfl rfl (tA rfl rfl (tE (tR (tM rfl rfl (tM rfl rfl (tV (Val.conv Tryd.underlying68 Tryd.underlying38 rfl) rfl ?_)))))))))
 rw [wrap_u64 (n := ((sumOn 0 (l ++ zs (60 - l.length))).toNat : Int)) (by omega) (by have := (sumOn 0 (l ++ zs (60 - l.length))).isLt; omega)]
 refine At.callR 1 rfl (fun w hw hr => rlay_p _ _ _ 4 w hr (by have := (sumOn 0 (l ++ zs (60 - l.length))).isLt; omega) (by decide) (by omega)) Tryd.call52 rfl rfl (fun v5 => ?_)
 simp only [sc0, scS]
 refine tA rfl rfl (At.nil ?_)
 rw [← hL]
 refine At.thenN (tR (At.alloc zero_81 zc_81 rfl (fun b6 => (tE (At.seq (tR (tA rfl rfl (tE (At.block ?_)))))))))
 skip
 refine At.loop (σ := Nat) (fun k => k ≤ 64) (fun k => [(0, v5), (2, .pointer (some ⟨b1, 0, none⟩)), (4, .pointer (some ⟨b6, 0, none⟩)), (5, .int .i64 (k : Int))]) (fun k => [blk b6 81 ((fillTo (lineL l) (zs 64) k).map bv), blk b1 81 (List.replicate 64 (Value.int .u8 0)), rowR v5 5 1 ((lineL l).length) ((lineL l).map bv)]) (fun k => 64 - k) 0 (by omega) (Sub.cons rfl (Sub.cons rfl (Sub.cons rfl (Sub.cons rfl Sub.nil)))) (List.Perm.refl _) ?_
 intro k hs
 refine At.seq (tR (tM rfl rfl (tV (Val.bin rfl rfl rfl) rfl (tE ?_))))
 refine At.cond rfl (fun h7 => ?_) (fun h7 => ?_)
 ·have hk : k < 64 := by have := h7; simp at this; omega
  obtain ⟨c, hc⟩ : ∃ c, (lineL l)[k]? = some c := ⟨_, List.getElem?_eq_getElem (by omega)⟩
  refine At.skipC (At.thenN (At.seq (At.block (At.region (tM rfl rfl (tM rfl rfl (tM rfl rfl (tV (Val.indexRow (i := 2) k (by simp) Tryd.underlying29 Tryd.sizeOf5 rfl rfl rfl (by omega) (by omega)) rfl ?_))))))))
  refine tV (Val.loadRow (i := 2) (u := bv c) Tryd.isAgg5 rfl rfl (by rw [List.getElem?_map, hc]; rfl)) rfl ?_
  refine tV (Val.indexArr k (by simp) Tryd.underlying81 Tryd.sizeOf5 rfl rfl (by omega) (by omega)) rfl ?_
  refine At.store (i := 0) (v := bv c) Tryd.sizeOf5 rfl rfl rfl rfl (by rw [fill_len (by simp [hL4, zs_length]), hL4]; exact hk) ?_
  simp only [sc0, scS]
  rw [fill_step hc (by simp [hL4, zs_length])]
  refine At.nil (At.blkN (At.thenN (At.region (tM rfl rfl (tV (Val.bin rfl rfl rfl) rfl (tA rfl rfl (tE ?_)))))))
  exact At.again (k + 1) (by omega) (by omega) (Sub.cons rfl (Sub.cons rfl (Sub.cons rfl (Sub.cons (congrArg (fun z => some (Value.int IntKind.i64 z)) (wrap_i64 (by omega) (by omega))) Sub.nil)))) (List.Perm.refl _)
 ·have hk : k = 64 := by have := h7; simp at this; omega
  refine At.exitC (At.thenX (At.thenX (At.blkX (At.thenN (tR (tV (Val.loadAll (i := 0) Tryd.isAgg81 Tryd.sizeOf81 rfl rfl (by rw [fill_len (by simp [hL4, zs_length]), hL4])) rfl (At.storeAll (i := 1) Tryd.sizeOf81 rfl rfl (by rw [fill_len (by simp [hL4, zs_length]), hL4]) (by simp [Value.oneCell']) rfl (by simp) ?_)))))))
  simp only [sc0, scS]
  refine tE (At.retC (At.ret1 (.inl rfl) rfl rfl (ResOf.all (i := 1) Tryd.isAgg81 Tryd.sizeOf81 rfl rfl (by rw [fill_len (by simp [hL4, zs_length]), hL4])) (fun w hw => ?_)))
  exact ⟨by rw [hk, fillTo_all hL4 (zs_length 64)]; rfl, hw.drop (List.nil_sublist _)⟩
end Go.Proofs.YtfchinibjhcejaaDoor
namespace Go.Proofs.YtfchinibjhcejaaDoor
open Go Go.Wk
def undoWs (L : List (Int × BitVec 64)) : List (BitVec 64) := L.flatMap fun c => [BitVec.ofInt 64 c.1, c.2]
theorem undoWs_snoc (L : List (Int × BitVec 64)) (c : Int × BitVec 64) : undoWs (L ++ [c]) = undoWs L ++ [BitVec.ofInt 64 c.1, c.2] := by simp [undoWs]
theorem undoWs_length (L : List (Int × BitVec 64)) : (undoWs L).length = 2 * L.length := by
  induction L with
  | nil => rfl
  | cons c L ih => unfold undoWs at *; simp only [List.flatMap_cons, List.length_append, List.length_cons, List.length_nil, ih]; omega
def recB (L : List (Int × BitVec 64)) : List UInt8 := bytesW (undoWs L)
theorem recB_length (L : List (Int × BitVec 64)) : (recB L).length = 16 * L.length := by unfold recB; rw [bytesW_length, undoWs_length]; omega
theorem recB_snoc (L : List (Int × BitVec 64)) (c : Int × BitVec 64) : recB (L ++ [c]) = recB L ++ le 8 (BitVec.ofInt 64 c.1).toNat ++ le 8 c.2.toNat := by
  unfold recB; rw [undoWs_snoc, bytesW_append, List.append_assoc]; rfl
def headB (n : Int) (s : BitVec 32) : List UInt8 := le 8 (sealW (BitVec.ofInt 64 512) (BitVec.ofInt 32 n)).toNat ++ le 8 (sealW (BitVec.ofInt 64 520) s).toNat
theorem headB_length (n : Int) (s : BitVec 32) : (headB n s).length = 16 := by unfold headB; rw [List.length_append, le_length, le_length]
def undoB (L : List (Int × BitVec 64)) : List UInt8 := headB L.length (sumOn 0 (recB L)) ++ zs 48 ++ recB L
theorem undoB_length (L : List (Int × BitVec 64)) : (undoB L).length = 64 + 16 * L.length := by unfold undoB; rw [List.length_append, List.length_append, headB_length, zs_length, recB_length]
noncomputable def packB (L : List (Int × BitVec 64)) : List UInt8 := if GoodUn L then undoB L else []
noncomputable def packE (L : List (Int × BitVec 64)) : Int := if GoodUn L then 0 else 35
theorem packB_T {L : List (Int × BitVec 64)} (h : GoodUn L) : packB L = undoB L := if_pos h
theorem packB_F {L : List (Int × BitVec 64)} (h : ¬ GoodUn L) : packB L = [] := if_neg h
theorem packE_T {L : List (Int × BitVec 64)} (h : GoodUn L) : packE L = 0 := if_pos h
theorem packE_F {L : List (Int × BitVec 64)} (h : ¬ GoodUn L) : packE L = 35 := if_neg h
theorem hasAt_hit {L : List (Int × BitVec 64)} {j k : Nat} {d : Int × BitVec 64} {a : Int} (h : L[j]? = some d) (hj : j < k) (e : d.1 = a) : hasAt (L.take k) a = true :=
  hasAt_T.2 ⟨j, d, by rw [List.getElem?_take, if_pos hj]; exact h, e⟩
theorem hasAt_step {L : List (Int × BitVec 64)} {j : Nat} {d : Int × BitVec 64} {a : Int} (h : L[j]? = some d) (e : ¬ d.1 = a) (h0 : hasAt (L.take j) a = false) : hasAt (L.take (j + 1)) a = false := by
  rw [List.take_succ_of_get h]; unfold hasAt at *; rw [List.any_append, h0]; simp; exact e
theorem pr_eq {L : List (Int × BitVec 64)} {k : Nat} {a b : Int × BitVec 64} (h1 : L[(k : Int).toNat]? = some a) (h2 : L[k]? = some b) : a = b := by
  rw [Int.toNat_natCast, h2] at h1; exact (Option.some.inj h1).symm
theorem sumRd_p (v : Value) (l : List UInt8) (w : World) (hv : RdB w v l) (ht : Tab w) (hlen : l.length ≤ 140737488355328) : PureC Tryd.prog 42 [v] (b32 (sumOn 0 l)) w := by
  obtain ⟨A, c, rfl, hb, _⟩ := hv.bytes; exact sum_p A l c w hb ht hlen
theorem rsumRd_p (v : Value) (l : List UInt8) (w : World) (hv : RdB w v l) (hlen : l.length ≤ 140737488355328) : PureC Tryd.prog 53 [v] (b32 (sumOn 0 l)) w := by
  obtain ⟨A, c, rfl, hb, _⟩ := hv.bytes; exact rsum_p A l c w hb hlen
theorem slotWord_p (a : Int) (w : World) :
    PureC Tryd.prog 73 [.int .i64 a] (.bool (decide (SlotWd a))) w := by
 refine enter0 Tryd.func73 rfl Tryd.ntmps73 rfl ?_
 simp only [envOf]
 refine tR (tA rfl rfl (tE (At.seq (tR (tA rfl rfl (tE (At.block ?_)))))))
 skip
 refine At.loop (σ := Nat) (fun k => 1 ≤ k ∧ k ≤ 257 ∧ ¬ (SlotWd a ∧ (a - 2048) / 64 + 1 < k)) (fun k => [(0, .int .i64 a), (3, .int .i64 (k : Int))]) (fun k => []) (fun k => 257 - k) 1 ⟨by omega, by omega, fun h => by have h1 := h.1; unfold SlotWd at h1; omega⟩ (Sub.cons rfl (Sub.cons rfl Sub.nil)) (List.Perm.refl _) ?_
 intro k hs
 refine At.seq (tR (tM rfl rfl (tV (Val.bin rfl rfl rfl) rfl (tE ?_))))
 refine At.cond rfl (fun h1 => ?_) (fun h1 => ?_)
 ·try simp only [vN_T, vN_F, nmE_T, nmE_F, wI_T, wI_F, data_T, data_F, ino_T, ino_F, notT, notF, bneT, bneF, beqT, beqF, decT, decF] at h1
  have hk : k ≤ 256 := by omega
  refine At.skipC (At.thenN (At.seq (At.block (tR (tM rfl rfl (At.callP (fun w hw => slotAtR_p k w) Tryd.call80 rfl rfl (tA rfl rfl (At.nil ?_))))))))
  rw [slotAt_T (ino_T.2 ⟨by omega, by omega⟩)]
  refine At.thenN (tR (At.weaken [(0, _), (3, _), (5, _), (6, _), (9, _), (10, _), (4, _)] (Sub.cons rfl (Sub.cons rfl (Sub.cons rfl (Sub.cons rfl (Sub.cons rfl (Sub.cons rfl (Sub.cons rfl Sub.nil))))))) ?_))
  refine At.boolMeet 15 25 (decide (a = 2048 + 64 * ((k : Int) - 1) ∨ a = 2048 + 64 * ((k : Int) - 1) + 8 ∨ a = 2048 + 64 * ((k : Int) - 1) + 16)) ?_ ?_
  ·simp only [List.take_succ_cons, List.take_zero]
   refine tM rfl rfl (tM rfl rfl (tV (Val.bin rfl rfl rfl) rfl (tM rfl rfl ?_)))
   refine At.split (t := 14) rfl (fun h2 => ?_) (fun h2 => ?_)
   ·try simp only [vN_T, vN_F, nmE_T, nmE_F, wI_T, wI_F, data_T, data_F, ino_T, ino_F, notT, notF, bneT, bneF, beqT, beqF, decT, decF] at h2
    refine At.no rfl rfl rfl rfl (At.no rfl rfl rfl rfl (At.no rfl rfl rfl rfl (At.no rfl rfl rfl rfl (tV (Val.pickT rfl rfl) rfl (tM rfl rfl (At.no rfl rfl rfl rfl (At.no rfl rfl rfl rfl (At.no rfl rfl rfl rfl (At.no rfl rfl rfl rfl (tV (Val.pickT rfl rfl) rfl (At.nil ?_)))))))))))
    exact At.boolEnd rfl (by first | rfl | exact (decide_eq_true (by omega)).symm | exact (decide_eq_false (by omega)).symm | (apply Bool.eq_iff_iff.2; simp only [decide_eq_true_eq, beq_iff_eq, bne_iff_ne, ne_eq, wI_T, data_T, ino_T, vN_T, nmE_T, Bool.not_eq_true', wI_F, data_F, ino_F, vN_F, nmE_F, decide_eq_false_iff_not]; omega)) (by repeat (first | exact Sub.nil | refine Sub.cons rfl ?_))
   ·try simp only [vN_T, vN_F, nmE_T, nmE_F, wI_T, wI_F, data_T, data_F, ino_T, ino_F, notT, notF, bneT, bneF, beqT, beqF, decT, decF] at h2
    refine At.yes rfl rfl (tM rfl rfl (At.yes rfl rfl (tM rfl rfl (At.yes rfl rfl ?_))))
    first | refine tV (Val.addI rfl rfl (by omega) (by omega)) rfl ?_ | refine tV (Val.bin rfl rfl rfl) rfl ?_
    refine At.yes rfl rfl (tV (Val.bin rfl rfl rfl) rfl (tV (Val.pickF rfl rfl) rfl (tM rfl rfl ?_)))
    refine At.split (t := 20) rfl (fun h3 => ?_) (fun h3 => ?_)
    ·try simp only [vN_T, vN_F, nmE_T, nmE_F, wI_T, wI_F, data_T, data_F, ino_T, ino_F, notT, notF, bneT, bneF, beqT, beqF, decT, decF] at h3
     refine At.no rfl rfl rfl rfl (At.no rfl rfl rfl rfl (At.no rfl rfl rfl rfl (At.no rfl rfl rfl rfl (tV (Val.pickT rfl rfl) rfl (At.nil ?_)))))
     exact At.boolEnd rfl (by first | rfl | exact (decide_eq_true (by omega)).symm | exact (decide_eq_false (by omega)).symm | (apply Bool.eq_iff_iff.2; simp only [decide_eq_true_eq, beq_iff_eq, bne_iff_ne, ne_eq, wI_T, data_T, ino_T, vN_T, nmE_T, Bool.not_eq_true', wI_F, data_F, ino_F, vN_F, nmE_F, decide_eq_false_iff_not]; omega)) (by repeat (first | exact Sub.nil | refine Sub.cons rfl ?_))
    ·try simp only [vN_T, vN_F, nmE_T, nmE_F, wI_T, wI_F, data_T, data_F, ino_T, ino_F, notT, notF, bneT, bneF, beqT, beqF, decT, decF] at h3
     refine At.yes rfl rfl (tM rfl rfl (At.yes rfl rfl (tM rfl rfl (At.yes rfl rfl ?_))))
     first | refine tV (Val.addI rfl rfl (by omega) (by omega)) rfl ?_ | refine tV (Val.bin rfl rfl rfl) rfl ?_
     refine At.yes rfl rfl (tV (Val.bin rfl rfl rfl) rfl (tV (Val.pickF rfl rfl) rfl (At.nil ?_)))
     exact At.boolEnd rfl (by first | rfl | exact (decide_eq_true (by omega)).symm | exact (decide_eq_false (by omega)).symm | (apply Bool.eq_iff_iff.2; simp only [decide_eq_true_eq, beq_iff_eq, bne_iff_ne, ne_eq, wI_T, data_T, ino_T, vN_T, nmE_T, Bool.not_eq_true', wI_F, data_F, ino_F, vN_F, nmE_F, decide_eq_false_iff_not]; omega)) (by repeat (first | exact Sub.nil | refine Sub.cons rfl ?_))
  ·simp only [List.drop_succ_cons, List.drop_zero]
   refine tE ?_
   refine At.cond rfl (fun h4 => ?_) (fun h4 => ?_)
   ·try simp only [vN_T, vN_F, nmE_T, nmE_F, wI_T, wI_F, data_T, data_F, ino_T, ino_F, notT, notF, bneT, bneF, beqT, beqF, decT, decF] at h4
    refine tR (tA rfl rfl (tE (At.retC (At.blkR (At.thenR (At.thenR (At.blkR (At.thenR (At.ret1 (.inl rfl) rfl rfl rfl (fun w hw => ?_))))))))))
    exact ⟨retB (decide_eq_true (by unfold SlotWd; omega)).symm, hw.mod⟩
   ·try simp only [vN_T, vN_F, nmE_T, nmE_F, wI_T, wI_F, data_T, data_F, ino_T, ino_F, notT, notF, bneT, bneF, beqT, beqF, decT, decF] at h4
    refine At.skipC (At.blkN (At.thenN (At.region (tM rfl rfl ?_))))
    first | refine tV (Val.addI rfl rfl (by omega) (by omega)) rfl ?_ | refine tV (Val.bin rfl rfl rfl) rfl ?_
    refine tA rfl rfl (tE ?_)
    exact At.again (k + 1) ⟨by omega, by omega, fun h => by have h1 := h.1; have h2 := h.2; have h3 := hs.2.2; unfold SlotWd at *; omega⟩ (by omega) (Sub.cons rfl (Sub.cons (congrArg (fun z => some (Value.int IntKind.i64 z)) (by omega)) Sub.nil)) (List.Perm.refl _)
 ·try simp only [vN_T, vN_F, nmE_T, nmE_F, wI_T, wI_F, data_T, data_F, ino_T, ino_F, notT, notF, bneT, bneF, beqT, beqF, decT, decF] at h1
  obtain rfl : k = 257 := by omega
  refine At.exitC (At.thenX (At.thenX (At.blkX (At.thenN (tR (tA rfl rfl (tE (At.retC (At.ret1 (.inl rfl) rfl rfl rfl (fun w hw => ?_))))))))))
  exact ⟨retB (decide_eq_false (fun h => hs.2.2 ⟨h, by unfold SlotWd at h; omega⟩)).symm, hw.mod⟩
theorem goodUnR_p (v : Value) (L : List (Int × BitVec 64)) (w : World) (hv : RdP w v L) (hlen : L.length ≤ 140737488355328) :
    PureC Tryd.prog 51 [v] (.bool (decide (GoodUn L))) w := by
 refine enter0 Tryd.func51 rfl Tryd.ntmps51 rfl ?_
 simp only [envOf]
 refine tR (tA rfl rfl (tE (At.seq (tR (At.weaken [(0, _), (2, _)] (Sub.cons rfl (Sub.cons rfl Sub.nil)) ?_)))))
 refine At.boolMeet 8 13 (decide (L.length = 0 ∨ 8 < L.length)) ?_ ?_
 ·simp only [List.take_succ_cons, List.take_zero]
  refine tM rfl rfl (tV (Val.lenRd hv Tryd.underlying25 rfl) rfl (tV (Val.bin rfl rfl rfl) rfl (tM rfl rfl ?_)))
  refine At.split (t := 9) rfl (fun h1 => ?_) (fun h1 => ?_)
  ·try simp only [vN_T, vN_F, nmE_T, nmE_F, wI_T, wI_F, data_T, data_F, ino_T, ino_F, notT, notF, bneT, bneF, beqT, beqF, decT, decF] at h1
   refine At.no rfl rfl rfl rfl (At.no rfl rfl rfl rfl (At.no rfl rfl rfl rfl (tV (Val.pickT rfl rfl) rfl (At.nil ?_))))
   exact At.boolEnd rfl (by first | rfl | exact (decide_eq_true (by omega)).symm | exact (decide_eq_false (by omega)).symm | (apply Bool.eq_iff_iff.2; simp only [decide_eq_true_eq, beq_iff_eq, bne_iff_ne, ne_eq, wI_T, data_T, ino_T, vN_T, nmE_T, Bool.not_eq_true', wI_F, data_F, ino_F, vN_F, nmE_F, decide_eq_false_iff_not]; omega)) (by repeat (first | exact Sub.nil | refine Sub.cons rfl ?_))
  ·try simp only [vN_T, vN_F, nmE_T, nmE_F, wI_T, wI_F, data_T, data_F, ino_T, ino_F, notT, notF, bneT, bneF, beqT, beqF, decT, decF] at h1
   refine At.yes rfl rfl (tM rfl rfl (At.yes rfl rfl (tV (Val.lenRd hv Tryd.underlying25 rfl) rfl (At.yes rfl rfl (tV (Val.bin rfl rfl rfl) rfl (tV (Val.pickF rfl rfl) rfl (At.nil ?_)))))))
   exact At.boolEnd rfl (by first | rfl | exact (decide_eq_true (by omega)).symm | exact (decide_eq_false (by omega)).symm | (apply Bool.eq_iff_iff.2; simp only [decide_eq_true_eq, beq_iff_eq, bne_iff_ne, ne_eq, wI_T, data_T, ino_T, vN_T, nmE_T, Bool.not_eq_true', wI_F, data_F, ino_F, vN_F, nmE_F, decide_eq_false_iff_not]; omega)) (by repeat (first | exact Sub.nil | refine Sub.cons rfl ?_))
 ·simp only [List.drop_succ_cons, List.drop_zero]
  refine tE ?_
  refine At.cond rfl (fun h2 => ?_) (fun h2 => ?_)
  ·try simp only [vN_T, vN_F, nmE_T, nmE_F, wI_T, wI_F, data_T, data_F, ino_T, ino_F, notT, notF, bneT, bneF, beqT, beqF, decT, decF] at h2
   refine tR (tA rfl rfl (tE (At.retC (At.thenR (At.ret1 (.inl rfl) rfl rfl rfl (fun w hw => ?_))))))
   exact ⟨retB (decide_eq_false (fun g => by have h1 := g.1; have h2 := g.2.1; omega)).symm, hw.mod⟩
  ·try simp only [vN_T, vN_F, nmE_T, nmE_F, wI_T, wI_F, data_T, data_F, ino_T, ino_F, notT, notF, bneT, bneF, beqT, beqF, decT, decF] at h2
   refine At.skipC (At.thenN (At.seq (tR (tA rfl rfl (tE (At.block ?_))))))
   skip
   refine At.loop (σ := Nat) (fun k => k ≤ L.length ∧ ∀ j, j < k → OkAt L j) (fun k => [(0, v), (3, .int .i64 (k : Int))]) (fun k => []) (fun k => L.length - k) 0 ⟨Nat.zero_le _, fun j h => by omega⟩ (Sub.cons rfl (Sub.cons rfl Sub.nil)) (List.Perm.refl _) ?_
   intro k hs
   refine At.seq (tR (tM rfl rfl (tM rfl rfl (tV (Val.lenRd hv Tryd.underlying25 rfl) rfl (tV (Val.bin rfl rfl rfl) rfl (tE ?_))))))
   refine At.cond rfl (fun h3 => ?_) (fun h3 => ?_)
   ·try simp only [vN_T, vN_F, nmE_T, nmE_F, wI_T, wI_F, data_T, data_F, ino_T, ino_F, notT, notF, bneT, bneF, beqT, beqF, decT, decF] at h3
    have hk : k < L.length := by omega
    refine At.skipC (At.thenN (At.seq (At.block (tR (tM rfl rfl (tM rfl rfl (At.idxP hv Tryd.underlying25 Tryd.sizeOf108 rfl rfl (by omega) (by omega) rfl rfl (fun b4 o5 q6 hq7 hc8 hd9 => (tV (Val.field o5 rfl fo_108_0 rfl) rfl (tV (Val.loadOld Tryd.isAgg3 rfl hc8 (fun h => h)) rfl ?_))))))))))
    have hqk := hq7
    rw [Int.toNat_natCast] at hqk
    refine At.callP (fun w hw => slotWord_p q6.1 w) Tryd.call73 rfl rfl (tA rfl rfl (tE (At.seq (tR (tM rfl rfl (tV (Val.not rfl) rfl (tE ?_)))))))
    refine At.cond rfl (fun h10 => ?_) (fun h10 => ?_)
    ·try simp only [vN_T, vN_F, nmE_T, nmE_F, wI_T, wI_F, data_T, data_F, ino_T, ino_F, notT, notF, bneT, bneF, beqT, beqF, decT, decF] at h10
     have hno := h10
     refine tR (tA rfl rfl (tE (At.retC (At.thenR (At.blkR (At.thenR (At.thenR (At.blkR (At.thenR (At.ret1 (.inl rfl) rfl rfl rfl (fun w hw => ?_)))))))))))
     exact ⟨retB (decide_eq_false (good_no1 hqk hno)).symm, hw.mod⟩
    ·try simp only [vN_T, vN_F, nmE_T, nmE_F, wI_T, wI_F, data_T, data_F, ino_T, ino_F, notT, notF, bneT, bneF, beqT, beqF, decT, decF] at h10
     have hyes := h10
     refine At.skipC (At.thenN (tR (tA rfl rfl (tE (At.block ?_)))))
     skip
     refine At.loop (σ := Nat) (fun j => j ≤ k ∧ hasAt (L.take j) q6.1 = false) (fun j => [(0, v), (3, .int .i64 (k : Int)), (5, .int .i64 (j : Int))]) (fun j => []) (fun j => k - j) 0 ⟨Nat.zero_le _, rfl⟩ (Sub.cons rfl (Sub.cons rfl (Sub.cons rfl Sub.nil))) (List.Perm.refl _) ?_
     intro j hs'
     refine At.seq (tR (tM rfl rfl (tM rfl rfl (tV (Val.bin rfl rfl rfl) rfl (tE ?_)))))
     refine At.cond rfl (fun h11 => ?_) (fun h11 => ?_)
     ·try simp only [vN_T, vN_F, nmE_T, nmE_F, wI_T, wI_F, data_T, data_F, ino_T, ino_F, notT, notF, bneT, bneF, beqT, beqF, decT, decF] at h11
      have hj : j < k := by omega
      refine At.skipC (At.thenN (At.seq (At.block (At.seq (At.quiet rfl (by decide +kernel) (qM rfl rfl (qM rfl rfl (QAt.idxP hv Tryd.underlying25 Tryd.sizeOf108 rfl rfl (by omega) (by omega) rfl rfl (fun b12 o13 q14 hq15 hc16 hd17 => (qV (Val.field o13 rfl fo_108_0 rfl) rfl (qV (Val.loadOld Tryd.isAgg3 rfl hc16 (fun h => h)) rfl (qM rfl rfl (qM rfl rfl (QAt.idxP hv Tryd.underlying25 Tryd.sizeOf108 rfl rfl (by omega) (by omega) rfl rfl (fun b18 o19 q20 hq21 hc22 hd23 => (qV (Val.field o19 rfl fo_108_0 rfl) rfl (qV (Val.loadOld Tryd.isAgg3 rfl hc22 (fun h => h)) rfl (qV (Val.bin rfl rfl rfl) rfl (QAt.fin (At.thenN ?_))))))))))))))))))))
      refine At.cond rfl (fun h24 => ?_) (fun h24 => ?_)
      ·try simp only [vN_T, vN_F, nmE_T, nmE_F, wI_T, wI_F, data_T, data_F, ino_T, ino_F, notT, notF, bneT, bneF, beqT, beqF, decT, decF] at h24
       refine tR (tA rfl rfl (tE (At.retC (At.blkR (At.thenR (At.thenR (At.blkR (At.blkR (At.thenR (At.thenR (At.blkR (At.thenR (At.ret1 (.inl rfl) rfl rfl rfl (fun w hw => ?_))))))))))))))
       exact ⟨retB (decide_eq_false (good_no2 hqk (hasAt_hit (by have := hq15; rwa [Int.toNat_natCast] at this) hj (by rw [← pr_eq hq21 hqk]; assumption)))).symm, hw.mod⟩
      ·try simp only [vN_T, vN_F, nmE_T, nmE_F, wI_T, wI_F, data_T, data_F, ino_T, ino_F, notT, notF, bneT, bneF, beqT, beqF, decT, decF] at h24
       refine At.skipC (At.blkN (At.thenN (At.region (tM rfl rfl ?_))))
       first | refine tV (Val.addI rfl rfl (by omega) (by omega)) rfl ?_ | refine tV (Val.bin rfl rfl rfl) rfl ?_
       refine tA rfl rfl (tE ?_)
       exact At.again (j + 1) ⟨by omega, hasAt_step (by have := hq15; rwa [Int.toNat_natCast] at this) (by rw [← pr_eq hq21 hqk]; assumption) hs'.2⟩ (by omega) (Sub.cons rfl (Sub.cons rfl (Sub.cons (congrArg (fun z => some (Value.int IntKind.i64 z)) (by omega)) Sub.nil))) (List.Perm.refl _)
     ·try simp only [vN_T, vN_F, nmE_T, nmE_F, wI_T, wI_F, data_T, data_F, ino_T, ino_F, notT, notF, bneT, bneF, beqT, beqF, decT, decF] at h11
      obtain rfl : k = j := by omega
      refine At.exitC (At.thenX (At.thenX (At.blkX (At.blkN (At.thenN (At.region (tM rfl rfl ?_)))))))
      first | refine tV (Val.addI rfl rfl (by omega) (by omega)) rfl ?_ | refine tV (Val.bin rfl rfl rfl) rfl ?_
      refine tA rfl rfl (tE ?_)
      exact At.again (k + 1) ⟨by omega, fun i hi => by rcases Nat.lt_or_ge i k with h | h; exact hs.2 i h; obtain rfl : i = k := (by omega); exact okAt_of hqk hyes hs'.2⟩ (by omega) (Sub.cons rfl (Sub.cons (congrArg (fun z => some (Value.int IntKind.i64 z)) (by omega)) Sub.nil)) (List.Perm.refl _)
   ·try simp only [vN_T, vN_F, nmE_T, nmE_F, wI_T, wI_F, data_T, data_F, ino_T, ino_F, notT, notF, bneT, bneF, beqT, beqF, decT, decF] at h3
    obtain rfl : k = L.length := by omega
    refine At.exitC (At.thenX (At.thenX (At.blkX (At.thenN (tR (tA rfl rfl (tE (At.retC (At.ret1 (.inl rfl) rfl rfl rfl (fun w hw => ?_))))))))))
    exact ⟨retB (decide_eq_true ⟨by omega, by omega, hs.2⟩).symm, hw.mod⟩
end Go.Proofs.YtfchinibjhcejaaDoor
namespace Go.Proofs.YtfchinibjhcejaaDoor
open Go Go.Wk
theorem eyeNumber_p (b L o c at' n : Nat) (l : List UInt8) (w : World) (hh : Holds w b 122 (eyeC L o l.length c at')) (hb : Bytes w (some ⟨L, o, none⟩) l) (hne : L ≠ b) (hc : l.length ≤ c) (hm : l.length ≤ 140737488355328) (hn : at' + n ≤ l.length) (h8 : n ≤ 8) :
    Upd Tryd.prog 65 [.pointer (some ⟨b, 0, none⟩), .int .i64 (n : Int)] (blk b 122 (eyeC L o l.length c at')) (.int .u64 (num l at' n : Nat)) (blk b 122 (eyeC L o l.length c (at' + n))) w := by
 refine enter (feet [(blk b 122 (eyeC L o l.length c at'))]) [(blk b 122 (eyeC L o l.length c at'))] Tryd.func65 rfl Tryd.ntmps65 rfl (Rep.one hh) ?_
 have hS : ¬ feet [(blk b 122 (eyeC L o l.length c at'))] L := fun ⟨r, hr, hx⟩ => by rcases List.mem_singleton.1 hr with rfl; exact hne hx
 simp only [envOf]
 refine tR (tA rfl rfl (tE (tR (tA rfl rfl (tE (At.seq (tR (tM rfl rfl (tM rfl rfl (tE (At.block ?_)))))))))))
 skip
 refine At.loop (σ := Nat) (fun k => k ≤ n) (fun k => [(0, .pointer (some ⟨b, 0, none⟩)), (1, .int .i64 (n : Int)), (5, .int .u64 (num l at' k : Nat)), (7, .int .i64 (n : Int)), (8, .int .i64 (k : Int))]) (fun k => [blk b 122 (eyeC L o l.length c at')]) (fun k => n - k) 0 (Nat.zero_le _) (Sub.cons rfl (Sub.cons rfl (Sub.cons (congrArg (fun z => some (Value.int IntKind.u64 z)) (by rw [num_zero]; rfl)) (Sub.cons rfl (Sub.cons rfl Sub.nil))))) (List.Perm.refl _) ?_
 intro k hs
 refine tR (tV (Val.bin rfl rfl rfl) rfl (tE (At.seq ?_)))
 refine At.cond rfl (fun h1 => ?_) (fun h1 => ?_)
 ·have hk : k < n := by have := h1; simp at this; omega
  obtain ⟨u, hu⟩ : ∃ u, l[at' + k]? = some u := ⟨_, List.getElem?_eq_getElem (by omega)⟩
  obtain ⟨b', o', hbo, hcell⟩ := hb _ _ hu
  simp only [Option.some.injEq, Addr.mk.injEq] at hbo
  obtain ⟨rfl, rfl, _⟩ := hbo
  refine At.skipC (At.thenN (At.seq (At.block (tR (tM rfl rfl (tA rfl rfl (tE (At.quiet rfl (by decide +kernel) (qM rfl rfl (qM rfl rfl (qV (Val.nilCheck rfl) rfl (qV (Val.field 0 rfl fo_122_0 rfl) rfl (qV (Val.load (i := 0) Tryd.isAgg29 rfl rfl rfl) rfl (qM rfl rfl (qV (Val.nilCheck rfl) rfl (qV (Val.field 1 rfl fo_122_1 rfl) rfl (qV (Val.load (i := 0) Tryd.isAgg3 rfl rfl rfl) rfl (qM rfl rfl (qV (Val.bin rfl rfl rfl) rfl ?_)))))))))))))))))))
  rw [wrap_i64 (n := (at' : Int) + (k : Int)) (by omega) (by omega)]
  refine qV (Val.indexSl (o + (at' + k)) (by omega) Tryd.underlying29 Tryd.sizeOf5 rfl rfl (by omega) (by omega)) rfl (qV (Val.loadOld Tryd.isAgg5 rfl hcell hS) rfl (qV (Val.conv Tryd.underlying5 Tryd.underlying38 rfl) rfl ?_))
  rw [wrap_u64 (n := (u.toNat : Int)) (by omega) (by have := u.toNat_lt; omega)]
  refine qM rfl rfl (qV (Val.bin rfl rfl rfl) rfl ?_)
  rw [wrap_i64 (n := 8 * (k : Int)) (by omega) (by omega)]
  refine qV (Val.shl rfl rfl (by omega)) rfl (qV (Val.bin rfl rfl rfl) rfl ?_)
  rw [num_or hu (by omega)]
  refine qV (Val.assign rfl) rfl (QAt.fin (At.blkN (At.thenN (At.region (tV (Val.bin rfl rfl rfl) rfl (tM rfl rfl (tE ?_)))))))
  exact At.again (k + 1) (by omega) (by omega) (Sub.cons rfl (Sub.cons rfl (Sub.cons rfl (Sub.cons rfl (Sub.cons (congrArg (fun z => some (Value.int IntKind.i64 z)) (wrap_i64 (by omega) (by omega))) Sub.nil))))) (List.Perm.refl _)
 ·have hk : k = n := by have := h1; simp at this; omega
  refine At.exitC (At.thenX (At.thenX (At.blkX (At.thenN (tR (tM rfl rfl (tV (Val.nilCheck rfl) rfl (tV (Val.field 1 rfl fo_122_1 rfl) rfl (tV (Val.load (i := 0) Tryd.isAgg3 rfl rfl rfl) rfl (tM rfl rfl (tV (Val.bin rfl rfl rfl) rfl ?_)))))))))))
  rw [wrap_i64 (n := (at' : Int) + (n : Int)) (by omega) (by omega)]
  refine tV (Val.nilCheck rfl) rfl (tV (Val.field 1 rfl fo_122_1 rfl) rfl (At.store (i := 0) Tryd.sizeOf3 rfl rfl rfl rfl (by simp) ?_))
  simp only [sc0, scS]
  refine At.nil ?_
  rw [show ([Value.slice (some ⟨L, o, none⟩) l.length c, Value.int .i64 ((at' : Int) + (n : Int))] : List Value) = eyeC L o l.length c (at' + n) from by simp]
  refine At.thenN (tR (tM rfl rfl (tA rfl rfl (tE (At.retC (At.ret1 (.inl rfl) rfl rfl rfl (fun w hw => ?_)))))))
  exact ⟨by rw [hk], hw⟩
end Go.Proofs.YtfchinibjhcejaaDoor
namespace Go.Proofs.YtfchinibjhcejaaDoor
open Go Go.Wk
end Go.Proofs.YtfchinibjhcejaaDoor
namespace Go.Proofs.YtfchinibjhcejaaDoor
open Go Go.Wk
theorem packUnR_n (v : Value) (L : List (Int × BitVec 64)) (w : World) (hv : RdP w v L) (hlen : L.length ≤ 140737488355328) :
    NewRowT Tryd.prog 27 [v] (fun v => .tuple #[v, .int .i64 (packE L)]) 5 1 (packB L).length ((packB L).map bv) w := by
 refine enter0 Tryd.func27 rfl Tryd.ntmps27 rfl ?_
 simp only [envOf]
 refine tR (tA rfl rfl (tA rfl rfl (tE (tR (tM rfl rfl (At.callP (fun w hw => goodUnR_p v L w (hv.mod hw.mod) hlen) Tryd.call51 rfl rfl (tA rfl rfl (tE (At.seq (tR (tM rfl rfl (tV (Val.not rfl) rfl (tE ?_)))))))))))))
 refine At.cond rfl (fun h1 => ?_) (fun h1 => ?_)
 ·try simp only [vN_T, vN_F, nmE_T, nmE_F, wI_T, wI_F, data_T, data_F, ino_T, ino_F, notT, notF, bneT, bneF, beqT, beqF, decT, decF] at h1
  have hg : ¬ GoodUn L := by simpa using h1
  refine tR (tA rfl rfl (tA rfl rfl (At.nil (At.rowNilB 5 (At.thenN (At.retC (At.thenR (At.ret2 (.inl rfl) rfl rfl rfl rfl (fun w hw => ?_)))))))))
  exact ⟨_, by rw [packE_F hg], by rw [packB_F hg]; exact (hw.drop (List.singleton_sublist.2 (List.mem_of_getElem? (i := 0) rfl))).f0⟩
 ·try simp only [vN_T, vN_F, nmE_T, nmE_F, wI_T, wI_F, data_T, data_F, ino_T, ino_F, notT, notF, bneT, bneF, beqT, beqF, decT, decF] at h1
  have hg : GoodUn L := by simpa using h1
  have hL8 : L.length ≤ 8 := hg.2.1
  refine At.skipC (At.thenN (tR (tA rfl rfl (At.nil (At.rowNilB 5 (At.thenN (At.seq (tR (tA rfl rfl (tE (At.block ?_)))))))))))
  skip
  refine At.loop (σ := Nat × Value) (fun s => s.1 ≤ L.length) (fun s => [(0, v), (5, s.2), (6, .int .i64 (s.1 : Int))]) (fun s => [brow 5 s.2 (recB (L.take s.1))]) (fun s => L.length - s.1) (0, .slice none 0 0) (Nat.zero_le _) (Sub.cons rfl (Sub.cons rfl (Sub.cons rfl Sub.nil))) (List.Perm.refl _) ?_
  intro s hs
  obtain ⟨k, vk⟩ := s
  dsimp only at hs ⊢
  refine At.seq (tR (tM rfl rfl (tM rfl rfl (tV (Val.lenRd hv Tryd.underlying25 rfl) rfl (tV (Val.bin rfl rfl rfl) rfl (tE ?_))))))
  refine At.cond rfl (fun h2 => ?_) (fun h2 => ?_)
  ·try simp only [vN_T, vN_F, nmE_T, nmE_F, wI_T, wI_F, data_T, data_F, ino_T, ino_F, notT, notF, bneT, bneF, beqT, beqF, decT, decF] at h2
   have hk : k < L.length := by omega
   refine At.skipC (At.thenN (At.seq (At.block (tR (tM rfl rfl (tM rfl rfl (tM rfl rfl (At.idxP hv Tryd.underlying25 Tryd.sizeOf108 rfl rfl (by omega) (by omega) rfl rfl (fun b3 o4 q5 hq6 hc7 hd8 => (tV (Val.field o4 rfl fo_108_0 rfl) rfl (tV (Val.loadOld Tryd.isAgg3 rfl hc7 (fun h => h)) rfl (tV (Val.conv Tryd.underlying3 Tryd.underlying38 rfl) rfl ?_))))))))))))
   rw [wrap_u64_int q5.1]
   refine At.callR 0 rfl (fun w hw hr => rlay_p _ (recB (L.take k)) ((BitVec.ofInt 64 q5.1).toNat) 8 w hr (by have := BitVec.isLt ((BitVec.ofInt 64 q5.1)); omega) (by decide) (by rw [recB_length, List.length_take]; omega)) Tryd.call52 rfl rfl (fun v9 => ?_)
   simp only [sc0, scS]
   refine tA rfl rfl (tE (At.region (tM rfl rfl (tM rfl rfl (tM rfl rfl (At.idxP hv Tryd.underlying25 Tryd.sizeOf108 rfl rfl (by omega) (by omega) rfl rfl (fun b10 o11 q12 hq13 hc14 hd15 => (tV (Val.field (o11 + 1) rfl fo_108_1 rfl) rfl (tV (Val.loadOld Tryd.isAgg38 rfl hd15 (fun h => h)) rfl ?_)))))))))
   rw [pr_eq hq13 ((by have := hq6; rwa [Int.toNat_natCast] at this))]
   refine At.callR 0 rfl (fun w hw hr => rlay_p _ ((recB (L.take k)) ++ le 8 ((BitVec.ofInt 64 q5.1).toNat)) ((q5.2).toNat) 8 w hr (by have := BitVec.isLt ((q5.2)); omega) (by decide) (by rw [List.length_append, le_length, recB_length, List.length_take]; omega)) Tryd.call52 rfl rfl (fun v16 => ?_)
   simp only [sc0, scS]
   refine tA rfl rfl (At.nil (At.blkN (At.thenN (At.region (tM rfl rfl ?_)))))
   first | refine tV (Val.addI rfl rfl (by omega) (by omega)) rfl ?_ | refine tV (Val.bin rfl rfl rfl) rfl ?_
   refine tA rfl rfl (tE ?_)
   exact At.again (k + 1, v16) (show k + 1 ≤ _ by omega) (by dsimp only; omega) (Sub.cons rfl (Sub.cons rfl (Sub.cons (congrArg (fun z => some (Value.int IntKind.i64 z)) (by omega)) Sub.nil))) (by rw [List.take_succ_of_get (by have := hq6; rwa [Int.toNat_natCast] at this), recB_snoc])
  ·try simp only [vN_T, vN_F, nmE_T, nmE_F, wI_T, wI_F, data_T, data_F, ino_T, ino_F, notT, notF, bneT, bneF, beqT, beqF, decT, decF] at h2
   obtain rfl : k = L.length := by omega
   rw [List.take_length]
   refine At.exitC (At.thenX (At.thenX (At.blkX (At.thenN (tR (tM rfl rfl ?_))))))
   refine At.callP (fun w hw => rsumRd_p _ (recB L) w (row_rd (hw.row (i := 0) rfl) (by decide)) (by rw [recB_length]; omega)) Tryd.call53 rfl rfl (tA rfl rfl (tE (tR (tA rfl rfl (At.nil (At.rowNilB 5 (At.thenN (tR (tM rfl rfl (tV (Val.lenRd hv Tryd.underlying25 rfl) rfl (tV (Val.conv Tryd.underlying3 Tryd.underlying68 rfl) rfl ?_)))))))))))
   rw [wrap_u32_int (L.length : Int)]
   refine At.callP (fun w hw => sealR_p 512 (BitVec.ofInt 32 (L.length : Int)) w) Tryd.call54 rfl rfl (tA rfl rfl (tE (tR (tM rfl rfl (tM rfl rfl ?_)))))
   refine At.callR 0 rfl (fun w hw hr => rlay_p _ ([] : List UInt8) ((sealW (BitVec.ofInt 64 512) (BitVec.ofInt 32 (L.length : Int))).toNat) 8 w hr (by have := BitVec.isLt ((sealW (BitVec.ofInt 64 512) (BitVec.ofInt 32 (L.length : Int)))); omega) (by decide) (by decide)) Tryd.call52 rfl rfl (fun v17 => ?_)
   simp only [sc0, scS]
   refine tA rfl rfl (tE (tR (tM rfl rfl (At.callP (fun w hw => sealR_p 520 (sumOn 0 (recB L)) w) Tryd.call54 rfl rfl (tA rfl rfl (tE (tR (tM rfl rfl (tM rfl rfl ?_)))))))))
   refine At.callR 0 rfl (fun w hw hr => rlay_p _ (([] : List UInt8) ++ le 8 ((sealW (BitVec.ofInt 64 512) (BitVec.ofInt 32 (L.length : Int))).toNat)) ((sealW (BitVec.ofInt 64 520) (sumOn 0 (recB L))).toNat) 8 w hr (by have := BitVec.isLt ((sealW (BitVec.ofInt 64 520) (sumOn 0 (recB L)))); omega) (by decide) (by rw [List.length_append, le_length]; decide)) Tryd.call52 rfl rfl (fun v18 => ?_)
   simp only [sc0, scS]
   refine tA rfl rfl (At.nil ?_)
   rw [show (([] : List UInt8) ++ le 8 ((sealW (BitVec.ofInt 64 512) (BitVec.ofInt 32 (L.length : Int))).toNat) ++ le 8 ((sealW (BitVec.ofInt 64 520) (sumOn 0 (recB L))).toNat)) = (headB (L.length : Int) (sumOn 0 (recB L))) from rfl]
   refine At.thenN (tR (tM rfl rfl ?_))
   refine At.callR 0 rfl (fun w hw hr => filled_p _ (headB (L.length : Int) (sumOn 0 (recB L))) 64 w hr (by rw [headB_length]; decide) (by decide)) Tryd.call55 rfl rfl (fun v19 => ?_)
   simp only [sc0, scS]
   refine tA rfl rfl (At.nil ?_)
   rw [show 64 - (headB (L.length : Int) (sumOn 0 (recB L))).length = 48 from by rw [headB_length]]
   refine At.thenN (At.seq (At.seq ?_))
   have hrl := recB_length L
   refine At.region (tA rfl rfl (tE (At.block ?_)))
   skip
   refine At.loop (σ := Nat × Value) (fun s => s.1 ≤ (recB L).length) (fun s => [(5, vk), (8, s.2), (11, .int .i64 (s.1 : Int))]) (fun s => [brow 5 s.2 ((headB (L.length : Int) (sumOn 0 (recB L))) ++ zs 48 ++ (recB L).take s.1), brow 5 vk (recB L)]) (fun s => (recB L).length - s.1) (0, v19) (Nat.zero_le _) (Sub.cons rfl (Sub.cons rfl (Sub.cons rfl Sub.nil))) (by rw [List.take_zero, List.append_nil]) ?_
   intro s hs
   obtain ⟨k, vm⟩ := s
   dsimp only at hs ⊢
   refine At.seq (tR (tM rfl rfl (tM rfl rfl (tV (Val.lenRow (i := 1) Tryd.underlying29 rfl rfl) rfl (tV (Val.bin rfl rfl rfl) rfl (tE ?_))))))
   refine At.cond rfl (fun h20 => ?_) (fun h20 => ?_)
   ·try simp only [vN_T, vN_F, nmE_T, nmE_F, wI_T, wI_F, data_T, data_F, ino_T, ino_F, notT, notF, bneT, bneF, beqT, beqF, decT, decF] at h20
    have hk : k < (recB L).length := by omega
    refine At.skipC (At.thenN (At.seq (At.block (At.region (tM rfl rfl (tM rfl rfl (tM rfl rfl (At.idxRowB (i := 1) rfl Tryd.underlying29 Tryd.sizeOf5 rfl rfl (by omega) (by omega) rfl rfl (fun q21 hq22 hl23 => (tV (Val.loadRowB (i := 1) Tryd.isAgg5 rfl rfl hq22) rfl (At.buildSl (fun a ha => by simp only [List.map_toArray, List.map_cons, List.map_nil, ha.eval (x := (.tmp 63)) rfl]; try rfl) (bs_29_1 _ ) rfl (fun b24 => ?_))))))))))))
    refine At.appendB1 (i := 1) (j := 0) (by_ := 1) Tryd.underlying29 info_5 rfl rfl rfl rfl rfl rfl rfl rfl (by rw [List.length_append, List.length_append, headB_length, zs_length, List.length_take]; omega) (by rw [List.length_append, List.length_append, headB_length, zs_length, List.length_take]; omega) rfl (fun v25 => ?_)
    simp only [sc0, scS]
    refine At.drop 0 ?_
    simp only [ec0, ecS]
    refine tA rfl rfl (At.nil (At.blkN (At.thenN (At.region (tM rfl rfl ?_)))))
    first | refine tV (Val.addI rfl rfl (by omega) (by omega)) rfl ?_ | refine tV (Val.bin rfl rfl rfl) rfl ?_
    refine tA rfl rfl (tE ?_)
    exact At.again (k + 1, v25) (show k + 1 ≤ _ by omega) (by dsimp only; omega) (Sub.cons rfl (Sub.cons rfl (Sub.cons (congrArg (fun z => some (Value.int IntKind.i64 z)) (by omega)) Sub.nil))) (by rw [List.take_succ_of_get (by have := hq22; rwa [Int.toNat_natCast] at this), ← List.append_assoc])
   ·try simp only [vN_T, vN_F, nmE_T, nmE_F, wI_T, wI_F, data_T, data_F, ino_T, ino_F, notT, notF, bneT, bneF, beqT, beqF, decT, decF] at h20
    obtain rfl : k = (recB L).length := by omega
    rw [List.take_length]
    refine At.exitC (At.thenX (At.thenX (At.blkX (At.thenN (tR (tM rfl rfl (tA rfl rfl (tA rfl rfl (tE (At.retC (At.ret2 (.inl rfl) rfl rfl rfl rfl (fun w hw => ?_))))))))))))
    exact ⟨_, by rw [packE_T hg], by rw [packB_T hg]; exact (hw.drop (List.singleton_sublist.2 (List.mem_of_getElem? (i := 0) rfl))).f0⟩
end Go.Proofs.YtfchinibjhcejaaDoor
namespace Go.Proofs.YtfchinibjhcejaaDoor
open Go Go.Wk
def lo (x : BitVec 64) : Nat := (x.setWidth 32).toNat
def Sl (a : Int) (x : BitVec 64) : Prop := sealW (BitVec.ofInt 64 a) (x.setWidth 32) = x
instance (a : Int) (x : BitVec 64) : Decidable (Sl a x) := by unfold Sl; infer_instance
theorem num_b64 (l : List UInt8) (a : Nat) : (Value.int .u64 ((num l a 8 : Nat) : Int)) = b64 (BitVec.ofNat 64 (num l a 8)) := by
  unfold b64; rw [BitVec.toNat_ofNat, Nat.mod_eq_of_lt (by have := num_lt (l := l) a 8; simpa using this)]
def wordA (l : List UInt8) (a : Nat) : BitVec 64 := BitVec.ofNat 64 (num l a 8)
theorem num_wordA (l : List UInt8) (a : Nat) : (Value.int .u64 ((num l a 8 : Nat) : Int)) = b64 (wordA l a) := num_b64 l a
def unN (l : List UInt8) : Nat := lo (wordA l 0)
def recs (l : List UInt8) (k : Nat) : List (Int × BitVec 64) := (List.range k).map fun j => (((num l (64 + 16 * j) 8 : Nat) : Int), wordA l (64 + 16 * j + 8))
theorem recs_succ (l : List UInt8) (k : Nat) : recs l (k + 1) = recs l k ++ [(((num l (64 + 16 * k) 8 : Nat) : Int), wordA l (64 + 16 * k + 8))] := by
  unfold recs; rw [List.range_succ, List.map_append]; rfl
theorem recs_length (l : List UInt8) (k : Nat) : (recs l k).length = k := by unfold recs; simp
theorem recs_get (l : List UInt8) {k n : Nat} (h : k < n) : (recs l n)[k]? = some (((num l (64 + 16 * k) 8 : Nat) : Int), wordA l (64 + 16 * k + 8)) := by
  unfold recs; simp [List.getElem?_map, List.getElem?_range h]
def seg (l : List UInt8) (n : Nat) : List UInt8 := (l.drop 64).take (16 * n)
theorem seg_cut (l : List UInt8) (n : Nat) : (l.drop 64).take (64 + 16 * n - 64) = seg l n := by unfold seg; rw [show 64 + 16 * n - 64 = 16 * n by omega]
def OkUn (l : List UInt8) : Prop := l.length = 512 ∧ Sl 512 (wordA l 0) ∧ (unN l = 0 ∨ (unN l ≤ 8 ∧ sealW (BitVec.ofInt 64 520) (sumOn 0 (seg l (unN l))) = wordA l 8 ∧ GoodUn (recs l (unN l))))
noncomputable instance (l : List UInt8) : Decidable (OkUn l) := Classical.propDecidable _
noncomputable def openUnL (l : List UInt8) : List (Int × BitVec 64) := if OkUn l then recs l (unN l) else []
noncomputable def openUnE (l : List UInt8) : Int := if OkUn l then 0 else 35
theorem openUnL_no {l : List UInt8} (h : ¬ OkUn l) : openUnL l = [] := if_neg h
theorem openUnE_no {l : List UInt8} (h : ¬ OkUn l) : openUnE l = 35 := if_neg h
theorem openUnL_yes {l : List UInt8} (h : OkUn l) : openUnL l = recs l (unN l) := if_pos h
theorem openUnE_yes {l : List UInt8} (h : OkUn l) : openUnE l = 0 := if_pos h
theorem openUnL_0 {l : List UInt8} (h : OkUn l) (h0 : unN l = 0) : openUnL l = [] := by rw [openUnL_yes h, h0]; rfl
theorem OkUn.two {l : List UInt8} (h : OkUn l) (h0 : ¬ unN l = 0) : unN l ≤ 8 ∧ sealW (BitVec.ofInt 64 520) (sumOn 0 (seg l (unN l))) = wordA l 8 ∧ GoodUn (recs l (unN l)) := h.2.2.resolve_left h0
theorem good_at {L : List (Int × BitVec 64)} {k : Nat} {c : Int × BitVec 64} (g : GoodUn L) (h : L[k]? = some c) : c.1 ≤ 18431 := (g.2.2 k (List.getElem?_eq_some_iff.1 h).1 c h).1.2.1
theorem OkUn.at {l : List UInt8} (h : OkUn l) {k : Nat} (hk : k < unN l) : num l (64 + 16 * k) 8 ≤ 18431 := by
  have := good_at (h.two (by omega)).2.2 (recs_get l hk)
  simp only at this; omega
theorem seal_lo {a : Int} {s : BitVec 32} {x : BitVec 64} (h : sealW (BitVec.ofInt 64 a) s = x) : Sl a x ∧ lo x = s.toNat := by
  subst h; exact ⟨by unfold Sl; rw [seal_low], by unfold lo; rw [seal_low]⟩
theorem seal_of {a : Int} {s : BitVec 32} {x : BitVec 64} (h : Sl a x) (e : s.toNat = lo x) : sealW (BitVec.ofInt 64 a) s = x := by
  have : s = x.setWidth 32 := BitVec.eq_of_toNat_eq e
  rw [this]; exact h
theorem recs_bd {l : List UInt8} {n : Nat} (h : ∀ j, j < n → num l (64 + 16 * j) 8 < 4294967296) : ∀ c ∈ recs l n, -9223372036854775808 ≤ c.1 ∧ c.1 ≤ 9223372036854775807 := fun c hc => by
  unfold recs at hc
  obtain ⟨j, hj, rfl⟩ := List.mem_map.1 hc
  have := h j (List.mem_range.1 hj)
  simp only; omega
theorem openUn_n (v : Value) (l : List UInt8) (w : World) (ht : Tab w) (hv : RdB w v l) (hlen : l.length ≤ 140737488355328) :
    NewRowT Tryd.prog 37 [v] (fun v => .tuple #[v, .int .i64 (openUnE l)]) 108 2 (openUnL l).length (prC (openUnL l)) w := by
 refine enterD0 Tryd.func37 rfl Tryd.ntmps37 rfl ?_
 simp only [envOf]
 refine tR (At.alloc Tryd.zeroValue25 rfl rfl (fun b1 => (At.alloc Tryd.zeroValue42 rfl rfl (fun b2 => (tE (tR (At.defer rfl (tE (tR (tM rfl rfl (tV (Val.lenRd hv Tryd.underlying29 rfl) rfl (tV (Val.bin rfl rfl rfl) rfl ?_))))))))))))
 refine At.split (t := 10) rfl (fun h3 => ?_) (fun h3 => ?_)
 ·try simp only [vN_T, vN_F, nmE_T, nmE_F, wI_T, wI_F, data_T, data_F, ino_T, ino_F, notT, notF, bneT, bneF, beqT, beqF, decT, decF] at h3
  have hl : l.length = 512 := by omega
  obtain ⟨L, o, c, rfl, hb, hlc, hL⟩ := RdB.some hv (by omega)
  refine At.callP (fun w hw => must_T _ w) Tryd.call63 rfl rfl (tE (tR (tM rfl rfl ?_)))
  refine tV (Val.build (fun a ha => by simp only [List.map_toArray, List.map_cons, List.map_nil, ha.eval (x := (.tmp 12)) rfl] <;> rfl) (bld_122_0 _ _ _ )) rfl (At.alloc Tryd.zeroValue122 rfl rfl (fun b4 => (At.storeAll (i := 0) Tryd.sizeOf122 rfl rfl rfl (by simp [Value.oneCell']) rfl rfl ?_)))
  simp only [sc0, scS]
  refine At.nil ?_
  rw [show ([Value.slice (some ⟨L, o, none⟩) l.length c, Value.int IntKind.i64 0] : List Value) = eyeC L o l.length c 0 from rfl]
  refine At.thenN (tR (At.call1 0 rfl (fun w hw hr => eyeNumber_p _ L o c 0 8 l w hr (hb.mod hw.mod) (hw.newBlk (i := 0) rfl hL) hlc (by omega) (by omega) (by decide)) Tryd.call65 rfl rfl ?_))
  simp only [sc0, scS]
  skip
  ·rw [num_wordA l 0]
   by_cases hs0 : Sl 512 (wordA l 0)
   ·refine At.callP (fun w hw => held_T 512 (wordA l 0) 35 w (ht.mod hw.mod) hs0) Tryd.call64 rfl rfl (tA rfl rfl (At.nil ?_))
    rw [show ((wordA l 0).setWidth 32).toNat = unN l from rfl]
    refine At.thenN (At.seq (tR (tM rfl rfl (tV (Val.bin rfl rfl rfl) rfl (tE ?_)))))
    refine At.cond rfl (fun h5 => ?_) (fun h5 => ?_)
    ·try simp only [vN_T, vN_F, nmE_T, nmE_F, wI_T, wI_F, data_T, data_F, ino_T, ino_F, notT, notF, bneT, bneF, beqT, beqF, decT, decF] at h5
     have h0 : unN l = 0 := by omega
     have hok : OkUn l := ⟨hl, hs0, .inl h0⟩
     refine tR (At.store (i := 2) Tryd.sizeOf25 rfl rfl rfl rfl (by first | decide | simp) ?_)
     simp only [sc0, scS]
     refine At.store (i := 1) Tryd.sizeOf42 rfl rfl rfl rfl (by first | decide | simp) ?_
     simp only [sc0, scS]
     refine tE (At.retC (At.thenR (At.leaveN (.inl rfl) rfl Tryd.call62 (fun w hw => caughtUndos_idle _ _ w) rfl (ResOf.one (i := 2) Tryd.isAgg25 rfl rfl rfl) (ResOf.one (i := 1) Tryd.isAgg42 rfl rfl rfl) (fun w hw => ?_))))
     exact ⟨.slice none 0 0, by rw [openUnE_yes hok], by rw [openUnL_0 hok h0]; exact ((hw.drop (List.nil_sublist _)).f0).nilRow _ _⟩
    ·try simp only [vN_T, vN_F, nmE_T, nmE_F, wI_T, wI_F, data_T, data_F, ino_T, ino_F, notT, notF, bneT, bneF, beqT, beqF, decT, decF] at h5
     have h0 : ¬ unN l = 0 := by omega
     refine At.skipC (At.thenN (tR (tM rfl rfl (tV (Val.bin rfl rfl rfl) rfl ?_))))
     refine At.split (t := 19) rfl (fun h6 => ?_) (fun h6 => ?_)
     ·try simp only [vN_T, vN_F, nmE_T, nmE_F, wI_T, wI_F, data_T, data_F, ino_T, ino_F, notT, notF, bneT, bneF, beqT, beqF, decT, decF] at h6
      have hn8 : unN l ≤ 8 := by omega
      refine At.callP (fun w hw => must_T _ w) Tryd.call63 rfl rfl (tE (tR (At.call1 0 rfl (fun w hw hr => eyeNumber_p _ L o c (0 + 8) 8 l w hr (hb.mod hw.mod) (hw.newBlk (i := 0) rfl hL) hlc (by omega) (by omega) (by decide)) Tryd.call65 rfl rfl ?_)))
      simp only [sc0, scS]
      skip
      ·rw [show (0 : Nat) + 8 = 8 from rfl, num_wordA l 8]
       by_cases hs8 : Sl 520 (wordA l 8)
       ·refine At.callP (fun w hw => held_T 520 (wordA l 8) 35 w (ht.mod hw.mod) hs8) Tryd.call64 rfl rfl (tA rfl rfl (At.nil ?_))
        rw [show ((wordA l 8).setWidth 32).toNat = lo (wordA l 8) from rfl]
        refine At.thenN (tR (tV (Val.field 1 rfl fo_122_1 rfl) rfl ?_))
        refine At.store (i := 0) Tryd.sizeOf3 rfl rfl rfl rfl (by first | (simp; done) | (simp; omega)) ?_
        simp only [sc0, scS]
        refine At.nil ?_
        rw [show ([Value.slice (some ⟨L, o, none⟩) l.length c, Value.int .i64 64] : List Value) = eyeC L o l.length c 64 from rfl]
        refine At.thenN (At.seq ?_)
        have hsl := (sumOn 0 (seg l (unN l))).isLt
        refine At.region (tM rfl rfl (tM rfl rfl ?_))
        first | refine tV (Val.mulI rfl rfl (by omega) (by omega)) rfl ?_ | refine tV (Val.bin rfl rfl rfl) rfl ?_
        first | refine tV (Val.addI rfl rfl (by omega) (by omega)) rfl ?_ | refine tV (Val.bin rfl rfl rfl) rfl ?_
        refine At.cutB (64) (64 + 16 * unN l) hv Tryd.underlying29 Tryd.sizeOf5 rfl ⟨_, _, rfl, by omega, by omega⟩ ⟨_, _, rfl, by omega, by omega⟩ (by omega) (by omega) rfl rfl (fun v7 hv8 => ?_)
        refine At.callP (fun w hw => (by have := sumRd_p v7 _ w (hv8.mod hw.mod) (ht.mod hw.mod) (by simp only [List.length_take, List.length_drop]; omega); rwa [seg_cut] at this)) Tryd.call42 rfl rfl ?_
        first | refine tV (Val.toI Tryd.underlying68 Tryd.underlying3 rfl (by omega) (by omega)) rfl ?_ | refine tV (Val.conv Tryd.underlying68 Tryd.underlying3 rfl) rfl ?_
        refine tM rfl rfl (tV (Val.bin rfl rfl rfl) rfl ?_)
        refine At.split (t := 32) rfl (fun h9 => ?_) (fun h9 => ?_)
        ·try simp only [vN_T, vN_F, nmE_T, nmE_F, wI_T, wI_F, data_T, data_F, ino_T, ino_F, notT, notF, bneT, bneF, beqT, beqF, decT, decF] at h9
         have hseal := seal_of hs8 (show (sumOn 0 (seg l (unN l))).toNat = lo (wordA l 8) by omega)
         refine At.callP (fun w hw => must_T _ w) Tryd.call63 rfl rfl (At.nil (At.rowNilP 108 (At.thenN (At.seq (tR (tM rfl rfl (tM rfl rfl (tE (At.block ?_)))))))))
         skip
         refine At.loop (σ := Nat × Value) (fun s => s.1 ≤ unN l ∧ ∀ j, j < s.1 → num l (64 + 16 * j) 8 < 4294967296) (fun s => [(2, .pointer (some ⟨b1, 0, none⟩)), (3, .pointer (some ⟨b2, 0, none⟩)), (4, .pointer (some ⟨b4, 0, none⟩)), (34, .int .i64 (unN l : Int)), (35, .int .i64 (s.1 : Int))]) (fun s => [prow 108 s.2 (recs l s.1), blk b4 122 (eyeC L o l.length c (64 + 16 * s.1)), blk b2 42 [.int .i64 0], blk b1 25 [s.2]]) (fun s => unN l - s.1) (0, .slice none 0 0) ⟨Nat.zero_le _, fun j h => absurd h (Nat.not_lt_zero _)⟩ (Sub.cons rfl (Sub.cons rfl (Sub.cons rfl (Sub.cons rfl (Sub.cons rfl Sub.nil))))) (List.Perm.refl _) ?_
         intro s hs
         obtain ⟨k, vk⟩ := s
         dsimp only at hs ⊢
         refine tR (tV (Val.bin rfl rfl rfl) rfl (tE (At.seq ?_)))
         refine At.cond rfl (fun h10 => ?_) (fun h10 => ?_)
         ·try simp only [vN_T, vN_F, nmE_T, nmE_F, wI_T, wI_F, data_T, data_F, ino_T, ino_F, notT, notF, bneT, bneF, beqT, beqF, decT, decF] at h10
          have hk : k < unN l := by omega
          refine At.skipC (At.thenN (At.seq (At.block (tR (At.call1 1 rfl (fun w hw hr => eyeNumber_p _ L o c (64 + 16 * k) 8 l w hr (hb.mod hw.mod) (hw.newBlk (i := 1) rfl hL) hlc (by omega) (by omega) (by decide)) Tryd.call65 rfl rfl ?_)))))
          simp only [sc0, scS]
          refine tA rfl rfl (tE (tR (tM rfl rfl (tV (Val.bin rfl rfl rfl) rfl ?_))))
          refine At.split (t := 39) rfl (fun h11 => ?_) (fun h11 => ?_)
          ·try simp only [vN_T, vN_F, nmE_T, nmE_F, wI_T, wI_F, data_T, data_F, ino_T, ino_F, notT, notF, bneT, bneF, beqT, beqF, decT, decF] at h11
           have hlt : num l (64 + 16 * k) 8 < 4294967296 := by omega
           refine At.callP (fun w hw => must_T _ w) Tryd.call63 rfl rfl (tE ?_)
           apply At.any (t := 7)
           · rfl
           refine KAt.pin (fun w hw => hw.drop (List.Sublist.cons _ (List.Sublist.cons _ (List.Sublist.cons _ (List.Sublist.cons_cons _ (List.Sublist.refl _)))))) (KAt.take 0 (Val.load (i := 0) Tryd.isAgg25 rfl rfl rfl) rfl rfl rfl rfl (fun w hw => hw.drop (List.Sublist.cons _ (List.Sublist.cons _ (List.Sublist.cons _ (List.Sublist.cons_cons _ (List.Sublist.refl _)))))) (by decide +kernel) (KAt.take 1 (Val.move rfl) rfl rfl rfl rfl (fun w hw => hw.drop (List.Sublist.cons _ (List.Sublist.cons _ (List.Sublist.cons _ (List.Sublist.cons_cons _ (List.Sublist.refl _)))))) (by decide +kernel) ?_))
           first | refine KAt.take 2 (Val.toI Tryd.underlying38 Tryd.underlying3 rfl (by omega) (by omega)) rfl rfl rfl rfl (fun w hw => hw.drop (List.Sublist.cons _ (List.Sublist.cons _ (List.Sublist.cons _ (List.Sublist.cons_cons _ (List.Sublist.refl _)))))) (by decide +kernel) ?_ | refine KAt.take 2 (Val.conv Tryd.underlying38 Tryd.underlying3 rfl) rfl rfl rfl rfl (fun w hw => hw.drop (List.Sublist.cons _ (List.Sublist.cons _ (List.Sublist.cons _ (List.Sublist.cons_cons _ (List.Sublist.refl _)))))) (by decide +kernel) ?_
           refine KAt.only 3 rfl (by decide +kernel) (At.call1 1 rfl (fun w hw hr => eyeNumber_p _ L o c (64 + 16 * k + 8) 8 l w hr (hb.mod hw.mod) (hw.newBlk (i := 1) rfl hL) hlc (by omega) (by omega) (by decide)) Tryd.call65 rfl rfl ?_)
           simp only [sc0, scS]
           rw [num_wordA l (64 + 16 * k + 8)]
           refine At.nil (KAt.go (fun w hw => hw.drop (List.Sublist.cons _ (List.Sublist.cons _ (List.Sublist.cons _ (List.Sublist.cons_cons _ (List.Sublist.refl _)))))) ?_)
           refine KAt.take 4 (Val.build (fun a ha => by simp only [List.map_toArray, List.map_cons, List.map_nil, ha.eval (x := (.tmp 43)) rfl, ha.eval (x := (.tmp 44)) rfl] <;> rfl) (bld_108_0_1 _ _ )) rfl rfl rfl rfl (fun w hw => hw.drop (List.Sublist.cons _ (List.Sublist.cons _ (List.Sublist.cons _ (List.Sublist.cons_cons _ (List.Sublist.refl _)))))) (by decide +kernel) (KAt.only 5 rfl (by decide +kernel) (At.buildSl (fun a ha => by simp only [List.map_toArray, List.map_cons, List.map_nil, ha.eval (x := (.tmp 45)) rfl]; try rfl) (bs_25_1 _ _ ) rfl (fun b12 => (At.nil (KAt.go (fun w hw => hw.drop (List.Sublist.cons _ (List.Sublist.cons _ (List.Sublist.cons _ (List.Sublist.cons _ (List.Sublist.cons_cons _ (List.Sublist.refl _))))))) (KAt.only 6 rfl (by decide +kernel) ?_))))))
           refine At.appendP1 (i := 1) (j := 0) (by_ := 16) Tryd.underlying25 info_108 rfl rfl rfl rfl rfl rfl rfl rfl (by rw [recs_length]; omega) (by rw [recs_length]; omega) rfl (fun v13 => ?_)
           simp only [sc0, scS]
           refine At.drop 0 ?_
           simp only [ec0, ecS]
           refine At.nil (KAt.go (fun w hw => hw.drop (List.Sublist.cons _ (List.Sublist.cons _ (List.Sublist.cons _ (List.Sublist.cons_cons _ (List.Sublist.refl _)))))) (KAt.only 7 rfl (by decide +kernel) (At.rowOne (i := 0) rfl (fun ho14 => (At.store (i := 3) Tryd.sizeOf25 rfl rfl ho14 rfl (by first | decide | simp) ?_)))))
           simp only [sc0, scS]
           refine At.nil (KAt.goT rfl (KAt.done (by decide +kernel) (At.blkN (At.thenN (At.region ?_)))))
           first | refine tV (Val.addI rfl rfl (by omega) (by omega)) rfl ?_ | refine tV (Val.bin rfl rfl rfl) rfl ?_
           refine tM rfl rfl (tE ?_)
           exact At.again (k + 1, v13) ⟨by dsimp only; omega, fun j hj => by rcases Nat.lt_or_ge j k with h | h; exact hs.2 j h; obtain rfl : k = j := (by dsimp only at hj; omega); assumption⟩ (by dsimp only; omega) (Sub.cons rfl (Sub.cons rfl (Sub.cons rfl (Sub.cons rfl (Sub.cons (congrArg (fun z => some (Value.int IntKind.i64 z)) (by omega)) Sub.nil))))) (by rw [recs_succ, show 64 + 16 * (k + 1) = 64 + 16 * k + 8 + 8 from by omega])
          ·try simp only [vN_T, vN_F, nmE_T, nmE_F, wI_T, wI_F, data_T, data_F, ino_T, ino_F, notT, notF, bneT, bneF, beqT, beqF, decT, decF] at h11
           have hno : ¬ OkUn l := fun h => by have := h.at hk; omega
           refine At.callT0 (fun w hw => must_F _ w) Tryd.call63 rfl (At.thenE (At.blkE (At.thenE (At.thenE (At.blkE (At.thenE (At.leaveP rfl Tryd.call62 ((erase_perm _ 3 _ rfl).trans (List.Perm.cons _ (erase_perm _ 2 _ rfl))) (fun w hw => caughtUndos_pan _ _ _ _ _ w (hw.blk (i := 0) rfl) rfl (hw.blk (i := 1) rfl) hw.ne01) rfl (ResOf.one (i := 0) Tryd.isAgg25 rfl rfl rfl) (ResOf.one (i := 1) Tryd.isAgg42 rfl rfl rfl) (fun w hw => ?_))))))))
           exact ⟨.slice none 0 0, by rw [openUnE_no hno], by rw [openUnL_no hno]; exact ((hw.drop (List.nil_sublist _)).f0).nilRow _ _⟩
         ·try simp only [vN_T, vN_F, nmE_T, nmE_F, wI_T, wI_F, data_T, data_F, ino_T, ino_F, notT, notF, bneT, bneF, beqT, beqF, decT, decF] at h10
          obtain rfl : k = unN l := by omega
          refine At.exitC (At.thenX (At.thenX (At.blkX (At.thenN (tR (tV (Val.load (i := 3) Tryd.isAgg25 rfl rfl rfl) rfl ?_))))))
          refine At.callP (fun w hw => goodUn_p _ (recs l (unN l)) w (row_rd (hw.row (i := 0) rfl) (by decide)) (by rw [recs_length]; omega) (recs_bd hs.2)) Tryd.call66 rfl rfl ?_
          refine At.split (t := 50) rfl (fun h15 => ?_) (fun h15 => ?_)
          ·try simp only [vN_T, vN_F, nmE_T, nmE_F, wI_T, wI_F, data_T, data_F, ino_T, ino_F, notT, notF, bneT, bneF, beqT, beqF, decT, decF] at h15
           have hgun : GoodUn (recs l (unN l)) := by simpa using h15
           have hok : OkUn l := ⟨hl, hs0, .inr ⟨hn8, hseal, hgun⟩⟩
           refine At.callP (fun w hw => must_T _ w) Tryd.call63 rfl rfl (tE (tR (tV (Val.load (i := 3) Tryd.isAgg25 rfl rfl rfl) rfl (At.rowOne (i := 0) rfl (fun ho16 => (At.store (i := 3) Tryd.sizeOf25 rfl rfl ho16 rfl (by first | decide | simp) ?_))))))
           simp only [sc0, scS]
           refine At.store (i := 2) Tryd.sizeOf42 rfl rfl rfl rfl (by first | decide | simp) ?_
           simp only [sc0, scS]
           refine tE (At.retC (At.leaveN (.inl rfl) rfl Tryd.call62 (fun w hw => caughtUndos_idle _ _ w) rfl (ResOf.one (i := 3) Tryd.isAgg25 rfl rfl rfl) (ResOf.one (i := 2) Tryd.isAgg42 rfl rfl rfl) (fun w hw => ?_)))
           exact ⟨vk, by rw [openUnE_yes hok], by rw [openUnL_yes hok]; exact (hw.drop (List.singleton_sublist.2 (List.mem_of_getElem? (i := 0) rfl))).f0⟩
          ·try simp only [vN_T, vN_F, nmE_T, nmE_F, wI_T, wI_F, data_T, data_F, ino_T, ino_F, notT, notF, bneT, bneF, beqT, beqF, decT, decF] at h15
           have hno : ¬ OkUn l := fun h => absurd (h.two h0).2.2 (by simpa using h15)
           refine At.callT0 (fun w hw => must_F _ w) Tryd.call63 rfl (At.thenE (At.leaveP rfl Tryd.call62 ((erase_perm _ 3 _ rfl).trans (List.Perm.cons _ (erase_perm _ 2 _ rfl))) (fun w hw => caughtUndos_pan _ _ _ _ _ w (hw.blk (i := 0) rfl) rfl (hw.blk (i := 1) rfl) hw.ne01) rfl (ResOf.one (i := 0) Tryd.isAgg25 rfl rfl rfl) (ResOf.one (i := 1) Tryd.isAgg42 rfl rfl rfl) (fun w hw => ?_)))
           exact ⟨.slice none 0 0, by rw [openUnE_no hno], by rw [openUnL_no hno]; exact ((hw.drop (List.nil_sublist _)).f0).nilRow _ _⟩
        ·try simp only [vN_T, vN_F, nmE_T, nmE_F, wI_T, wI_F, data_T, data_F, ino_T, ino_F, notT, notF, bneT, bneF, beqT, beqF, decT, decF] at h9
         have hno : ¬ OkUn l := fun h => by have := (seal_lo (h.two h0).2.1).2; omega
         refine At.callT0 (fun w hw => must_F _ w) Tryd.call63 rfl (At.thenE (At.leaveP rfl Tryd.call62 ((erase_perm _ 2 _ rfl).trans (List.Perm.cons _ (erase_perm _ 1 _ rfl))) (fun w hw => caughtUndos_pan _ _ _ _ _ w (hw.blk (i := 0) rfl) rfl (hw.blk (i := 1) rfl) hw.ne01) rfl (ResOf.one (i := 0) Tryd.isAgg25 rfl rfl rfl) (ResOf.one (i := 1) Tryd.isAgg42 rfl rfl rfl) (fun w hw => ?_)))
         exact ⟨.slice none 0 0, by rw [openUnE_no hno], by rw [openUnL_no hno]; exact ((hw.drop (List.nil_sublist _)).f0).nilRow _ _⟩
       ·have hno : ¬ OkUn l := fun h => hs8 (seal_lo (h.two h0).2.1).1
        refine At.callT0 (fun w hw => held_F 520 (wordA l 8) 35 w (ht.mod hw.mod) hs8) Tryd.call64 rfl (At.thenE (At.leaveP rfl Tryd.call62 ((erase_perm _ 2 _ rfl).trans (List.Perm.cons _ (erase_perm _ 1 _ rfl))) (fun w hw => caughtUndos_pan _ _ _ _ _ w (hw.blk (i := 0) rfl) rfl (hw.blk (i := 1) rfl) hw.ne01) rfl (ResOf.one (i := 0) Tryd.isAgg25 rfl rfl rfl) (ResOf.one (i := 1) Tryd.isAgg42 rfl rfl rfl) (fun w hw => ?_)))
        exact ⟨.slice none 0 0, by rw [openUnE_no hno], by rw [openUnL_no hno]; exact ((hw.drop (List.nil_sublist _)).f0).nilRow _ _⟩
     ·try simp only [vN_T, vN_F, nmE_T, nmE_F, wI_T, wI_F, data_T, data_F, ino_T, ino_F, notT, notF, bneT, bneF, beqT, beqF, decT, decF] at h6
      have hno : ¬ OkUn l := fun h => by have := (h.two h0).1; omega
      refine At.callT0 (fun w hw => must_F _ w) Tryd.call63 rfl (At.thenE (At.leaveP rfl Tryd.call62 ((erase_perm _ 2 _ rfl).trans (List.Perm.cons _ (erase_perm _ 1 _ rfl))) (fun w hw => caughtUndos_pan _ _ _ _ _ w (hw.blk (i := 0) rfl) rfl (hw.blk (i := 1) rfl) hw.ne01) rfl (ResOf.one (i := 0) Tryd.isAgg25 rfl rfl rfl) (ResOf.one (i := 1) Tryd.isAgg42 rfl rfl rfl) (fun w hw => ?_)))
      exact ⟨.slice none 0 0, by rw [openUnE_no hno], by rw [openUnL_no hno]; exact ((hw.drop (List.nil_sublist _)).f0).nilRow _ _⟩
   ·have hno : ¬ OkUn l := fun h => hs0 h.2.1
    refine At.callT0 (fun w hw => held_F 512 (wordA l 0) 35 w (ht.mod hw.mod) hs0) Tryd.call64 rfl (At.thenE (At.leaveP rfl Tryd.call62 ((erase_perm _ 2 _ rfl).trans (List.Perm.cons _ (erase_perm _ 1 _ rfl))) (fun w hw => caughtUndos_pan _ _ _ _ _ w (hw.blk (i := 0) rfl) rfl (hw.blk (i := 1) rfl) hw.ne01) rfl (ResOf.one (i := 0) Tryd.isAgg25 rfl rfl rfl) (ResOf.one (i := 1) Tryd.isAgg42 rfl rfl rfl) (fun w hw => ?_)))
    exact ⟨.slice none 0 0, by rw [openUnE_no hno], by rw [openUnL_no hno]; exact ((hw.drop (List.nil_sublist _)).f0).nilRow _ _⟩
 ·try simp only [vN_T, vN_F, nmE_T, nmE_F, wI_T, wI_F, data_T, data_F, ino_T, ino_F, notT, notF, bneT, bneF, beqT, beqF, decT, decF] at h3
  have hno : ¬ OkUn l := fun h => by have := h.1; omega
  refine At.callT0 (fun w hw => must_F _ w) Tryd.call63 rfl (At.thenE (At.leaveP rfl Tryd.call62 ((erase_perm _ 1 _ rfl).trans (List.Perm.cons _ (erase_perm _ 0 _ rfl))) (fun w hw => caughtUndos_pan _ _ _ _ _ w (hw.blk (i := 0) rfl) rfl (hw.blk (i := 1) rfl) hw.ne01) rfl (ResOf.one (i := 0) Tryd.isAgg25 rfl rfl rfl) (ResOf.one (i := 1) Tryd.isAgg42 rfl rfl rfl) (fun w hw => ?_)))
  exact ⟨.slice none 0 0, by rw [openUnE_no hno], by rw [openUnL_no hno]; exact ((hw.drop (List.nil_sublist _)).f0).nilRow _ _⟩
end Go.Proofs.YtfchinibjhcejaaDoor
namespace Go.Proofs.YtfchinibjhcejaaDoor
open Go Go.Wk
end Go.Proofs.YtfchinibjhcejaaDoor
namespace Go.Proofs.YtfchinibjhcejaaDoor
open Go Go.Wk
end Go.Proofs.YtfchinibjhcejaaDoor
namespace Go.Proofs.YtfchinibjhcejaaDoor
open Go Go.Wk
def packSupV (p i c : Int) : Value := if GoodSup p i c then .tuple #[lineV (superB p.toNat i.toNat c.toNat), .int .i64 0] else .tuple #[zline, .int .i64 30]
theorem packSup_yes {p i c : Int} (h : GoodSup p i c) : packSupV p i c = .tuple #[lineV (superB p.toNat i.toNat c.toNat), .int .i64 0] := if_pos h
theorem packSup_no {p i c : Int} (h : ¬ GoodSup p i c) : packSupV p i c = .tuple #[zline, .int .i64 30] := if_neg h
theorem lineV_length {b : List UInt8} (h : b.length ≤ 60) : ((lineL b).map bv).length = 64 := by rw [List.length_map]; exact lineL_length h
theorem packSupR_p (p i c : Int) (w : World) (hp : -9223372036854775808 ≤ p ∧ p ≤ 9223372036854775807) :
    PureC Tryd.prog 28 [.agg #[.int .i64 p, .int .i64 i, .int .i64 c]] (packSupV p i c) w := by
 refine enter0 Tryd.func28 rfl Tryd.ntmps28 rfl ?_
 simp only [envOf]
 refine tR (At.box rfl rfl rfl (fun b1 => (At.alloc zero_81 zc_81 rfl (fun b2 => (tA rfl rfl (tE (At.seq (tR (tV (Val.loadAll (i := 1) Tryd.isAgg23 Tryd.sizeOf23 rfl rfl rfl) rfl (At.callP (fun w hw => goodSup_p _ _ _ w hp) Tryd.call50 rfl rfl (tV (Val.not rfl) rfl (tE ?_))))))))))))
 refine At.cond rfl (fun h3 => ?_) (fun h3 => ?_)
 ·have hg : ¬ GoodSup p i c := by simpa using h3
  refine tR ?_
  refine tV (Val.build (fun a ha => by simp only [List.map_toArray, List.map_cons, List.map_nil] <;> rfl) (bld_81_)) rfl (At.storeAll (i := 0) Tryd.sizeOf81 rfl rfl rfl (by simp [Value.oneCell']) rfl (by simp) ?_)
  simp only [sc0, scS]
  refine tA rfl rfl (tE (At.retC (At.thenR (At.ret2 (.inl rfl) rfl rfl (ResOf.all (i := 0) Tryd.isAgg81 Tryd.sizeOf81 rfl rfl (by simp)) rfl (fun w hw => ?_)))))
  exact ⟨by rw [packSup_no hg]; rfl, hw.mod⟩
 ·have hg : GoodSup p i c := by simpa using h3
  have hg' := hg
  unfold GoodSup at hg'
  refine At.skipC (At.thenN (tR (tA rfl rfl (tE (tR (tM rfl rfl (At.rowNil 5 1 (At.callR 0 rfl (fun w hw hr => letters_p _ [] ⟨#[70, 85, 82, 82, 79, 87, 48, 49]⟩ w hr (by decide)) Tryd.call56 rfl rfl (fun v4 => ?_)))))))))
  simp only [sc0, scS]
  refine tA rfl rfl (tE (tR (tM rfl rfl (tV (Val.field 0 rfl fo_23_0 rfl) rfl (tV (Val.load (i := 2) Tryd.isAgg3 rfl rfl rfl) rfl (tV (Val.conv Tryd.underlying3 Tryd.underlying38 rfl) rfl ?_))))))
  rw [toU64 (n := p) (by omega) (by omega)]
  refine At.callR 0 rfl (fun w hw hr => rlay_p _ ([] ++ [70, 85, 82, 82, 79, 87, 48, 49]) p.toNat 4 w hr (by omega) (by decide) (by simp [le_length])) Tryd.call52 rfl rfl (fun v5 => ?_)
  simp only [sc0, scS]
  refine tA rfl rfl (tE (tR (tM rfl rfl (tV (Val.field 1 rfl fo_23_1 rfl) rfl (tV (Val.load (i := 2) Tryd.isAgg3 rfl rfl rfl) rfl (tV (Val.conv Tryd.underlying3 Tryd.underlying38 rfl) rfl ?_))))))
  rw [toU64 (n := i) (by omega) (by omega)]
  refine At.callR 0 rfl (fun w hw hr => rlay_p _ ([] ++ [70, 85, 82, 82, 79, 87, 48, 49] ++ le 4 p.toNat) i.toNat 4 w hr (by omega) (by decide) (by simp [le_length])) Tryd.call52 rfl rfl (fun v6 => ?_)
  simp only [sc0, scS]
  refine tA rfl rfl (tE (tR (tM rfl rfl (tV (Val.field 2 rfl fo_23_2 rfl) rfl (tV (Val.load (i := 2) Tryd.isAgg3 rfl rfl rfl) rfl (tV (Val.conv Tryd.underlying3 Tryd.underlying38 rfl) rfl ?_))))))
  rw [toU64 (n := c) (by omega) (by omega)]
  refine At.callR 0 rfl (fun w hw hr => rlay_p _ ([] ++ [70, 85, 82, 82, 79, 87, 48, 49] ++ le 4 p.toNat ++ le 4 i.toNat) c.toNat 4 w hr (by omega) (by decide) (by simp [le_length])) Tryd.call52 rfl rfl (fun v7 => ?_)
  simp only [sc0, scS]
  refine tA rfl rfl (tE (tR (tM rfl rfl ?_)))
  refine At.callU 0 rfl (fun w hw hr => line_p _ (superB p.toNat i.toNat c.toNat) w hr (by rw [superB_length]; decide)) Tryd.call57 rfl rfl ?_
  simp only [ec0, ecS]
  refine At.alloc zero_81 zc_81 rfl (fun b8 => ?_)
  refine At.storeAll (i := 0) Tryd.sizeOf81 rfl rfl (lineV_length (by rw [superB_length]; decide)) (by simp [Value.oneCell']) rfl (by simp) ?_
  simp only [sc0, scS]
  refine tE (tR ?_)
  refine tV (Val.loadAll (i := 0) Tryd.isAgg81 Tryd.sizeOf81 rfl rfl (lineV_length (by rw [superB_length]; decide))) rfl ?_
  refine At.storeAll (i := 1) Tryd.sizeOf81 rfl rfl (lineV_length (by rw [superB_length]; decide)) (by simp [Value.oneCell']) rfl (by simp) ?_
  simp only [sc0, scS]
  refine tA rfl rfl (tE (At.retC ?_))
  refine At.ret2 (.inl rfl) rfl rfl (ResOf.all (i := 1) Tryd.isAgg81 Tryd.sizeOf81 rfl rfl (lineV_length (by rw [superB_length]; decide))) rfl (fun w hw => ?_)
  exact ⟨by rw [packSup_yes hg]; rfl, hw.mod⟩
end Go.Proofs.YtfchinibjhcejaaDoor
namespace Go.Proofs.YtfchinibjhcejaaDoor
open Go Go.Wk
def OkSup (l : List UInt8) : Prop := GoodSup (num l 8 4 : Nat) (num l 12 4 : Nat) (num l 16 4 : Nat) ∧ SupLine l
instance (l : List UInt8) : Decidable (OkSup l) := by unfold OkSup; infer_instance
end Go.Proofs.YtfchinibjhcejaaDoor
namespace Go.Proofs.YtfchinibjhcejaaDoor
open Go Go.Wk
def lineAt (l : List UInt8) (k : Nat) : List UInt8 := (l.drop (64 * k)).take 64
def HasSup (l : List UInt8) (k : Nat) : Prop := OkSup (lineAt l k) ∧ num (lineAt l k) 8 4 * 512 = l.length
instance (l : List UInt8) (k : Nat) : Decidable (HasSup l k) := by unfold HasSup; infer_instance
end Go.Proofs.YtfchinibjhcejaaDoor
namespace Go.Proofs.YtfchinibjhcejaaDoor
open Go Go.Wk
theorem wbytes_byte {xs : List (BitVec 64)} {k b : Nat} {x : BitVec 64} (h : xs[k]? = some x) (hb : b < 8) : (wbytes xs)[8 * k + b]? = some (UInt8.ofNat (x.toNat / 256 ^ b)) := by
  have := wbytes_take h
  have h2 : (((wbytes xs).drop (8 * k)).take 8)[b]? = (wbytes xs)[8 * k + b]? := by rw [List.getElem?_take, if_pos hb, List.getElem?_drop]
  rw [← h2, this]; exact le_get 8 _ b hb
theorem take_part {xs : List (BitVec 64)} {a c r m : Nat} {x : BitVec 64} (h : xs[(a + c) / 8]? = some x) (hr : r = (a + c) % 8) (hm : r + m ≤ 8) : ((wbytes xs).drop a).take (c + m) = ((wbytes xs).drop a).take c ++ ((le8 x).drop r).take m := by
  subst hr
  rw [List.take_add]
  congr 1
  rw [List.drop_drop]
  apply List.ext_getElem?
  intro i
  rw [List.getElem?_take, List.getElem?_take]
  split
  · rename_i hi
    rw [List.getElem?_drop, List.getElem?_drop, show a + c + i = 8 * ((a + c) / 8) + ((a + c) % 8 + i) by omega, wbytes_byte h (by omega)]
    exact (le_get 8 _ _ (by omega)).symm
  · rfl
theorem At.appendPart {P : Program} {Γ : Ctx} {E : Env} {H : List Res} {ops : Array Oper} {Q : Exit → Act → World → Prop} {rest : List Oper} {d : Nat} {ty : TypeId} {pos : String} {after : Array Edge} {x y : Operand} {v : Value} {i j t e by_ b U r m c : Nat} {ti : TypeInfo} {z : Value} {l : List UInt8} {w8 : List UInt8} (ht : P.underlying t = some (.slice e)) (hti : P.info? e = some ti) (hz : ti.zero = some z) (hsize : ti.size = 1) (hby : ti.bytes = by_) (hzs : z.cells.size = 1)
    (hx : ev E x = some v) (hy : ev E y = some (.slice (some ⟨b, r, none⟩) m c)) (hi : H[i]? = some (brow e v l)) (hj : H[j]? = some (blk b U (w8.map bv))) (hm : r + m ≤ w8.length) (h63 : (l.length + m) * by_ ≤ 140737488355328) (h64 : l.length + m ≤ 140737488355328) (hn : Nat.blt d Γ.n = true)
    (k : ∀ v', At Γ ((d, v') :: E) (H.set i (brow e v' (l ++ (w8.drop r).take m))) (wpList P ops Q rest)) :
    At Γ E H (wpList P ops Q ({ dst := some d, op := .call { callee := .builtin .append, args := #[x, y], argTypes := #[t, t] }, type := ty, pos, after, guard := none } :: rest)) :=
  At.append (i := i) (ys := ((w8.drop r).take m).map bv) ht hti hz hsize hby hzs rfl hx hy hi (by rw [List.length_map, List.length_take, List.length_drop]; omega) (fun w hw j' u hj' => by
      refine ((hw.blk hj).cell (r + j')).trans ?_
      rw [List.getElem?_map, List.getElem?_take] at hj'
      split at hj'
      · rw [List.getElem?_drop] at hj'; rw [List.getElem?_map]; exact hj'
      · cases hj') (bv_one _) h63 h64 hn fun v' => by
    have := k v'
    have e1 : ((w8.drop r).take m).length = m := by rw [List.length_take, List.length_drop]; omega
    simpa only [brow, List.map_append, List.length_append, e1] using this
theorem read_s (p : Nat) (γ : Gh) (σ : Ds) (a n : Nat) (w : World) (han : a + n ≤ 8 * σ.ws.length) (hd : (Dev p γ σ).holds w) :
    RowKT Tryd.prog 36 [.pointer (some ⟨p, 0, none⟩), .int .i64 (a : Int), .int .i64 (n : Int)] (Dev p γ σ) (fun v' => .tuple #[v', .int .i64 0]) 5 1 (((wbytes (viewWs σ.ws)).drop a).take n).length ((((wbytes (viewWs σ.ws)).drop a).take n).map bv) w := by
 refine enterVc hd Tryd.func36 rfl Tryd.ntmps36 rfl ?_
 have hgd := Dev.good hd
 have hln := hgd.len
 simp only [envOf]
 refine tR (tA rfl rfl (tA rfl rfl (tE (At.seq (tR (tM rfl rfl (tM rfl rfl (tM rfl rfl (At.callK 0 rfl (fun w hw hr => has_k _ _ _ _ _ w hr) Tryd.call49 rfl rfl (tV (Val.not rfl) rfl (tE ?_)))))))))))
 refine At.cond rfl (fun h1 => ?_) (fun h1 => ?_)
 ·try simp only [hasB, isSizeB, sB] at h1
  omega
 ·try simp only [hasB, isSizeB, sB] at h1
  refine At.skipC (At.thenN (tR (tM rfl rfl (At.makeRow0B (c := n) Tryd.underlying29 info_5 rfl rfl rfl rfl rfl (by omega) rfl (fun v2 => (tA rfl rfl (tE (tR (At.alloc zero_115 zc_115 rfl (fun b3 => (tE (At.seq (tR (tM rfl rfl (tA rfl rfl (tE (At.block ?_)))))))))))))))))
  skip
  refine At.loop (σ := (Nat × Value) × List UInt8) (fun s => s.1.1 ≤ n ∧ s.2.length = 8) (fun s => [(0, .pointer (some ⟨p, 0, none⟩)), (1, .int .i64 (a : Int)), (2, .int .i64 (n : Int)), (8, s.1.2), (9, .pointer (some ⟨b3, 0, none⟩)), (10, .int .i64 ((a + s.1.1 : Nat) : Int))]) (fun s => [blk b3 115 (s.2.map bv), brow 5 s.1.2 (((wbytes (viewWs σ.ws)).drop a).take s.1.1), Dev p γ σ]) (fun s => n - s.1.1) ((0, v2), zs 8) ⟨Nat.zero_le _, rfl⟩ (Sub.cons rfl (Sub.cons rfl (Sub.cons rfl (Sub.cons rfl (Sub.cons rfl (Sub.cons rfl Sub.nil)))))) (by dsimp only; rw [zs_bv, List.take_zero]) ?_
  intro s hs
  obtain ⟨⟨c, vr⟩, w8⟩ := s
  dsimp only at hs ⊢
  obtain ⟨hcn, hw8⟩ := hs
  refine At.seq (tR (tM rfl rfl (tM rfl rfl (tM rfl rfl ?_))))
  first | refine tV (Val.addI rfl rfl (by omega) (by omega)) rfl ?_ | refine tV (Val.bin rfl rfl rfl) rfl ?_
  refine tV (Val.bin rfl rfl rfl) rfl (tE ?_)
  refine At.cond rfl (fun h4 => ?_) (fun h4 => ?_)
  ·try simp only [hasB, isSizeB, sB] at h4
   have hc : c < n := by omega
   obtain ⟨wd, hk⟩ : ∃ wd, σ.ws[(a + c) / 8]? = some wd := ⟨_, List.getElem?_eq_getElem (by omega)⟩
   have hv0 : (viewWs σ.ws)[(a + c) / 8]? = some (nowW wd) := by unfold viewWs; rw [List.getElem?_map, hk]; rfl
   obtain ⟨r, hr⟩ : ∃ r, r = (a + c) % 8 := ⟨_, rfl⟩
   have hr8 : r < 8 := by omega
   refine At.skipC (At.thenN (At.block (At.seq (At.tail 7 rfl (by decide +kernel) ?_))))
   simp only [List.take_succ_cons, List.take_zero, List.drop_succ_cons, List.drop_zero]
   refine qV (Val.cutArr (b := b3) (o := 0) 0 8 0 8 8 Tryd.underlying115 Tryd.sizeOf5 rfl rfl rfl (by decide) (by decide) rfl rfl rfl) rfl (qM rfl rfl (qM rfl rfl (qM rfl rfl ?_)))
   first | refine qV (Val.remI rfl rfl (by omega) (by decide)) rfl ?_ | refine qV (Val.rem rfl rfl (by decide)) rfl ?_
   refine qV (Val.subI rfl rfl (by omega) (by omega)) rfl ?_
   rw [show ((a + c : Nat) : Int) - ((a + c : Nat) : Int) % 8 = 8 * (((a + c) / 8 : Nat) : Int) from by omega]
   refine QAt.callK 2 rfl (fun w hw hr => now_k _ _ _ ((a + c) / 8) wd w hk hr) Tryd.call24 rfl rfl (QAt.fin ?_)
   refine At.call1 0 rfl (fun w hw hr => putW_b b3 115 (w8.map bv) (nowW wd) w (by rw [List.length_map]; exact hw8) hr) Tryd.call61 rfl rfl ?_
   simp only [sc0, scS]
   refine tE (tR (tM rfl rfl (tV (Val.remI rfl rfl (by omega) (by decide)) rfl ?_)))
   rw [show ((a + c : Nat) : Int) % 8 = (r : Int) from by omega]
   refine tV (Val.cutArr (b := b3) (o := 0) r 8 r (8 - r) (8 - r) Tryd.underlying115 Tryd.sizeOf5 rfl ⟨_, _, rfl, by omega, by omega⟩ rfl (by omega) (by omega) (by rw [if_neg (by omega)]; omega) rfl rfl) rfl (tA rfl rfl (tE ?_))
   refine At.join (σ := Nat) (fun m => m = min (8 - r) (n - c)) (fun m => [(0, .pointer (some ⟨p, 0, none⟩)), (1, .int .i64 (a : Int)), (2, .int .i64 (n : Int)), (8, vr), (9, .pointer (some ⟨b3, 0, none⟩)), (10, .int .i64 ((a + c : Nat) : Int)), (11, .slice (some ⟨b3, r, none⟩) m (8 - r))]) (fun m => [blk b3 115 ((le8 (nowW wd)).map bv), rowR vr 5 1 (((((wbytes (viewWs σ.ws)).drop a).take c)).length) (((((wbytes (viewWs σ.ws)).drop a).take c)).map bv), Dev p γ (σ)]) ?_ ?_
   ·refine tR (tM rfl rfl (tV (Val.len (bt := #[]) Tryd.underlying29 rfl) rfl (tM rfl rfl (tM rfl rfl ?_))))
    first | refine tV (Val.addI rfl rfl (by omega) (by omega)) rfl ?_ | refine tV (Val.bin rfl rfl rfl) rfl ?_
    refine tM rfl rfl ?_
    first | refine tV (Val.subI rfl rfl (by omega) (by omega)) rfl ?_ | refine tV (Val.bin rfl rfl rfl) rfl ?_
    refine tV (Val.bin rfl rfl rfl) rfl (tE ?_)
    refine At.cond rfl (fun h5 => ?_) (fun h5 => ?_)
    ·try simp only [hasB, isSizeB, sB] at h5
     refine At.region (tM rfl rfl (tM rfl rfl (tM rfl rfl ?_)))
     first | refine tV (Val.addI rfl rfl (by omega) (by omega)) rfl ?_ | refine tV (Val.bin rfl rfl rfl) rfl ?_
     refine tM rfl rfl ?_
     first | refine tV (Val.subI rfl rfl (by omega) (by omega)) rfl ?_ | refine tV (Val.bin rfl rfl rfl) rfl ?_
     refine tV (Val.cutSl (b := b3) (o := r) 0 (n - c) r (n - c) (8 - r) Tryd.underlying29 Tryd.sizeOf5 rfl rfl ⟨_, _, rfl, by omega, by omega⟩ (by omega) (by omega) (by split <;> omega) rfl rfl) rfl (tA rfl rfl (tE ?_))
     exact At.meets _ (by omega) (Sub.cons rfl (Sub.cons rfl (Sub.cons rfl (Sub.cons rfl (Sub.cons rfl (Sub.cons rfl (Sub.cons rfl Sub.nil))))))) (List.Perm.refl _)
    ·try simp only [hasB, isSizeB, sB] at h5
     refine At.skipC (At.thenN ?_)
     exact At.meets _ (by omega) (Sub.cons rfl (Sub.cons rfl (Sub.cons rfl (Sub.cons rfl (Sub.cons rfl (Sub.cons rfl (Sub.cons rfl Sub.nil))))))) (List.Perm.refl _)
   ·intro m hs
    have hm8 : r + m ≤ 8 := by omega
    have hm1 : 1 ≤ m := by omega
    refine tR (tM rfl rfl (tM rfl rfl ?_))
    refine At.appendPart (i := 1) (j := 0) (by_ := 1) (w8 := le8 (nowW wd)) Tryd.underlying29 info_5 rfl rfl rfl rfl rfl rfl rfl rfl (by rw [le_length]; exact hm8) (by rw [List.length_take]; omega) (by rw [List.length_take]; omega) rfl (fun v6 => ?_)
    simp only [sc0, scS]
    refine tA rfl rfl (tE (At.region (tM rfl rfl (tM rfl rfl (tV (Val.len (bt := #[]) Tryd.underlying29 rfl) rfl ?_)))))
    first | refine tV (Val.addI rfl rfl (by omega) (by omega)) rfl ?_ | refine tV (Val.bin rfl rfl rfl) rfl ?_
    refine tA rfl rfl (At.nil (At.blkN (At.thenN ?_)))
    exact At.again ((c + m, v6), le8 (nowW wd)) ⟨(show c + m ≤ n by omega), le_length 8 _⟩ (by dsimp only; omega) (Sub.cons rfl (Sub.cons rfl (Sub.cons rfl (Sub.cons rfl (Sub.cons rfl (Sub.cons (congrArg (fun z => some (Value.int IntKind.i64 z)) (by dsimp only; omega)) Sub.nil)))))) (by dsimp only; rw [take_part hv0 hr hm8])
  ·try simp only [hasB, isSizeB, sB] at h4
   obtain rfl : c = n := by omega
   refine At.exitC (At.thenX (At.thenX (At.blkX (At.thenN (tR (tM rfl rfl (tA rfl rfl (tA rfl rfl (tE (At.retC (At.ret2 (.inl rfl) rfl rfl rfl rfl (fun w hw => ?_))))))))))))
   exact ⟨_, rfl, hw.drop (List.Sublist.refl _ |>.cons _)⟩
end Go.Proofs.YtfchinibjhcejaaDoor
namespace Go.Proofs.YtfchinibjhcejaaDoor
open Go Go.Wk
def TW (a i : Int) : Prop := 2048 ≤ a ∧ (a - 2048) % 8 = 0 ∧ (a - 2048) / 64 < i ∧ (a - 2048) % 64 < 24
instance (a i : Int) : Decidable (TW a i) := by unfold TW; infer_instance
theorem eq_shape (p i c d e : Int) : ((p == p) && ((i == i) && ((c == c) && ((e == d) && true)))) = decide (d = e) := by
  simp only [beq_self_eq_true, Bool.true_and, Bool.and_true]
  rw [Bool.eq_iff_iff]; simp only [beq_iff_eq, decide_eq_true_eq]
  exact ⟨Eq.symm, Eq.symm⟩
theorem wrap_off {a : Int} (h : -9223372036854775808 ≤ a ∧ a ≤ 9223372036854775807) : ∃ o, IntKind.i64.wrap (a - 2048) = o ∧ (o = a - 2048 ∨ (a < -9223372036854773760 ∧ o = a - 2048 + 18446744073709551616)) ∧ -9223372036854775808 ≤ o ∧ o ≤ 9223372036854775807 := by
  refine ⟨_, rfl, ?_⟩
  by_cases h1 : -9223372036854773760 ≤ a
  · rw [wrap_i64 (by omega) (by omega)]; omega
  · have e : IntKind.i64.wrap (a - 2048) = a - 2048 + 18446744073709551616 := by
      simp only [IntKind.wrap, IntKind.signed, IntKind.bits]
      simp
      omega
    rw [e]; omega
def PlK (i : Int) (cs : List (Int × BitVec 64)) (k : Nat) : Prop := ∀ j q, j < k → cs[j]? = some q → TW q.1 i ∧ q.1 ∉ (cs.take j).map Prod.fst
theorem PlK_0 (i : Int) (cs : List (Int × BitVec 64)) : PlK i cs 0 := fun j q h => absurd h (Nat.not_lt_zero _)
theorem PlK_succ {i : Int} {cs : List (Int × BitVec 64)} {k : Nat} {q : Int × BitVec 64} (h : PlK i cs k) (hq : cs[k]? = some q) (h1 : TW q.1 i) (h2 : q.1 ∉ (cs.take k).map Prod.fst) : PlK i cs (k + 1) := fun j r hj hr => by
  rcases Nat.lt_or_ge j k with g | g
  · exact h j r g hr
  · obtain rfl : k = j := by omega
    obtain rfl : q = r := by rw [hq] at hr; exact Option.some.inj hr
    exact ⟨h1, h2⟩
theorem PlK_not {i : Int} {cs : List (Int × BitVec 64)} {k : Nat} {q : Int × BitVec 64} (hq : cs[k]? = some q) (h : ¬ (TW q.1 i ∧ q.1 ∉ (cs.take k).map Prod.fst)) : ¬ PlK i cs cs.length := fun g => h (g k q (List.getElem?_eq_some_iff.1 hq).1 hq)
theorem isTable_p (p i c dt a : Int) (w : World) (ha : -9223372036854775808 ≤ a ∧ a ≤ 9223372036854775807) (hi : 0 ≤ i ∧ i ≤ 1000000) :
    PureC Tryd.prog 34 [.agg #[.int .i64 p, .int .i64 i, .int .i64 c, .int .i64 dt], .int .i64 a] (.bool (decide (TW a i))) w := by
 refine enter0 Tryd.func34 rfl Tryd.ntmps34 rfl ?_
 obtain ⟨o, ho, hoc, hob⟩ := wrap_off ha
 simp only [envOf]
 refine tR (At.box rfl rfl rfl (fun b1 => (tA rfl rfl (tE (tR (tM rfl rfl (tV (Val.bin rfl rfl rfl) rfl ?_)))))))
 rw [ho]
 refine tA rfl rfl (tE (At.seq (tR (At.weaken [(0, _), (1, _), (2, _), (4, _), (6, _), (7, _), (5, _)] (Sub.cons rfl (Sub.cons rfl (Sub.cons rfl (Sub.cons rfl (Sub.cons rfl (Sub.cons rfl (Sub.cons rfl Sub.nil))))))) ?_))))
 refine At.boolMeet 7 14 (decide (¬ (0 ≤ o ∧ o % 8 = 0))) ?_ ?_
 ·simp only [List.take_succ_cons, List.take_zero]
  refine tM rfl rfl (tV (Val.bin rfl rfl rfl) rfl (tM rfl rfl ?_))
  refine At.split (t := 10) rfl (fun h2 => ?_) (fun h2 => ?_)
  ·try simp only [hasB, isSizeB, sB] at h2
   refine At.no rfl rfl rfl rfl (At.no rfl rfl rfl rfl (At.no rfl rfl rfl rfl (tV (Val.pickT rfl rfl) rfl (At.nil ?_))))
   exact At.boolEnd rfl (by apply Bool.eq_iff_iff.2; (simp only [decide_eq_true_eq, Bool.false_eq_true, false_iff, true_iff, iff_true, iff_false, gt_iff_lt, ge_iff_le, beq_iff_eq, bne_iff_ne, ne_eq]) <;> omega) (by repeat (first | exact Sub.nil | refine Sub.cons rfl ?_))
  ·try simp only [hasB, isSizeB, sB] at h2
   refine At.yes rfl rfl (tM rfl rfl (At.yes rfl rfl ?_))
   first | refine tV (Val.remI rfl rfl (by omega) (by decide)) rfl ?_ | refine tV (Val.rem rfl rfl (by decide)) rfl ?_
   refine At.yes rfl rfl (tV (Val.bin rfl rfl rfl) rfl (tV (Val.pickF rfl rfl) rfl (At.nil ?_)))
   exact At.boolEnd rfl (by apply Bool.eq_iff_iff.2; (simp only [decide_eq_true_eq, Bool.false_eq_true, false_iff, true_iff, iff_true, iff_false, gt_iff_lt, ge_iff_le, beq_iff_eq, bne_iff_ne, ne_eq]) <;> omega) (by repeat (first | exact Sub.nil | refine Sub.cons rfl ?_))
 ·simp only [List.drop_succ_cons, List.drop_zero]
  refine tE ?_
  refine At.cond rfl (fun h3 => ?_) (fun h3 => ?_)
  ·try simp only [hasB, isSizeB, sB] at h3
   refine tR (tA rfl rfl (tE (At.retC (At.thenR (At.ret1 (.inl rfl) rfl rfl rfl (fun w hw => ?_))))))
   exact ⟨retB (decide_eq_false (fun h => by unfold TW at h; omega)).symm, hw.mod⟩
  ·try simp only [hasB, isSizeB, sB] at h3
   refine At.skipC (At.thenN (tR (At.weaken [(0, _), (1, _), (2, _), (4, _), (6, _), (7, _), (5, _), (14, _)] (Sub.cons rfl (Sub.cons rfl (Sub.cons rfl (Sub.cons rfl (Sub.cons rfl (Sub.cons rfl (Sub.cons rfl (Sub.cons rfl Sub.nil)))))))) ?_)))
   refine At.boolMeet 10 24 (decide (o / 64 < i ∧ o % 64 < 24)) ?_ ?_
   ·simp only [List.take_succ_cons, List.take_zero]
    refine tM rfl rfl ?_
    first | refine tV (Val.quoI rfl rfl (by omega) (by omega) (by decide)) rfl ?_ | refine tV (Val.quo rfl rfl (by decide)) rfl ?_
    refine tV (Val.field 1 rfl fo_31_1 rfl) rfl (tV (Val.load (i := 0) Tryd.isAgg3 rfl rfl rfl) rfl (tV (Val.bin rfl rfl rfl) rfl (tM rfl rfl ?_)))
    refine At.split (t := 20) rfl (fun h4 => ?_) (fun h4 => ?_)
    ·try simp only [hasB, isSizeB, sB] at h4
     refine At.yes rfl rfl (tM rfl rfl (At.yes rfl rfl ?_))
     first | refine tV (Val.remI rfl rfl (by omega) (by decide)) rfl ?_ | refine tV (Val.rem rfl rfl (by decide)) rfl ?_
     refine At.yes rfl rfl (tV (Val.bin rfl rfl rfl) rfl (tV (Val.pickT rfl rfl) rfl (At.nil ?_)))
     exact At.boolEnd rfl (by apply Bool.eq_iff_iff.2; (simp only [decide_eq_true_eq, Bool.false_eq_true, false_iff, true_iff, iff_true, iff_false, gt_iff_lt, ge_iff_le, beq_iff_eq, bne_iff_ne, ne_eq]) <;> omega) (by repeat (first | exact Sub.nil | refine Sub.cons rfl ?_))
    ·try simp only [hasB, isSizeB, sB] at h4
     refine At.no rfl rfl rfl rfl (At.no rfl rfl rfl rfl (At.no rfl rfl rfl rfl (tV (Val.pickF rfl rfl) rfl (At.nil ?_))))
     exact At.boolEnd rfl (by apply Bool.eq_iff_iff.2; (simp only [decide_eq_true_eq, Bool.false_eq_true, false_iff, true_iff, iff_true, iff_false, gt_iff_lt, ge_iff_le, beq_iff_eq, bne_iff_ne, ne_eq]) <;> omega) (by repeat (first | exact Sub.nil | refine Sub.cons rfl ?_))
   ·simp only [List.drop_succ_cons, List.drop_zero]
    refine tA rfl rfl (tE (At.retC (At.ret1 (.inl rfl) rfl rfl rfl (fun w hw => ?_))))
    exact ⟨retB (by apply Bool.eq_iff_iff.2; simp only [decide_eq_true_eq]; unfold TW; omega), hw.mod⟩
theorem index_p (v : Value) (l : List Int) (x : Int) (w : World) (hv : RdI w v l) (hl : l.length ≤ 17592186044416) :
    Calls Tryd.prog 60 (List.toArray [v, .int .i64 x]) w fun e w' => ∃ r : Int, e = .returned (.int .i64 r) ∧ (0 ≤ r ↔ x ∈ l) ∧ Mod (fun _ => False) w w' := by
 refine enter0 Tryd.func60 rfl Tryd.ntmps60 rfl ?_
 simp only [envOf]
 refine tR (tA rfl rfl (tE (At.seq (tR (tM rfl rfl (tV (Val.lenRd hv Tryd.underlying44 rfl) rfl (tM rfl rfl (tE (At.block ?_)))))))))
 skip
 refine At.loop (σ := Nat) (fun k => k ≤ l.length ∧ x ∉ l.take k) (fun k => [(0, v), (1, .int .i64 x), (7, .int .i64 (l.length : Int)), (8, .int .i64 (k : Int))]) (fun k => []) (fun k => l.length - k) 0 ⟨Nat.zero_le _, by simp⟩ (Sub.cons rfl (Sub.cons rfl (Sub.cons rfl (Sub.cons rfl Sub.nil)))) (List.Perm.refl _) ?_
 intro k hs
 refine tR (tV (Val.bin rfl rfl rfl) rfl (tE (At.seq ?_)))
 refine At.cond rfl (fun h1 => ?_) (fun h1 => ?_)
 ·try simp only [hasB, isSizeB, sB] at h1
  refine At.skipC (At.thenN (At.seq (At.block (tR (tM rfl rfl (tA rfl rfl (tE (tR (tM rfl rfl (tM rfl rfl (tM rfl rfl ?_)))))))))))
  obtain ⟨z, hz⟩ : ∃ z, l[k]? = some z := ⟨_, List.getElem?_eq_getElem (by omega)⟩
  refine At.idxI' hv (fun _ _ _ _ _ _ _ h => h) Tryd.underlying44 Tryd.sizeOf3 rfl rfl (by omega) (by omega) rfl rfl (fun bx ox cx hcx hcc hox => ?_)
  rw [Int.toNat_natCast] at hcx
  obtain rfl : z = cx := Option.some.inj (hz.symm.trans hcx)
  refine tV (Val.loadOld Tryd.isAgg3 rfl hcc hox) rfl (tV (Val.bin rfl rfl rfl) rfl (tE ?_))
  refine At.cond rfl (fun h2 => ?_) (fun h2 => ?_)
  ·try simp only [hasB, isSizeB, sB] at h2
   refine tR (tM rfl rfl (tA rfl rfl (tE (At.retC (At.blkR (At.thenR (At.thenR (At.blkR (At.thenR (At.ret1 (.inl rfl) rfl rfl rfl (fun w hw => ?_)))))))))))
   exact ⟨_, rfl, ⟨fun _ => by have := List.mem_of_getElem? hz; rwa [show x = z by omega], fun _ => by omega⟩, hw.mod⟩
  ·try simp only [hasB, isSizeB, sB] at h2
   refine At.skipC (At.blkN (At.thenN (At.region ?_)))
   first | refine tV (Val.addI rfl rfl (by omega) (by omega)) rfl ?_ | refine tV (Val.bin rfl rfl rfl) rfl ?_
   refine tM rfl rfl (tE ?_)
   exact At.again (k + 1) ⟨by omega, by rw [List.take_succ_of_get hz, List.mem_append, List.mem_singleton]; intro h; exact h.elim hs.2 (by omega)⟩ (by omega) (Sub.cons rfl (Sub.cons rfl (Sub.cons rfl (Sub.cons (congrArg (fun z => some (Value.int IntKind.i64 z)) (by omega)) Sub.nil)))) (List.Perm.refl _)
 ·try simp only [hasB, isSizeB, sB] at h1
  refine At.exitC (At.thenX (At.thenX (At.blkX (At.thenN (tR (tA rfl rfl (tE (At.retC (At.ret1 (.inl rfl) rfl rfl rfl (fun w hw => ?_))))))))))
  exact ⟨_, rfl, ⟨fun h => absurd h (by decide), fun h => by have h2 := hs.2; rw [List.take_of_length_le (by omega)] at h2; exact absurd h h2⟩, hw.mod⟩
theorem contains_p (v : Value) (l : List Int) (x : Int) (w : World) (hv : RdI w v l) (hl : l.length ≤ 17592186044416) :
    PureC Tryd.prog 35 [v, .int .i64 x] (.bool (decide (x ∈ l))) w := by
 refine enter0 Tryd.func35 rfl Tryd.ntmps35 rfl ?_
 simp only [envOf]
 refine tR (tA rfl rfl (tE (tR (tM rfl rfl (tM rfl rfl (At.callX (R := fun u => ∃ r : Int, u = .int .i64 r ∧ (0 ≤ r ↔ x ∈ l)) (fun w hw => (index_p v l x w (hv.mod hw.mod) hl).mono fun e w' ⟨r, he, hr, hm⟩ => ⟨_, ⟨r, rfl, hr⟩, he, hm⟩) Tryd.call60 rfl rfl (fun u hu => ?_)))))))
 obtain ⟨r, rfl, hr⟩ := hu
 refine tV (Val.bin rfl rfl rfl) rfl (tA rfl rfl (tE (At.retC (At.ret1 (.inl rfl) rfl rfl rfl (fun w hw => ?_)))))
 exact ⟨retB (by apply Bool.eq_iff_iff.2; simp only [decide_eq_true_eq, ge_iff_le]; exact hr), hw.mod⟩
end Go.Proofs.YtfchinibjhcejaaDoor
namespace Go.Proofs.YtfchinibjhcejaaDoor
open Go Go.Shelf Go.Sort Go.RowKit Go.Proofs
def comp_ren : Go.Shelf.Ren := ⟨fun | 20 => 72 | n => n, fun | 0 => 0 | 3 => 3 | 4 => 4 | 22 => 44 | n => n, fun n => n⟩
theorem comp_lays : Lays2.n20 Tryd.prog comp_ren := {
  mixed := by kernel_rfl
  f20 := Tryd.func72.trans (congrArg some (by kernel_rfl))
  t0 := Tryd.underlying0
  a0 := Tryd.isAgg0
  z0 := Tryd.sizeOf0
  v0 := Tryd.zeroValue0
  t3 := Tryd.underlying3
  a3 := Tryd.isAgg3
  z3 := Tryd.sizeOf3
  v3 := Tryd.zeroValue3
  t4 := Tryd.underlying4
  a4 := Tryd.isAgg4
  z4 := Tryd.sizeOf4
  v4 := Tryd.zeroValue4
  t22 := Tryd.underlying44
  a22 := Tryd.isAgg44
  z22 := Tryd.sizeOf44
  v22 := Tryd.zeroValue44
  i3 := by kernel_rfl }
end Go.Proofs.YtfchinibjhcejaaDoor
namespace Go.Proofs.YtfchinibjhcejaaDoor
open Go Go.Wk
noncomputable instance (i : Int) (cs : List (Int × BitVec 64)) (k : Nat) : Decidable (PlK i cs k) := Classical.propDecidable _
noncomputable def plE (i : Int) (cs : List (Int × BitVec 64)) : Int := if PlK i cs cs.length then 0 else 40
noncomputable def plL (i : Int) (cs : List (Int × BitVec 64)) : List Int := if PlK i cs cs.length then cs.map Prod.fst else []
theorem pl_yes {i : Int} {cs : List (Int × BitVec 64)} (h : PlK i cs cs.length) : plE i cs = 0 ∧ plL i cs = cs.map Prod.fst := ⟨if_pos h, if_pos h⟩
theorem pl_no {i : Int} {cs : List (Int × BitVec 64)} (h : ¬ PlK i cs cs.length) : plE i cs = 40 ∧ plL i cs = [] := ⟨if_neg h, if_neg h⟩
theorem map_take_snoc {cs : List (Int × BitVec 64)} {k : Nat} {q : Int × BitVec 64} (h : cs[k]? = some q) : (cs.take (k + 1)).map Prod.fst = (cs.take k).map Prod.fst ++ [q.1] := by rw [List.take_succ_of_get h, List.map_append]; rfl
theorem compact_ok {l : List Int} (hs : l.Pairwise (· ≤ ·)) : (Lib.compact l).Pairwise (· < ·) ∧ ∀ x, x ∈ Lib.compact l ↔ x ∈ l := by
  have key : ∀ m, m ≤ l.length → (Lib.compactUpTo l.toArray m).Pairwise (· < ·) ∧ (∀ x, x ∈ Lib.compactUpTo l.toArray m ↔ x ∈ l.take m) := by
    intro m
    induction m with
    | zero => intro _; exact ⟨by simp [Lib.compactUpTo], by simp [Lib.compactUpTo]⟩
    | succ m ih =>
      intro hm
      obtain ⟨h1, h2⟩ := ih (by omega)
      obtain ⟨q, hq⟩ : ∃ q, l[m]? = some q := ⟨_, List.getElem?_eq_getElem (by omega)⟩
      have hqd : l.toArray[m]! = q := by simp [hq]
      have hle : ∀ x, x ∈ l.take m → x ≤ q := fun x hx => by
        obtain ⟨j, hj⟩ := List.getElem?_of_mem hx
        have hjm : j < m := by have := (List.getElem?_eq_some_iff.1 hj).1; rw [List.length_take] at this; omega
        rw [List.getElem?_take, if_pos hjm] at hj
        have g1 := List.getElem?_eq_some_iff.1 hj
        have g2 := List.getElem?_eq_some_iff.1 hq
        have := List.pairwise_iff_getElem.1 hs j m g1.1 g2.1 hjm
        rw [g1.2, g2.2] at this
        exact this
      rw [Lib.compactUpTo_succ, List.take_succ_of_get hq, hqd]
      by_cases hk : Lib.keeps l.toArray m = true
      · rw [if_pos hk]
        refine ⟨List.pairwise_append.2 ⟨h1, List.pairwise_singleton _ _, fun x hx y hy => ?_⟩, fun x => ?_⟩
        · rw [List.mem_singleton] at hy
          subst hy
          have hx' := (h2 x).1 hx
          have hxle := hle x hx'
          rcases Nat.eq_zero_or_pos m with h0 | h0
          · subst h0; simp at hx'
          · obtain ⟨r, hr⟩ : ∃ r, l[m - 1]? = some r := ⟨_, List.getElem?_eq_getElem (by omega)⟩
            have hrd : l.toArray[m - 1]! = r := by simp [hr]
            have hne : y ≠ r := by
              have : decide (m = 0 ∨ l.toArray[m]! ≠ l.toArray[m - 1]!) = true := hk
              rw [decide_eq_true_eq, hqd, hrd] at this
              rcases this with h | h
              · omega
              · exact h
            have g1 := List.getElem?_eq_some_iff.1 hr
            have g2 := List.getElem?_eq_some_iff.1 hq
            have hry : r ≤ y := by
              have := List.pairwise_iff_getElem.1 hs (m - 1) m g1.1 g2.1 (by omega)
              rw [g1.2, g2.2] at this; exact this
            have hxr : x ≤ r := by
              obtain ⟨j, hj⟩ := List.getElem?_of_mem hx'
              have hjm : j < m := by have := (List.getElem?_eq_some_iff.1 hj).1; rw [List.length_take] at this; omega
              rw [List.getElem?_take, if_pos hjm] at hj
              have g3 := List.getElem?_eq_some_iff.1 hj
              rcases Nat.lt_or_ge j (m - 1) with hlt | hge
              · have := List.pairwise_iff_getElem.1 hs j (m - 1) g3.1 g1.1 hlt
                rw [g3.2, g1.2] at this; exact this
              · have hje : j = m - 1 := by omega
                subst hje
                rw [hr] at hj
                rw [Option.some.inj hj]; exact Int.le_refl _
            omega
        · rw [List.mem_append, List.mem_append, h2 x]
      · rw [if_neg hk, List.append_nil]
        refine ⟨h1, fun x => ?_⟩
        rw [h2 x, List.mem_append, List.mem_singleton]
        refine ⟨Or.inl, fun h => h.elim id fun e => ?_⟩
        have hm0 : 0 < m := by
          rcases Nat.eq_zero_or_pos m with h0 | h0
          · subst h0; exact absurd (Lib.keeps_lt_one l.toArray 0 (by omega)) hk
          · exact h0
        obtain ⟨r, hr⟩ : ∃ r, l[m - 1]? = some r := ⟨_, List.getElem?_eq_getElem (by omega)⟩
        have hrd : l.toArray[m - 1]! = r := by simp [hr]
        have hqr : q = r := Classical.byContradiction fun hne => hk (Lib.keeps_pos (by rw [hqd, hrd]; exact hne))
        rw [e, hqr]
        exact List.mem_of_getElem? (i := m - 1) (by rw [List.getElem?_take, if_pos (by omega)]; exact hr)
  obtain ⟨h1, h2⟩ := key l.length (Nat.le_refl _)
  exact ⟨h1, fun x => by rw [show Lib.compact l = Lib.compactUpTo l.toArray l.length from rfl, h2 x, List.take_length]⟩
theorem comp_len (l : List Int) : (Lib.compact l).length ≤ l.length := by
  show ((List.range l.length).filter _ |>.map _).length ≤ _
  rw [List.length_map]
  exact Nat.le_trans (List.length_filter_le _ _) (by rw [List.length_range]; exact Nat.le_refl _)
theorem comp_u (v : Value) (l : List Int) (w : World) (h : (irow 3 v l).holds w) : RowUpd Tryd.prog 72 [v] v 3 1 l.length (l.map (Value.int .i64)) (Lib.compact l).length ((Lib.compact l).map (Value.int .i64)) w := by
  have h0 : w.ownsRow 0 3 1 v l.length (l.map (Value.int .i64)) := h
  have hcl := comp_len l
  rcases h0.2 with ⟨rfl, hn⟩ | ⟨g, cap, cur, rfl, hbase, hb, h1, h2, h3, h4⟩
  · have hl : l = [] := List.eq_nil_of_length_eq_zero hn
    subst hl
    exact (Any.slices_Compact_int_empty comp_lays none 0 w).mono fun e w' ⟨he, hw'⟩ => ⟨_, he, by subst hw'; exact Rep.one h⟩
  · refine (Any.slices_Compact_int comp_lays g 0 cap l w (holds_of_blockI hb (by simpa using h4)) (by simp only [maxLen] at h2; omega) h1).mono ?_
    rintro e w' ⟨rfl, n, rfl⟩
    refine ⟨_, rfl, ?_⟩
    obtain ⟨ts, hts⟩ : ∃ ts, ts = Lib.compact l ++ List.replicate (l.length - (Lib.compact l).length) 0 := ⟨_, rfl⟩
    rw [← hts]
    have htl : ts.length = l.length := by rw [hts, List.length_append, List.length_replicate]; omega
    have hg := grownBy_sortedI (w := w) (g := g) (n := n) (os := #[]) ts.toArray
    have hh := heap_sortedI (n := n) (os := #[]) ts.toArray hb
    rw [Go.Sort.grow_empty] at hg hh
    refine Rep.change (i := 0) (r := irow 3 (.slice (some ⟨g, 0, none⟩) l.length cap) l) (r' := rowR (.slice (some ⟨g, 0, none⟩) (Lib.compact l).length cap) 3 1 (Lib.compact l).length ((Lib.compact l).map (Value.int .i64))) rfl (Rep.one h) (grown_mod hg) ?_ (fun b hb => .inl hb)
    refine ⟨by simp, .inr ⟨g, cap, _, rfl, hbase, hh, by omega, h2, by simp [Go.Sort.putCells, h3], ?_⟩⟩
    have h5 := take_putCellsI cur ts (by rw [htl]; omega)
    have h6 := congrArg (List.take (Lib.compact l).length) h5
    rw [List.take_take, Nat.min_eq_left (by omega), ← List.map_take, hts, List.take_left, ← hts] at h6
    rw [Nat.mul_one]
    exact h6
theorem fits_k (p : Nat) (γ : Gh) (σ : Ds) (sp si sc sd : Int) (w : World) (hd : (Dev p γ σ).holds w) :
    Upd Tryd.prog 15 [.pointer (some ⟨p, 0, none⟩), .agg #[.int .i64 sp, .int .i64 si, .int .i64 sc, .int .i64 sd]] (Dev p γ σ) (.bool (decide (GoodSup sp si sc ∧ sd = 4 + si / 8 ∧ 8 * (σ.ws.length : Int) = 512 * sp))) (Dev p γ σ) w := by
 refine enterVc hd Tryd.func15 rfl Tryd.ntmps15 rfl ?_
 have hgd := Dev.good hd
 have hln := hgd.len
 simp only [envOf]
 refine tR (At.box rfl rfl rfl (fun b1 => (tA rfl rfl (tE (tR (tV (Val.field 0 rfl fo_31_0 rfl) rfl (tV (Val.load (i := 0) Tryd.isAgg3 rfl rfl rfl) rfl (tV (Val.field 1 rfl fo_31_1 rfl) rfl (tV (Val.load (i := 0) Tryd.isAgg3 rfl rfl rfl) rfl (tV (Val.field 2 rfl fo_31_2 rfl) rfl (tV (Val.load (i := 0) Tryd.isAgg3 rfl rfl rfl) rfl ?_)))))))))))
 refine tV (Val.build (fun a ha => by simp only [List.map_toArray, List.map_cons, List.map_nil, ha.eval (x := (.tmp 9)) rfl, ha.eval (x := (.tmp 11)) rfl, ha.eval (x := (.tmp 13)) rfl] <;> rfl) (bld_23_0_1_2 _ _ _ )) rfl (At.callP (fun w hw => fit_p _ _ _ w) Tryd.call32 rfl rfl ?_)
 by_cases hg : GoodSup sp si sc
 ·rw [fit_yes hg]
  have hg2 := hg
  unfold GoodSup at hg2
  refine tM rfl rfl (tV (Val.extract rfl rfl) rfl (tV (Val.extract rfl rfl) rfl (At.alloc Tryd.zeroValue31 rfl rfl (fun b2 => (At.storeAll (i := 0) Tryd.sizeOf31 rfl rfl rfl (by simp [Value.oneCell']) rfl rfl ?_)))))
  simp only [sc0, scS]
  refine tA rfl rfl (tE (At.seq ?_))
  apply At.any (t := 16)
  · rfl
  refine KAt.pin (fun w hw => hw) (KAt.take 0 (Val.move rfl) rfl rfl rfl rfl (fun w hw => hw) (by decide +kernel) (KAt.take 1 (Val.bin rfl rfl rfl) rfl rfl rfl rfl (fun w hw => hw) (by decide +kernel) (KAt.take 2 (Val.move rfl) rfl rfl rfl rfl (fun w hw => hw) (by decide +kernel) (KAt.takeY 3 (Val.loadAll (i := 0) Tryd.isAgg31 Tryd.sizeOf31 rfl rfl rfl) rfl rfl rfl rfl (fun w hw => hw) (by decide +kernel) (KAt.takeY 4 (Val.loadAll (i := 1) Tryd.isAgg31 Tryd.sizeOf31 rfl rfl rfl) rfl rfl rfl rfl (fun w hw => hw) (by decide +kernel) (KAt.takeY 5 (Val.eqAgg Tryd.eqGuardType31 (fun w => eq_31 _ _ _ _ _ _ _ _ w) rfl rfl) rfl rfl rfl rfl (fun w hw => hw) (by decide +kernel) ?_))))))
  rw [eq_shape]
  refine KAt.take 6 (Val.pickT rfl rfl) rfl rfl rfl rfl (fun w hw => hw) (by decide +kernel) (KAt.take 7 (Val.move rfl) rfl rfl rfl rfl (fun w hw => hw) (by decide +kernel) ?_)
  refine KAt.split (s := 25) rfl (fun h3 => ?_) (fun h3 => ?_)
  ·try simp only [hasB, isSizeB, sB] at h3
   refine KAt.takeY 8 (Val.move rfl) rfl rfl rfl rfl (fun w hw => hw) (by decide +kernel) (KAt.takeY 10 (Val.field 0 rfl fo_31_0 rfl) rfl rfl rfl rfl (fun w hw => hw) (by decide +kernel) (KAt.takeY 11 (Val.load (i := 1) Tryd.isAgg3 rfl rfl rfl) rfl rfl rfl rfl (fun w hw => hw) (by decide +kernel) ?_))
   first | refine KAt.takeY 12 (Val.mulI rfl rfl (by omega) (by omega)) rfl rfl rfl rfl (fun w hw => hw) (by decide +kernel) ?_ | refine KAt.takeY 12 (Val.bin rfl rfl rfl) rfl rfl rfl rfl (fun w hw => hw) (by decide +kernel) ?_
   refine KAt.only 9 rfl (by decide +kernel) (At.yes rfl rfl (At.callK 2 rfl (fun w hw hr => size_k _ _ _ w hr) Tryd.call33 rfl rfl (At.nil (KAt.go (fun w hw => hw) (KAt.takeY 13 (Val.bin rfl rfl rfl) rfl rfl rfl rfl (fun w hw => hw) (by decide +kernel) (KAt.take 14 (Val.pickT rfl rfl) rfl rfl rfl rfl (fun w hw => hw) (by decide +kernel) (KAt.take 15 (Val.assign rfl) rfl rfl rfl rfl (fun w hw => hw) (by decide +kernel) (KAt.done (by decide +kernel) (At.thenN (At.retC (At.ret1 (.inl rfl) rfl rfl rfl (fun w hw => ?_))))))))))))
   exact ⟨retB (by apply Bool.eq_iff_iff.2; (simp only [decide_eq_true_eq, Bool.false_eq_true, false_iff, true_iff, beq_iff_eq]) <;> first | omega | (constructor <;> intro h9 <;> first | exact ⟨hg, by omega, by omega⟩ | (have := h9.2; omega) | omega) | (intro h9; first | exact absurd h9.1 hg | omega)), hw.drop (List.singleton_sublist.2 (List.mem_of_getElem? (i := 2) rfl))⟩
  ·try simp only [hasB, isSizeB, sB] at h3
   refine KAt.takeN 8 rfl rfl rfl rfl rfl (fun w hw => hw) (by decide +kernel) (KAt.takeN 10 rfl rfl rfl rfl rfl (fun w hw => hw) (by decide +kernel) (KAt.takeN 11 rfl rfl rfl rfl rfl (fun w hw => hw) (by decide +kernel) (KAt.takeN 12 rfl rfl rfl rfl rfl (fun w hw => hw) (by decide +kernel) (KAt.takeN 9 rfl rfl rfl rfl rfl (fun w hw => hw) (by decide +kernel) (KAt.takeN 13 rfl rfl rfl rfl rfl (fun w hw => hw) (by decide +kernel) (KAt.take 14 (Val.pickF rfl rfl) rfl rfl rfl rfl (fun w hw => hw) (by decide +kernel) (KAt.take 15 (Val.assign rfl) rfl rfl rfl rfl (fun w hw => hw) (by decide +kernel) (KAt.done (by decide +kernel) (At.thenN (At.retC (At.ret1 (.inl rfl) rfl rfl rfl (fun w hw => ?_))))))))))))
   exact ⟨retB (by apply Bool.eq_iff_iff.2; (simp only [decide_eq_true_eq, Bool.false_eq_true, false_iff, true_iff, beq_iff_eq]) <;> first | omega | (constructor <;> intro h9 <;> first | exact ⟨hg, by omega, by omega⟩ | (have := h9.2; omega) | omega) | (intro h9; first | exact absurd h9.1 hg | omega)), hw.drop (List.singleton_sublist.2 (List.mem_of_getElem? (i := 2) rfl))⟩
 ·rw [fit_no hg]
  refine tM rfl rfl (tV (Val.extract rfl rfl) rfl (tV (Val.extract rfl rfl) rfl (At.alloc Tryd.zeroValue31 rfl rfl (fun b4 => (At.storeAll (i := 0) Tryd.sizeOf31 rfl rfl rfl (by simp [Value.oneCell']) rfl rfl ?_)))))
  simp only [sc0, scS]
  refine tA rfl rfl (tE (At.seq ?_))
  apply At.any (t := 16)
  · rfl
  refine KAt.pin (fun w hw => hw) (KAt.take 0 (Val.move rfl) rfl rfl rfl rfl (fun w hw => hw) (by decide +kernel) (KAt.take 1 (Val.bin rfl rfl rfl) rfl rfl rfl rfl (fun w hw => hw) (by decide +kernel) (KAt.take 2 (Val.move rfl) rfl rfl rfl rfl (fun w hw => hw) (by decide +kernel) (KAt.takeN 3 rfl rfl rfl rfl rfl (fun w hw => hw) (by decide +kernel) (KAt.takeN 4 rfl rfl rfl rfl rfl (fun w hw => hw) (by decide +kernel) (KAt.takeN 5 rfl rfl rfl rfl rfl (fun w hw => hw) (by decide +kernel) (KAt.take 6 (Val.pickF rfl rfl) rfl rfl rfl rfl (fun w hw => hw) (by decide +kernel) (KAt.take 7 (Val.move rfl) rfl rfl rfl rfl (fun w hw => hw) (by decide +kernel) (KAt.takeN 8 rfl rfl rfl rfl rfl (fun w hw => hw) (by decide +kernel) (KAt.takeN 10 rfl rfl rfl rfl rfl (fun w hw => hw) (by decide +kernel) (KAt.takeN 11 rfl rfl rfl rfl rfl (fun w hw => hw) (by decide +kernel) (KAt.takeN 12 rfl rfl rfl rfl rfl (fun w hw => hw) (by decide +kernel) (KAt.takeN 9 rfl rfl rfl rfl rfl (fun w hw => hw) (by decide +kernel) (KAt.takeN 13 rfl rfl rfl rfl rfl (fun w hw => hw) (by decide +kernel) (KAt.take 14 (Val.pickF rfl rfl) rfl rfl rfl rfl (fun w hw => hw) (by decide +kernel) (KAt.take 15 (Val.assign rfl) rfl rfl rfl rfl (fun w hw => hw) (by decide +kernel) (KAt.done (by decide +kernel) (At.thenN (At.retC (At.ret1 (.inl rfl) rfl rfl rfl (fun w hw => ?_)))))))))))))))))))))
  exact ⟨retB (by apply Bool.eq_iff_iff.2; (simp only [decide_eq_true_eq, Bool.false_eq_true, false_iff, true_iff, beq_iff_eq]) <;> first | omega | (constructor <;> intro h9 <;> first | exact ⟨hg, by omega, by omega⟩ | (have := h9.2; omega) | omega) | (intro h9; first | exact absurd h9.1 hg | omega)), hw.drop (List.singleton_sublist.2 (List.mem_of_getElem? (i := 2) rfl))⟩
theorem places_n (p i c dt : Int) (v : Value) (cs : List (Int × BitVec 64)) (w : World) (hv : RdP w v cs) (hcl : cs.length ≤ 1000) (hb : ∀ q ∈ cs, -9223372036854775808 ≤ q.1 ∧ q.1 ≤ 9223372036854775807) (hi : 0 ≤ i ∧ i ≤ 1000000) :
    NewRowT Tryd.prog 16 [.agg #[.int .i64 p, .int .i64 i, .int .i64 c, .int .i64 dt], v] (fun v => .tuple #[v, .int .i64 (plE i cs)]) 3 1 (plL i cs).length ((plL i cs).map (Value.int .i64)) w := by
 refine enter0 Tryd.func16 rfl Tryd.ntmps16 rfl ?_
 simp only [envOf]
 refine tR (At.box rfl rfl rfl (fun b1 => (tA rfl rfl (tA rfl rfl (tE (tR (tA rfl rfl (At.nil (At.rowNilI 3 (At.thenN (At.seq (tR (tM rfl rfl (tV (Val.lenRd hv Tryd.underlying24 rfl) rfl (tM rfl rfl (tE (At.block ?_)))))))))))))))))
 skip
 refine At.loop (σ := Nat × Value) (fun s => s.1 ≤ cs.length ∧ PlK i cs s.1) (fun s => [(2, .pointer (some ⟨b1, 0, none⟩)), (4, .slice none 0 0), (5, .int .i64 0), (6, s.2), (9, v), (10, .int .i64 (cs.length : Int)), (11, .int .i64 (s.1 : Int))]) (fun s => [irow 3 s.2 ((cs.take s.1).map Prod.fst), blk b1 31 [.int .i64 p, .int .i64 i, .int .i64 c, .int .i64 dt]]) (fun s => cs.length - s.1) (0, .slice none 0 0) ⟨Nat.zero_le _, PlK_0 i cs⟩ (Sub.cons rfl (Sub.cons rfl (Sub.cons rfl (Sub.cons rfl (Sub.cons rfl (Sub.cons rfl (Sub.cons rfl Sub.nil))))))) (List.Perm.refl _) ?_
 intro s hs
 obtain ⟨k, vk⟩ := s
 dsimp only at hs ⊢
 obtain ⟨hk, hpl⟩ := hs
 have hml : ((cs.take k).map Prod.fst).length = k := by rw [List.length_map, List.length_take]; omega
 refine tR (tV (Val.bin rfl rfl rfl) rfl (tE (At.seq ?_)))
 refine At.cond rfl (fun h2 => ?_) (fun h2 => ?_)
 ·try simp only [hasB, isSizeB, sB] at h2
  refine At.skipC (At.thenN (At.seq (At.block (tR (At.idxP hv Tryd.underlying24 Tryd.sizeOf46 rfl rfl (by omega) (by omega) rfl rfl (fun b3 o4 q5 hq6 hc7 hd8 => (tV (Val.loadPair Tryd.isAgg46 Tryd.sizeOf46 rfl hc7 hd8 (fun h => h)) rfl (At.alloc Tryd.zeroValue46 rfl rfl (fun b9 => (At.storeAll (i := 0) Tryd.sizeOf46 rfl rfl rfl (by simp [Value.oneCell']) rfl rfl ?_))))))))))
  simp only [sc0, scS]
  refine tE (At.seq (tR (tV (Val.loadAll (i := 2) Tryd.isAgg31 Tryd.sizeOf31 rfl rfl rfl) rfl (tV (Val.field 0 rfl fo_46_0 rfl) rfl (tV (Val.load (i := 0) Tryd.isAgg3 rfl rfl rfl) rfl ?_)))))
  have hqk : cs[k]? = some q5 := by have h8 := hq6; rwa [Int.toNat_natCast] at h8
  refine At.callP (fun w hw => isTable_p p i c dt q5.1 w (hb q5 (List.mem_of_getElem? hqk)) hi) Tryd.call34 rfl rfl (tV (Val.not rfl) rfl (tM rfl rfl ?_))
  refine At.split (t := 20) rfl (fun h10 => ?_) (fun h10 => ?_)
  ·try simp only [hasB, isSizeB, sB] at h10
   refine At.no rfl rfl rfl rfl (At.no rfl rfl rfl rfl (At.no rfl rfl rfl rfl (At.no rfl rfl rfl rfl (tV (Val.pickT rfl rfl) rfl (tE (At.condT rfl (At.seq (At.rowNilI 3 (At.region (tA rfl rfl (tA rfl rfl (tE (At.retC (At.thenR (At.blkR (At.thenR (At.thenR (At.blkR (At.thenR (At.ret2 (.inl rfl) rfl rfl rfl rfl (fun w hw => ?_)))))))))))))))))))))
   obtain ⟨e1, e2⟩ := pl_no (PlK_not hqk (by first | exact fun g => absurd g.1 ‹_› | exact fun g => absurd ‹_› g.2))
   rw [e1, e2]
   exact ⟨_, rfl, (hw.drop (List.singleton_sublist.2 (List.mem_of_getElem? (i := 0) rfl))).f0⟩
  ·try simp only [hasB, isSizeB, sB] at h10
   refine At.yes rfl rfl (tM rfl rfl (At.yes rfl rfl (tV (Val.field 0 rfl fo_46_0 rfl) rfl (At.yes rfl rfl (tV (Val.load (i := 0) Tryd.isAgg3 rfl rfl rfl) rfl (At.yes rfl rfl (At.callP (fun w hw => contains_p _ _ q5.1 w (row_rd (hw.row (i := 1) rfl) (by decide)) (by omega)) Tryd.call35 rfl rfl (tV (Val.pickF rfl rfl) rfl (tE ?_)))))))))
   refine At.cond rfl (fun h11 => ?_) (fun h11 => ?_)
   ·try simp only [hasB, isSizeB, sB] at h11
    refine At.seq (At.rowNilI 3 (At.region (tA rfl rfl (tA rfl rfl (tE (At.retC (At.thenR (At.blkR (At.thenR (At.thenR (At.blkR (At.thenR (At.ret2 (.inl rfl) rfl rfl rfl rfl (fun w hw => ?_))))))))))))))
    obtain ⟨e1, e2⟩ := pl_no (PlK_not hqk (by first | exact fun g => absurd g.1 ‹_› | exact fun g => absurd ‹_› g.2))
    rw [e1, e2]
    exact ⟨_, rfl, (hw.drop (List.singleton_sublist.2 (List.mem_of_getElem? (i := 0) rfl))).f0⟩
   ·try simp only [hasB, isSizeB, sB] at h11
    refine At.skipC (At.thenN (At.region (tM rfl rfl (tV (Val.field 0 rfl fo_46_0 rfl) rfl (tV (Val.load (i := 0) Tryd.isAgg3 rfl rfl rfl) rfl (At.buildSl (fun a ha => by simp only [List.map_toArray, List.map_cons, List.map_nil, ha.eval (x := (.tmp 28)) rfl]; try rfl) (bs_44_1 _ ) rfl (fun b12 => (At.appendI1 (i := 2) (j := 0) (by_ := 8) Tryd.underlying44 info_3 rfl rfl rfl rfl rfl rfl rfl rfl (by omega) (by omega) rfl (fun v13 => ?_)))))))))
    simp only [sc0, scS]
    refine At.drop 0 ?_
    simp only [ec0, ecS]
    refine tA rfl rfl (At.nil (At.blkN (At.thenN (At.region ?_))))
    first | refine tV (Val.addI rfl rfl (by omega) (by omega)) rfl ?_ | refine tV (Val.bin rfl rfl rfl) rfl ?_
    refine tM rfl rfl (tE (At.drop 0 ?_))
    simp only [ec0, ecS]
    exact At.again (k + 1, v13) ⟨(show k + 1 ≤ _ by omega), PlK_succ hpl hqk (by assumption) (by assumption)⟩ (by dsimp only; omega) (Sub.cons rfl (Sub.cons rfl (Sub.cons rfl (Sub.cons rfl (Sub.cons rfl (Sub.cons rfl (Sub.cons (congrArg (fun z => some (Value.int IntKind.i64 z)) (by dsimp only; omega)) Sub.nil))))))) (by dsimp only; rw [map_take_snoc hqk])
 ·try simp only [hasB, isSizeB, sB] at h2
  refine At.exitC (At.thenX (At.thenX (At.blkX (At.thenN (tR (tM rfl rfl (tA rfl rfl (tA rfl rfl (tE (At.retC (At.ret2 (.inl rfl) rfl rfl rfl rfl (fun w hw => ?_))))))))))))
  obtain rfl : k = cs.length := by omega
  obtain ⟨e1, e2⟩ := pl_yes hpl
  rw [e1, e2, ← List.take_length (l := cs)]
  exact ⟨_, rfl, (hw.drop (List.singleton_sublist.2 (List.mem_of_getElem? (i := 0) rfl))).f0⟩
end Go.Proofs.YtfchinibjhcejaaDoor
namespace Go.Proofs.YtfchinibjhcejaaDoor
open Go Go.Wk
def lnF (k : Nat) : Int := 64 * ((k / 8 : Nat) : Int)
def adF (k : Nat) : Int := 8 * (k : Int)
def lnL (ks : List Nat) : List Int := Lib.compact ((ks.map lnF).mergeSort fun x y => decide (x ≤ y))
def lnK (ks : List Nat) : List Nat := (lnL ks).map fun x => (x / 64).toNat
def stlA (ks : List Nat) : List Ac := (lnK ks).map Ac.fl ++ [.fe]
theorem lnL_ok (ks : List Nat) : (lnL ks).Pairwise (· < ·) ∧ ∀ x, x ∈ lnL ks ↔ ∃ k, k ∈ ks ∧ lnF k = x := by
  have h1 := List.pairwise_mergeSort (le := fun (x y : Int) => decide (x ≤ y)) (fun a b c h1 h2 => by simp at *; omega) (fun a b => by simp; omega) (ks.map lnF)
  obtain ⟨h2, h3⟩ := compact_ok (h1.imp fun h => by simpa using h)
  refine ⟨h2, fun x => ?_⟩
  show x ∈ Lib.compact _ ↔ _
  rw [h3 x, (List.mergeSort_perm (ks.map lnF) _).mem_iff, List.mem_map]
theorem lnL_len (ks : List Nat) : (lnL ks).length ≤ ks.length := by
  have := comp_len ((ks.map lnF).mergeSort fun x y => decide (x ≤ y))
  rw [List.length_mergeSort, List.length_map] at this
  exact this
theorem lnK_at {ks : List Nat} {j : Nat} {x : Int} (h : (lnL ks)[j]? = some x) : ∃ k K, k ∈ ks ∧ K = k / 8 ∧ x = 64 * (K : Int) ∧ (lnK ks)[j]? = some K := by
  obtain ⟨k, hk, he⟩ := (lnL_ok ks).2 x |>.1 (List.mem_of_getElem? h)
  refine ⟨k, k / 8, hk, rfl, he.symm, ?_⟩
  unfold lnK
  rw [List.getElem?_map, h, ← he]
  show some ((64 * ((k / 8 : Nat) : Int) / 64).toNat) = _
  congr 1
  omega
theorem lnK_len (ks : List Nat) : (lnK ks).length = (lnL ks).length := List.length_map ..
theorem stlA_len (ks : List Nat) : (stlA ks).length = (lnL ks).length + 1 := by unfold stlA; rw [List.length_append, List.length_map, lnK_len]; rfl
theorem stlA_at {ks : List Nat} {j K : Nat} (h : (lnK ks)[j]? = some K) : (stlA ks)[j]? = some (.fl K) := by
  have hj : j < ((lnK ks).map Ac.fl).length := by rw [List.length_map]; exact (List.getElem?_eq_some_iff.1 h).1
  unfold stlA
  rw [List.getElem?_append_left hj, List.getElem?_map, h]; rfl
theorem stlA_end (ks : List Nat) : (stlA ks).drop (lnL ks).length = [.fe] := by
  unfold stlA
  rw [List.drop_append_of_le_length (by rw [List.length_map, lnK_len]; exact Nat.le_refl _), List.drop_of_length_le (by rw [List.length_map, lnK_len]; exact Nat.le_refl _)]; rfl
theorem drop_consB {L : List Ac} {k : Nat} {a : Ac} (h : L[k]? = some a) : L.drop k = a :: L.drop (k + 1) := by
  have hk := List.getElem?_eq_some_iff.1 h
  rw [List.drop_eq_getElem_cons hk.1, hk.2]
theorem stlA_ok {ks : List Nat} {n : Nat} (h : ∀ k ∈ ks, k < n) : ∀ a ∈ stlA ks, AcOk n a := by
  intro a ha
  unfold stlA at ha
  rcases List.mem_append.1 ha with ha | ha
  · obtain ⟨K, hK, rfl⟩ := List.mem_map.1 ha
    obtain ⟨j, hj⟩ := List.getElem?_of_mem hK
    have hjl : j < (lnL ks).length := by rw [← lnK_len]; exact (List.getElem?_eq_some_iff.1 hj).1
    obtain ⟨k, K', hk, hK', _, h2⟩ := lnK_at (List.getElem?_eq_getElem hjl)
    rw [hj] at h2
    obtain rfl := Option.some.inj h2
    have := h k hk
    show 8 * K < n
    omega
  · rw [List.mem_singleton.1 ha]; trivial
theorem settle_d (p : Nat) (γ : Gh) (σ : Ds) (v : Value) (ks : List Nat) (w : World) (hv : RdI w v (ks.map adF)) (ho : Off v ((ks.map adF).map (Value.int .i64)) (feet [Dev p γ σ])) (hk : ∀ k ∈ ks, k < σ.ws.length) (hn : ks.length ≤ 1000) (hst : σ.steps + ks.length + 1 ≤ 1099511627776) (hd : (Dev p γ σ).holds w) :
    DevU Tryd.prog 46 [.pointer (some ⟨p, 0, none⟩), v] p γ σ (.int .i64 (actsE σ (stlA ks)).1) (actsE σ (stlA ks)).2 w := by
 refine enterVc hd Tryd.func46 rfl Tryd.ntmps46 rfl ?_
 have hgd := Dev.good hd
 have hln := hgd.len
 have hwl : (ks.map adF).length = ks.length := List.length_map ..
 simp only [envOf]
 refine tR (tA rfl rfl (tE (tR (tA rfl rfl (At.nil (At.rowNilI 3 (At.thenN (At.seq (tR (tM rfl rfl (tV (Val.lenRd hv Tryd.underlying44 rfl) rfl (tM rfl rfl (At.nil ?_)))))))))))))
 rw [hwl]
 refine At.thenN (At.block ?_)
 skip
 refine At.loop (σ := Nat × Value) (fun s => s.1 ≤ ks.length) (fun s => [(0, .pointer (some ⟨p, 0, none⟩)), (5, s.2), (11, v), (12, .int .i64 (ks.length : Int)), (13, .int .i64 (s.1 : Int))]) (fun s => [irow 3 s.2 ((ks.take s.1).map lnF), Dev p γ (σ)]) (fun s => ks.length - s.1) (0, .slice none 0 0) (Nat.zero_le _) (Sub.cons rfl (Sub.cons rfl (Sub.cons rfl (Sub.cons rfl (Sub.cons rfl Sub.nil))))) (List.Perm.refl _) ?_
 intro s hs
 obtain ⟨k, vk⟩ := s
 dsimp only at hs ⊢
 have hml : ((ks.take k).map lnF).length = k := by rw [List.length_map, List.length_take]; omega
 refine tR (tV (Val.bin rfl rfl rfl) rfl (tE (At.seq ?_)))
 refine At.cond rfl (fun h1 => ?_) (fun h1 => ?_)
 ·try simp only [hasB, isSizeB, sB] at h1
  refine At.skipC (At.thenN (At.seq (At.block (tR ?_))))
  obtain ⟨q, hq⟩ : ∃ q, ks[k]? = some q := ⟨_, List.getElem?_eq_getElem (by omega)⟩
  refine At.idxI' hv ho Tryd.underlying44 Tryd.sizeOf3 rfl rfl (by omega) (by rw [List.length_map]; omega) rfl rfl (fun bx ox cx hcx hcc hox => ?_)
  rw [Int.toNat_natCast] at hcx
  obtain rfl : 8 * (q : Int) = cx := by rw [List.getElem?_map, hq] at hcx; exact Option.some.inj hcx
  have hqm := hk q (List.mem_of_getElem? hq)
  refine tV (Val.loadOld Tryd.isAgg3 rfl hcc hox) rfl (tA rfl rfl (tE (At.region (tM rfl rfl (tM rfl rfl ?_)))))
  first | refine tV (Val.quoI rfl rfl (by omega) (by omega) (by decide)) rfl ?_ | refine tV (Val.quo rfl rfl (by decide)) rfl ?_
  first | refine tV (Val.mulI rfl rfl (by omega) (by omega)) rfl ?_ | refine tV (Val.bin rfl rfl rfl) rfl ?_
  rw [show 8 * (q : Int) / 64 * 64 = lnF q from by unfold lnF; omega]
  refine At.buildSl (fun a ha => by simp only [List.map_toArray, List.map_cons, List.map_nil, ha.eval (x := (.tmp 20)) rfl]; try rfl) (bs_44_1 _ ) rfl (fun b2 => (At.appendI1 (i := 1) (j := 0) (by_ := 8) Tryd.underlying44 info_3 rfl rfl rfl rfl rfl rfl rfl rfl (by omega) (by omega) rfl (fun v3 => ?_)))
  simp only [sc0, scS]
  refine At.drop 0 ?_
  simp only [ec0, ecS]
  refine tA rfl rfl (At.nil (At.blkN (At.thenN (At.region ?_))))
  first | refine tV (Val.addI rfl rfl (by omega) (by omega)) rfl ?_ | refine tV (Val.bin rfl rfl rfl) rfl ?_
  refine tM rfl rfl (tE ?_)
  exact At.again (k + 1, v3) (show k + 1 ≤ _ by omega) (by dsimp only; omega) (Sub.cons rfl (Sub.cons rfl (Sub.cons rfl (Sub.cons rfl (Sub.cons (congrArg (fun z => some (Value.int IntKind.i64 z)) (by dsimp only; omega)) Sub.nil))))) (by dsimp only; rw [List.take_succ_of_get hq, List.map_append]; exact List.Perm.refl _)
 ·try simp only [hasB, isSizeB, sB] at h1
  refine At.exitC (At.thenX (At.thenX (At.blkX (At.thenN (At.seq ?_)))))
  obtain rfl : k = ks.length := by omega
  rw [List.take_length]
  refine At.region (tM rfl rfl ?_)
  refine At.call1 0 rfl (fun w hw hr => sort_u _ _ w hr (by rw [List.length_map]; omega)) Tryd.call71 rfl rfl ?_
  simp only [sc0, scS]
  refine tE (At.seq (tR (tM rfl rfl (At.callR 0 rfl (fun w hw hr => comp_u _ _ w hr) Tryd.call72 rfl rfl (fun v4 => ?_)))))
  simp only [sc0, scS]
  obtain ⟨D, hD⟩ : ∃ D, D = Lib.compact ((ks.map lnF).mergeSort fun x y => decide (x ≤ y)) := ⟨_, rfl⟩
  rw [← hD]
  have hDL : D = lnL ks := hD
  have hDl : D.length ≤ ks.length := by rw [hDL]; exact lnL_len ks
  refine tV (Val.lenRow (i := 0) Tryd.underlying44 rfl rfl) rfl (tM rfl rfl (tE (At.block ?_)))
  skip
  refine At.loop (σ := Nat × Ds × Gh) (fun s => s.1 ≤ D.length ∧ actsE σ (stlA ks) = actsE s.2.1 ((stlA ks).drop s.1) ∧ s.2.1.ws.length = σ.ws.length ∧ s.2.1.steps = σ.steps + s.1) (fun s => [(0, .pointer (some ⟨p, 0, none⟩)), (27, v4), (28, .int .i64 (D.length : Int)), (29, .int .i64 (s.1 : Int))]) (fun s => [rowR v4 3 1 ((D).length) ((D).map (Value.int .i64)), Dev p s.2.2 s.2.1]) (fun s => D.length - s.1) (0, σ, γ) ⟨Nat.zero_le _, rfl, rfl, rfl⟩ (Sub.cons rfl (Sub.cons rfl (Sub.cons rfl (Sub.cons rfl Sub.nil)))) (List.Perm.refl _) ?_
  intro s hs
  obtain ⟨j, σ1, γ1⟩ := s
  dsimp only at hs ⊢
  obtain ⟨hj, hae, hl1, hs1⟩ := hs
  refine tR (tV (Val.bin rfl rfl rfl) rfl (tE (At.seq ?_)))
  refine At.cond rfl (fun h5 => ?_) (fun h5 => ?_)
  ·try simp only [hasB, isSizeB, sB] at h5
   refine At.skipC (At.thenN (At.seq (At.block (tR ?_))))
   obtain ⟨x, hx⟩ : ∃ x, D[j]? = some x := ⟨_, List.getElem?_eq_getElem (by omega)⟩
   obtain ⟨kk, K, hkk, hK, rfl, hKj⟩ := lnK_at (by rw [← hDL]; exact hx)
   have hKn := hk kk hkk
   refine tV (Val.indexRow (i := 0) j (by omega) Tryd.underlying44 Tryd.sizeOf3 rfl rfl rfl (by omega) (by omega)) rfl ?_
   refine tV (Val.loadRow (u := .int .i64 (64 * (K : Int))) (i := 0) Tryd.isAgg3 rfl rfl (by rw [List.getElem?_map, hx]; rfl)) rfl ?_
   refine tA rfl rfl (tE (tR (tM rfl rfl (tM rfl rfl ?_))))
   cases hdb : deadB σ1
   ·refine At.callD 1 rfl (fun w hw hr => (by have h0 := flush_d _ _ σ1 (64 * (K : Int)) (8 * K) w (by omega) (by omega) (by omega) (by omega) hdb hr; exact h0)) Tryd.call70 rfl rfl (fun y6 => ?_)
    simp only [sc0, scS]
    refine tA rfl rfl (tE (tR (tM rfl rfl (tV (Val.bin rfl rfl rfl) rfl (tE (At.condF rfl (At.skipC (At.blkN (At.thenN (At.region ?_))))))))))
    first | refine tV (Val.addI rfl rfl (by omega) (by omega)) rfl ?_ | refine tV (Val.bin rfl rfl rfl) rfl ?_
    refine tM rfl rfl (tE ?_)
    exact At.again (j + 1, lineD σ1 K, y6) (by obtain ⟨s1, s2, s3⟩ := lineD_rest σ1 K; exact ⟨(show j + 1 ≤ _ by omega), by dsimp only; rw [hae, drop_consB (stlA_at hKj), actsE_live hdb]; rfl, s3.trans hl1, by dsimp only; omega⟩) (by dsimp only; omega) (Sub.cons rfl (Sub.cons rfl (Sub.cons rfl (Sub.cons (congrArg (fun z => some (Value.int IntKind.i64 z)) (by dsimp only; omega)) Sub.nil)))) (List.Perm.refl _)
   ·refine At.callK 1 rfl (fun w hw hr => flush_0 _ _ _ (64 * (K : Int)) w (by omega) (by omega) hdb hr) Tryd.call70 rfl rfl (tA rfl rfl (tE (tR (tM rfl rfl (tV (Val.bin rfl rfl rfl) rfl (tE (At.condT rfl (tR (tM rfl rfl (tA rfl rfl (tE (At.retC (At.blkR (At.thenR (At.thenR (At.blkR (At.thenR (At.ret1 (.inl rfl) rfl rfl rfl (fun w hw => ?_)))))))))))))))))))
    rw [hae, drop_consB (stlA_at hKj), actsE_dead hdb]
    exact ⟨_, rfl, hw.drop (List.singleton_sublist.2 (List.mem_of_getElem? (i := 1) rfl))⟩
  ·try simp only [hasB, isSizeB, sB] at h5
   refine At.exitC (At.thenX (At.thenX (At.blkX (At.thenN (tR (tM rfl rfl ?_))))))
   cases hdb : deadB σ1
   ·refine At.callD 1 rfl (fun w hw hr => fence_d _ _ σ1 w (by omega) hdb hr) Tryd.call44 rfl rfl (fun y7 => ?_)
    simp only [sc0, scS]
    refine tA rfl rfl (tE (At.retC (At.ret1 (.inl rfl) rfl rfl rfl (fun w hw => ?_))))
    obtain rfl : j = D.length := by omega
    rw [hDL, stlA_end, actsE_live hdb] at hae
    rw [hae]
    exact ⟨_, rfl, hw.drop (List.singleton_sublist.2 (List.mem_of_getElem? (i := 1) rfl))⟩
   ·refine At.callK 1 rfl (fun w hw hr => fence_0 _ _ _ w hdb hr) Tryd.call44 rfl rfl (tA rfl rfl (tE (At.retC (At.ret1 (.inl rfl) rfl rfl rfl (fun w hw => ?_)))))
    obtain rfl : j = D.length := by omega
    rw [hDL, stlA_end, actsE_dead hdb] at hae
    rw [hae]
    exact ⟨_, rfl, hw.drop (List.singleton_sublist.2 (List.mem_of_getElem? (i := 1) rfl))⟩
end Go.Proofs.YtfchinibjhcejaaDoor
namespace Go.Proofs.YtfchinibjhcejaaDoor
open Go Go.Wk
theorem QAt.idxWO {P : Program} {Γ : Ctx} {E : Env} {H : List Res} {ops : Array Oper} {rest : List Oper} {ψ : Act → Prop} {d : Nat} {ty : TypeId} {pos : String} {after : Array Edge} {x y : Operand} {v : Value} {t el j : Nat} {l : List (BitVec 64)} {k : IntKind} {z : BitVec 64} {g : Option (Nat × Bool)} (h : RdW Γ.w0 v l) (ho : Off v (l.map b64) Γ.S) (hu : P.underlying t = some (.slice el)) (hs : ∀ w, (sizeOf el).run P w = .ok 1 w) (hx : ev E x = some v) (hy : ev E y = some (.int k (j : Int))) (hz : l[j]? = some z)
    (hg : g = none) (hn : Nat.blt d Γ.n = true)
    (c : ∀ b o, Γ.w0.cell? ⟨b, o, none⟩ = some (b64 z) → ¬ Γ.S b → QAt P Γ ops ((d, .pointer (some ⟨b, o, none⟩)) :: E) H rest ψ) :
    QAt P Γ ops E H ({ dst := some d, op := .indexAddr t x y, type := ty, pos, after, guard := g } :: rest) ψ := by
  have hj := (List.getElem?_eq_some_iff.1 hz).1
  obtain ⟨b, o, cap, rfl, hc⟩ := h.at (j := j) (by simpa using hj)
  exact QAt.val (Val.indexSl _ rfl hu hs hx hy (by omega) (by omega)) hg rfl hn (c b _ (by have := hc 0 _ (by rw [Nat.mul_one, Nat.add_zero, List.getElem?_map, hz]; rfl); rwa [Nat.add_zero] at this) (ho (fun e => by rw [List.map_eq_nil_iff] at e; subst e; simp at hj) b _ _ _ _ rfl))
def chA (ks : List Nat) (xs : List (BitVec 64)) : List Ac := (ks.zip xs).map (fun c => Ac.st c.1 c.2) ++ stlA ks
theorem chA_at {ks : List Nat} {xs : List (BitVec 64)} {j k : Nat} {x : BitVec 64} (hk : ks[j]? = some k) (hx : xs[j]? = some x) : (chA ks xs)[j]? = some (.st k x) := by
  have e : (ks.zip xs)[j]? = some (k, x) := List.getElem?_zip_eq_some.2 ⟨hk, hx⟩
  have hj := (List.getElem?_eq_some_iff.1 e).1
  unfold chA
  rw [List.getElem?_append_left (by rw [List.length_map]; exact hj), List.getElem?_map, e]; rfl
theorem chA_end {ks : List Nat} {xs : List (BitVec 64)} (h : xs.length = ks.length) : (chA ks xs).drop ks.length = stlA ks := by
  unfold chA
  have hl : ((ks.zip xs).map (fun c => Ac.st c.1 c.2)).length = ks.length := by rw [List.length_map, List.length_zip, h, Nat.min_self]
  rw [← hl, List.drop_left]
theorem store1_d (p : Nat) (γ : Gh) (σ : Ds) (bD bA bV k : Nat) (x : BitVec 64) (w : World) (cbD : w.cell? ⟨bD, 0, none⟩ = some (.pointer (some ⟨p, 0, none⟩))) (nbD : ¬ feet [Dev p γ σ] bD) (cbA : w.cell? ⟨bA, 0, none⟩ = some (.int .i64 (8 * (k : Int)))) (nbA : ¬ feet [Dev p γ σ] bA) (cbV : w.cell? ⟨bV, 0, none⟩ = some (b64 x)) (nbV : ¬ feet [Dev p γ σ] bV) (hk : k < σ.ws.length) (hst : σ.steps + 3 ≤ 1099511627776) (hd : (Dev p γ σ).holds w) :
    DevU Tryd.prog 45 [.pointer (some ⟨bD, 0, none⟩), .pointer (some ⟨bA, 0, none⟩), .pointer (some ⟨bV, 0, none⟩)] p γ σ (.int .i64 (actsE σ (.st k x :: stlA [k])).1) (actsE σ (.st k x :: stlA [k])).2 w := by
 refine enterVc hd Tryd.func45 rfl Tryd.ntmps45 rfl ?_
 have hgd := Dev.good hd
 have hln := hgd.len
 obtain ⟨r1, r2, r3⟩ := storeD_rest (σ := σ) x hk
 simp only [envOf]
 refine tR (tA rfl rfl (tE (At.seq (tR (tV (Val.loadOld Tryd.isAgg34 rfl cbD nbD) rfl (tV (Val.loadOld Tryd.isAgg3 rfl cbA nbA) rfl (tV (Val.loadOld Tryd.isAgg38 rfl cbV nbV) rfl ?_)))))))
 obtain ⟨wd, hwd⟩ : ∃ wd, σ.ws[k]? = some wd := ⟨_, List.getElem?_eq_getElem hk⟩
 cases hdb : deadB σ
 ·refine At.callD 0 rfl (fun w hw hr => (storeD_some (x := x) hwd) ▸ store_d _ _ σ k wd x w hwd (by omega) hdb hr) Tryd.call41 rfl rfl (fun y1 => ?_)
  simp only [sc0, scS]
  refine tA rfl rfl (tE (tR (tM rfl rfl (tV (Val.bin rfl rfl rfl) rfl (tE (At.condF rfl (At.skipC (At.thenN (tR (tV (Val.loadOld Tryd.isAgg34 rfl cbD nbD) rfl (tV (Val.loadOld Tryd.isAgg3 rfl cbA nbA) rfl (At.buildRow (fun a ha => by simp only [List.map_toArray, List.map_cons, List.map_nil, ha.eval (x := (.tmp 13)) rfl]; try rfl) (bs_44_1 _) 1 rfl (by decide) rfl (fun v2 => ?_)))))))))))))
  change At _ _ (irow 3 v2 ([k].map adF) :: _) _
  refine At.callD 1 rfl (fun w hw hr => settle_d _ _ _ _ [k] w (row_rd (hw.row (i := 0) rfl) (by decide)) (Rep.offRow (i := 0) (j := 1) hw rfl rfl (by decide)) (by intro k' hk'; simp only [List.mem_singleton] at hk'; subst hk'; omega) (by simp) (by simp only [List.length_singleton]; omega) hr) Tryd.call46 rfl rfl (fun y3 => ?_)
  simp only [sc0, scS]
  refine tA rfl rfl (tE (At.retC (At.ret1 (.inl rfl) rfl rfl rfl (fun w hw => ?_))))
  rw [actsE_live hdb]
  exact ⟨_, rfl, hw.drop (List.singleton_sublist.2 (List.mem_of_getElem? (i := 1) rfl))⟩
 ·refine At.callK 0 rfl (fun w hw hr => store_0 _ _ _ _ _ w (place_at hk) hdb hr) Tryd.call41 rfl rfl (tA rfl rfl (tE (tR (tM rfl rfl (tV (Val.bin rfl rfl rfl) rfl (tE (At.condT rfl (tR (tM rfl rfl (tA rfl rfl (tE (At.retC (At.thenR (At.ret1 (.inl rfl) rfl rfl rfl (fun w hw => ?_)))))))))))))))
  rw [actsE_dead hdb]
  exact ⟨_, rfl, hw.drop (List.singleton_sublist.2 (List.mem_of_getElem? (i := 0) rfl))⟩
theorem change1_d (p : Nat) (γ : Gh) (σ : Ds) (bA bD bV : Nat) (vA vV : Value) (ks : List Nat) (xs : List (BitVec 64)) (w : World) (cbA : w.cell? ⟨bA, 0, none⟩ = some vA) (nbA : ¬ feet [Dev p γ σ] bA) (cbD : w.cell? ⟨bD, 0, none⟩ = some (.pointer (some ⟨p, 0, none⟩))) (nbD : ¬ feet [Dev p γ σ] bD) (cbV : w.cell? ⟨bV, 0, none⟩ = some vV) (nbV : ¬ feet [Dev p γ σ] bV) (hvA : RdI w vA (ks.map adF)) (hoA : Off vA ((ks.map adF).map (Value.int .i64)) (feet [Dev p γ σ])) (hvV : RdW w vV xs) (hoV : Off vV (xs.map b64) (feet [Dev p γ σ])) (hxl : xs.length = ks.length) (hk : ∀ k ∈ ks, k < σ.ws.length) (hn : ks.length ≤ 1000) (hst : σ.steps + 2 * ks.length + 1 ≤ 1099511627776) (hd : (Dev p γ σ).holds w) :
    DevU Tryd.prog 48 [.pointer (some ⟨bA, 0, none⟩), .pointer (some ⟨bD, 0, none⟩), .pointer (some ⟨bV, 0, none⟩)] p γ σ (.int .i64 (actsE σ (chA ks xs)).1) (actsE σ (chA ks xs)).2 w := by
 refine enterVc hd Tryd.func48 rfl Tryd.ntmps48 rfl ?_
 have hgd := Dev.good hd
 have hln := hgd.len
 have hwl : (ks.map adF).length = ks.length := List.length_map ..
 simp only [envOf]
 refine tR (tA rfl rfl (tE (At.seq (tR (tV (Val.loadOld Tryd.isAgg44 rfl cbA nbA) rfl (tV (Val.lenRd hvA Tryd.underlying44 rfl) rfl (tM rfl rfl (At.nil ?_))))))))
 rw [hwl]
 refine At.thenN (At.block ?_)
 skip
 refine At.loop (σ := Nat × Ds × Gh) (fun s => s.1 ≤ ks.length ∧ actsE σ (chA ks xs) = actsE s.2.1 ((chA ks xs).drop s.1) ∧ s.2.1.ws.length = σ.ws.length ∧ s.2.1.steps = σ.steps + s.1) (fun s => [(0, .pointer (some ⟨bA, 0, none⟩)), (1, .pointer (some ⟨bD, 0, none⟩)), (2, .pointer (some ⟨bV, 0, none⟩)), (7, vA), (8, .int .i64 (ks.length : Int)), (9, .int .i64 (s.1 : Int))]) (fun s => [Dev p s.2.2 s.2.1]) (fun s => ks.length - s.1) (0, σ, γ) ⟨Nat.zero_le _, rfl, rfl, rfl⟩ (Sub.cons rfl (Sub.cons rfl (Sub.cons rfl (Sub.cons rfl (Sub.cons rfl (Sub.cons rfl Sub.nil)))))) (List.Perm.refl _) ?_
 intro s hs
 obtain ⟨j, σ1, γ1⟩ := s
 dsimp only at hs ⊢
 obtain ⟨hj, hae, hl1, hs1⟩ := hs
 refine tR (tV (Val.bin rfl rfl rfl) rfl (tE (At.seq ?_)))
 refine At.cond rfl (fun h1 => ?_) (fun h1 => ?_)
 ·try simp only [hasB, isSizeB, sB] at h1
  refine At.skipC (At.thenN (At.seq (At.block (tR (tM rfl rfl ?_)))))
  obtain ⟨k, hkj⟩ : ∃ k, ks[j]? = some k := ⟨_, List.getElem?_eq_getElem (by omega)⟩
  obtain ⟨x, hxj⟩ : ∃ x, xs[j]? = some x := ⟨_, List.getElem?_eq_getElem (by omega)⟩
  have hkm := hk k (List.mem_of_getElem? hkj)
  refine At.idxI' hvA hoA Tryd.underlying44 Tryd.sizeOf3 rfl rfl (by omega) (by rw [List.length_map]; omega) rfl rfl (fun bx ox cx hcx hcc hox => ?_)
  rw [Int.toNat_natCast] at hcx
  obtain rfl : 8 * (k : Int) = cx := by rw [List.getElem?_map, hkj] at hcx; exact Option.some.inj hcx
  refine tV (Val.loadOld Tryd.isAgg3 rfl hcc hox) rfl (tA rfl rfl (tA rfl rfl (tE (At.seq (At.tail 6 rfl (by decide +kernel) ?_)))))
  simp only [List.take_succ_cons, List.take_zero, List.drop_succ_cons, List.drop_zero]
  refine qV (Val.loadOld Tryd.isAgg34 rfl cbD nbD) rfl (qM rfl rfl (qV (Val.loadOld Tryd.isAgg60 rfl cbV nbV) rfl (qM rfl rfl (QAt.idxWO hvV hoV Tryd.underlying60 Tryd.sizeOf38 rfl rfl hxj rfl rfl (fun by_ oy hcy hoy => (qV (Val.loadOld Tryd.isAgg38 rfl hcy hoy) rfl (QAt.fin ?_)))))))
  obtain ⟨wd, hwd⟩ : ∃ wd, σ1.ws[k]? = some wd := ⟨_, List.getElem?_eq_getElem (by omega)⟩
  cases hdb : deadB σ1
  ·refine At.callD 0 rfl (fun w hw hr => (storeD_some (x := x) hwd) ▸ store_d _ _ σ1 k wd x w hwd (by omega) hdb hr) Tryd.call41 rfl rfl (fun y2 => ?_)
   simp only [sc0, scS]
   refine tA rfl rfl (tE (tR (tM rfl rfl (tV (Val.bin rfl rfl rfl) rfl (tE (At.condF rfl (At.skipC (At.blkN (At.thenN (At.region ?_))))))))))
   first | refine tV (Val.addI rfl rfl (by omega) (by omega)) rfl ?_ | refine tV (Val.bin rfl rfl rfl) rfl ?_
   refine tM rfl rfl (tE ?_)
   exact At.again (j + 1, storeD σ1 k x, y2) (by obtain ⟨s1, s2, s3⟩ := storeD_rest (σ := σ1) x (show k < σ1.ws.length by omega); exact ⟨(show j + 1 ≤ _ by omega), by dsimp only; rw [hae, drop_consB (chA_at hkj hxj), actsE_live hdb]; rfl, s3.trans hl1, by dsimp only; omega⟩) (by dsimp only; omega) (Sub.cons rfl (Sub.cons rfl (Sub.cons rfl (Sub.cons rfl (Sub.cons rfl (Sub.cons (congrArg (fun z => some (Value.int IntKind.i64 z)) (by dsimp only; omega)) Sub.nil)))))) (List.Perm.refl _)
  ·refine At.callK 0 rfl (fun w hw hr => store_0 _ _ _ _ _ w (place_at (by omega)) hdb hr) Tryd.call41 rfl rfl (tA rfl rfl (tE (tR (tM rfl rfl (tV (Val.bin rfl rfl rfl) rfl (tE (At.condT rfl (tR (tM rfl rfl (tA rfl rfl (tE (At.retC (At.blkR (At.thenR (At.thenR (At.blkR (At.thenR (At.ret1 (.inl rfl) rfl rfl rfl (fun w hw => ?_)))))))))))))))))))
   rw [hae, drop_consB (chA_at hkj hxj), actsE_dead hdb]
   exact ⟨_, rfl, hw⟩
 ·try simp only [hasB, isSizeB, sB] at h1
  refine At.exitC (At.thenX (At.thenX (At.blkX (At.thenN (tR (tV (Val.loadOld Tryd.isAgg34 rfl cbD nbD) rfl (tV (Val.loadOld Tryd.isAgg44 rfl cbA nbA) rfl ?_)))))))
  refine At.callD 0 rfl (fun w hw hr => settle_d _ _ _ _ ks w (Rd.keep hvA hw hoA) (Rep.offOld hw hvA hoA (List.mem_of_getElem? (i := 0) rfl)) (by intro k' hk'; have := hk k' hk'; omega) hn (by omega) hr) Tryd.call46 rfl rfl (fun y3 => ?_)
  simp only [sc0, scS]
  refine tA rfl rfl (tE (At.retC (At.ret1 (.inl rfl) rfl rfl rfl (fun w hw => ?_))))
  obtain rfl : j = ks.length := by omega
  rw [chA_end hxl] at hae
  rw [hae]
  exact ⟨_, rfl, hw⟩
end Go.Proofs.YtfchinibjhcejaaDoor
namespace Go.Wk
open Go
section
variable {P : Program} {Γ : Ctx} {E E' : Env} {H : List Res} {ops : Array Oper} {Q : Exit → Act → World → Prop} {rest : List Oper}
  {d : Nat} {ty : TypeId} {pos : String} {after : Array Edge} {x y : Operand} {v u : Value}
end
end Go.Wk
namespace Go.Wk
open Go
section
variable {P : Program} {Γ : Ctx} {E E' : Env} {H : List Res} {ops : Array Oper} {Q : Exit → Act → World → Prop} {rest : List Oper}
  {d : Nat} {ty : TypeId} {pos : String} {after : Array Edge} {x y : Operand} {v u : Value}
end
theorem Tab.modS {w w' : World} {S : Nat → Prop} (h : Tab w) (hm : Mod S w w') (h0 : ¬ S 0) : Tab w' := fun i hi => by
  have hc := h i hi
  have := hm.old 0 (block_lt_of_cell hc) h0
  unfold World.cell? at *
  rw [this]; exact hc
theorem Tab.old {w : World} (h : Tab w) : 0 < w.heap.size := block_lt_of_cell (h 0 (by decide))
end Go.Wk
namespace Go.Proofs.YtfchinibjhcejaaDoor
open Go Go.Wk
def nowAt (σ : Ds) (k : Nat) : BitVec 64 := match σ.ws[k]? with | some w => nowW w | none => 0
theorem nowAt_some {σ : Ds} {k : Nat} {w : Wd} (h : σ.ws[k]? = some w) : nowAt σ k = nowW w := by unfold nowAt; rw [h]
def recW (σ : Ds) (ks : List Nat) : List (BitVec 64) := ks.flatMap fun (k : Nat) => [BitVec.ofInt 64 (8 * (k : Int)), nowAt σ k]
theorem recW_snoc (σ : Ds) (ks : List Nat) (k : Nat) : recW σ (ks ++ [k]) = recW σ ks ++ [BitVec.ofInt 64 (8 * (k : Int)), nowAt σ k] := by simp [recW]
theorem recW_len (σ : Ds) (ks : List Nat) : (recW σ ks).length = 2 * ks.length := by
  induction ks with
  | nil => rfl
  | cons k ks ih => show (_ ++ recW σ ks).length = _; rw [List.length_append, ih]; simp only [List.length_cons, List.length_nil]; omega
theorem bytesW_w (W : List (BitVec 64)) : bytesW W = wbytes W := rfl
def wrB (W : List (BitVec 64)) : List Ac := .st 65 (sealW (BitVec.ofInt 64 520) (sumOn 0 (wbytes W))) :: (flA 8 (cntL 512 (64 + 8 * W.length)) ++ [.fe])
def wrA (W : List (BitVec 64)) : List Ac := stA 72 W ++ wrB W
theorem cnt_le {a n : Nat} (h : n ≤ 256 := by omega) : cntL a n ≤ 6 ∧ (8 * (a / 64 + cntL a n)) * 8 < a + n + 64 + (if n = 0 then a else 0) := by
  unfold cntL
  split
  · rename_i h0; subst h0; simp; omega
  · omega
theorem sum_rd {v : Value} (l : List UInt8) (w : World) (h : RdB w v l) (ht : Tab w) (hl : l.length ≤ 140737488355328) : PureC Tryd.prog 42 [v] (b32 (sumOn 0 l)) w := by
  obtain ⟨A, c, rfl, hb, _⟩ := h.bytes
  exact sum_p A l c w hb ht hl
theorem write1_d (p : Nat) (γ : Gh) (σ : Ds) (bA bD : Nat) (vA : Value) (ks : List Nat) (w : World) (ht : Tab w) (hf : ¬ feet [Dev p γ σ] 0) (cbA : w.cell? ⟨bA, 0, none⟩ = some vA) (nbA : ¬ feet [Dev p γ σ] bA) (cbD : w.cell? ⟨bD, 0, none⟩ = some (.pointer (some ⟨p, 0, none⟩))) (nbD : ¬ feet [Dev p γ σ] bD) (hvA : RdI w vA (ks.map adF)) (hoA : Off vA ((ks.map adF).map (Value.int .i64)) (feet [Dev p γ σ])) (hk : ∀ k ∈ ks, k < σ.ws.length) (hn : ks.length ≤ 8) (hN : 512 ≤ σ.ws.length) (hst : σ.steps + 60 ≤ 1099511627776) (hd : (Dev p γ σ).holds w) :
    DevU Tryd.prog 38 [.pointer (some ⟨bA, 0, none⟩), .pointer (some ⟨bD, 0, none⟩)] p γ σ (.int .i64 (actsE σ (wrA (recW σ ks))).1) (actsE σ (wrA (recW σ ks))).2 w := by
 refine enterVc hd Tryd.func38 rfl Tryd.ntmps38 rfl ?_
 have hgd := Dev.good hd
 have hln := hgd.len
 have hwl : (ks.map adF).length = ks.length := List.length_map ..
 simp only [envOf]
 refine tR (tA rfl rfl (tE (tR (tA rfl rfl (At.nil (At.rowNilW 38 (At.thenN (At.seq (tR (tV (Val.loadOld Tryd.isAgg44 rfl cbA nbA) rfl (tV (Val.lenRd hvA Tryd.underlying44 rfl) rfl (tM rfl rfl (At.nil ?_)))))))))))))
 rw [hwl]
 refine At.thenN (At.block ?_)
 skip
 refine At.loop (σ := Nat × Value) (fun s => s.1 ≤ ks.length) (fun s => [(1, .pointer (some ⟨bD, 0, none⟩)), (2, .int .i64 0), (3, s.2), (12, vA), (13, .int .i64 (ks.length : Int)), (14, .int .i64 (s.1 : Int))]) (fun s => [wrow 38 s.2 (recW σ (ks.take s.1)), Dev p γ (σ)]) (fun s => ks.length - s.1) (0, .slice none 0 0) (Nat.zero_le _) (Sub.cons rfl (Sub.cons rfl (Sub.cons rfl (Sub.cons rfl (Sub.cons rfl (Sub.cons rfl Sub.nil)))))) (List.Perm.refl _) ?_
 intro s hs
 obtain ⟨j, vk⟩ := s
 dsimp only at hs ⊢
 have hml : (recW σ (ks.take j)).length = 2 * j := by rw [recW_len, List.length_take]; omega
 refine tR (tV (Val.bin rfl rfl rfl) rfl (tE (At.seq ?_)))
 refine At.cond rfl (fun h1 => ?_) (fun h1 => ?_)
 ·try simp only [hasB, isSizeB, sB] at h1
  refine At.skipC (At.thenN (At.seq (At.block (tR ?_))))
  obtain ⟨k, hkj⟩ : ∃ k, ks[j]? = some k := ⟨_, List.getElem?_eq_getElem (by omega)⟩
  have hkm := hk k (List.mem_of_getElem? hkj)
  obtain ⟨wd, hwd⟩ : ∃ wd, σ.ws[k]? = some wd := ⟨_, List.getElem?_eq_getElem hkm⟩
  refine At.idxI' hvA hoA Tryd.underlying44 Tryd.sizeOf3 rfl rfl (by omega) (by rw [List.length_map]; omega) rfl rfl (fun bx ox cx hcx hcc hox => ?_)
  rw [Int.toNat_natCast] at hcx
  obtain rfl : 8 * (k : Int) = cx := by rw [List.getElem?_map, hkj] at hcx; exact Option.some.inj hcx
  refine tV (Val.loadOld Tryd.isAgg3 rfl hcc hox) rfl (tA rfl rfl (tE (tR (tV (Val.loadOld Tryd.isAgg34 rfl cbD nbD) rfl (tM rfl rfl (At.callK 1 rfl (fun w hw hr => word_k _ _ σ k wd w hwd hr) Tryd.call9 rfl rfl (tM rfl rfl (tV (Val.extract rfl rfl) rfl (tV (Val.extract rfl rfl) rfl (tA rfl rfl (tA rfl rfl (tE (At.seq (tR (tM rfl rfl (tV (Val.bin rfl rfl rfl) rfl (tE (At.condF rfl (At.skipC (At.thenN (At.region (tM rfl rfl (tM rfl rfl (tV (Val.conv Tryd.underlying3 Tryd.underlying38 rfl) rfl ?_))))))))))))))))))))))))
  rw [wrap_u64_int (8 * (k : Int))]
  refine tM rfl rfl (At.buildSl (fun a ha => by simp only [List.map_toArray, List.map_cons, List.map_nil, ha.eval (x := (.tmp 29)) rfl, ha.eval (x := (.tmp 30)) rfl]; try rfl) (bs_60_2 _ _ ) rfl (fun b2 => ?_))
  refine At.appendWs (i := 1) (j := 0) (ms := [BitVec.ofInt 64 (8 * (k : Int)), nowW wd]) (by_ := 8) Tryd.underlying60 info_38 rfl rfl rfl rfl rfl rfl rfl rfl rfl (by first | omega | (simp only [List.length_cons, List.length_nil]; omega)) (by first | omega | (simp only [List.length_cons, List.length_nil]; omega)) rfl (fun v3 => ?_)
  simp only [sc0, scS]
  refine At.drop 0 ?_
  simp only [ec0, ecS]
  refine tA rfl rfl (At.nil (At.blkN (At.thenN (At.region ?_))))
  first | refine tV (Val.addI rfl rfl (by omega) (by omega)) rfl ?_ | refine tV (Val.bin rfl rfl rfl) rfl ?_
  refine tM rfl rfl (tE ?_)
  exact At.again (j + 1, v3) (show j + 1 ≤ _ by omega) (by dsimp only; omega) (Sub.cons rfl (Sub.cons rfl (Sub.cons rfl (Sub.cons rfl (Sub.cons rfl (Sub.cons (congrArg (fun z => some (Value.int IntKind.i64 z)) (by dsimp only; omega)) Sub.nil)))))) (by dsimp only; rw [List.take_succ_of_get hkj, recW_snoc, nowAt_some hwd])
 ·try simp only [hasB, isSizeB, sB] at h1
  refine At.exitC (At.thenX (At.thenX (At.blkX (At.thenN (At.seq ?_)))))
  obtain rfl : j = ks.length := by omega
  rw [List.take_length] at hml ⊢
  obtain ⟨W, hW⟩ : ∃ W, W = recW σ ks := ⟨_, rfl⟩
  rw [← hW] at hml ⊢
  obtain ⟨σ1, hσ1⟩ : ∃ s, s = (actsE σ (stA 72 W)).2 := ⟨_, rfl⟩
  obtain ⟨e1, he1⟩ : ∃ e, e = (actsE σ (stA 72 W)).1 := ⟨_, rfl⟩
  obtain ⟨a1, a2, a3, _⟩ := actsE_rest (stA 72 W) σ (stA_ok W 72 (by omega))
  have h01 := actsE_01 (stA 72 W) σ
  rw [← hσ1] at a1 a2 a3
  rw [← he1] at h01
  rw [stA_len] at a2
  have hbl : (wbytes W).length = 8 * W.length := wbytes_length W
  have hcw := cnt_le (a := 512) (n := 64 + 8 * W.length)
  refine At.region (tM rfl rfl ?_)
  refine At.callN (fun w hw => (by have h0 := bytes_n _ W w (row_rd (hw.row (i := 0) rfl) (by decide)) (by omega); rw [bytesW_w] at h0; exact h0)) Tryd.call39 rfl rfl (fun v4 => (tA rfl rfl (tE (At.seq (tR (tV (Val.loadOld Tryd.isAgg34 rfl cbD nbD) rfl (tM rfl rfl ?_)))))))
  refine At.callD 2 rfl (fun w hw hr => (by have h0 := write_d _ _ σ 72 W.length _ (wbytes W) w (row_rd (hw.row (i := 0) rfl) (by decide)) (Rep.offRow (i := 0) (j := 2) hw rfl rfl (by decide)) hbl (by omega) (by omega) hr; rw [wordsL_wbytes, storesE_acts, ← hσ1, ← he1] at h0; exact h0)) Tryd.call40 rfl rfl (fun y5 => ?_)
  simp only [sc0, scS]
  refine tA rfl rfl (tE (tR (tM rfl rfl (tV (Val.bin rfl rfl rfl) rfl (tE ?_)))))
  refine At.cond rfl (fun h6 => ?_) (fun h6 => ?_)
  ·try simp only [hasB, isSizeB, sB] at h6
   refine tR (tM rfl rfl (tA rfl rfl (tE (At.retC (At.thenR (At.ret1 (.inl rfl) rfl rfl rfl (fun w hw => ?_)))))))
   have ea : actsE σ (wrA W) = (e1, σ1) := by unfold wrA; rw [actsE_stop (by rw [← he1]; omega), he1, hσ1]
   rw [ea]
   exact ⟨_, rfl, hw.drop (List.singleton_sublist.2 (List.mem_of_getElem? (i := 2) rfl))⟩
  ·try simp only [hasB, isSizeB, sB] at h6
   refine At.skipC (At.thenN (At.seq (At.seq (At.tail 4 rfl (by decide +kernel) ?_))))
   simp only [List.take_succ_cons, List.take_zero, List.drop_succ_cons, List.drop_zero]
   refine qV (Val.loadOld Tryd.isAgg34 rfl cbD nbD) rfl (qM rfl rfl (QAt.callP (fun w hw => sum_rd (wbytes W) w (row_rd (hw.row (i := 0) rfl) (by decide)) (ht.modS hw.mod hf) (by omega)) Tryd.call42 rfl rfl (QAt.callP (fun w hw => seal_p _ _ w (ht.modS hw.mod hf)) Tryd.call21 rfl rfl (QAt.fin ?_))))
   obtain ⟨wd, hwd⟩ : ∃ wd, σ1.ws[65]? = some wd := ⟨_, List.getElem?_eq_getElem (by omega)⟩
   obtain ⟨x, hx⟩ : ∃ x, x = sealW (BitVec.ofInt 64 520) (sumOn 0 (wbytes W)) := ⟨_, rfl⟩
   rw [← hx]
   obtain ⟨b1, b2, b3⟩ := storeD_rest (σ := σ1) (k := 65) x (by omega)
   cases hdb : deadB σ1
   ·refine At.callD 2 rfl (fun w hw hr => (storeD_some (x := x) hwd) ▸ store_d _ _ σ1 65 wd x w hwd (by omega) hdb hr) Tryd.call41 rfl rfl (fun y7 => ?_)
    simp only [sc0, scS]
    refine tA rfl rfl (tE (tR (tM rfl rfl (tV (Val.bin rfl rfl rfl) rfl (tE (At.condF rfl (At.skipC (At.thenN (At.seq (tR (tV (Val.loadOld Tryd.isAgg34 rfl cbD nbD) rfl (tM rfl rfl (tV (Val.lenRow (i := 0) Tryd.underlying29 rfl rfl) rfl ?_)))))))))))))
    first | refine tV (Val.addI rfl rfl (by omega) (by omega)) rfl ?_ | refine tV (Val.bin rfl rfl rfl) rfl ?_
    obtain ⟨σ3, hσ3⟩ : ∃ s, s = (actsE (storeD σ1 65 x) (flA 8 (cntL 512 (64 + 8 * W.length)))).2 := ⟨_, rfl⟩
    obtain ⟨e3, he3⟩ : ∃ e, e = (actsE (storeD σ1 65 x) (flA 8 (cntL 512 (64 + 8 * W.length)))).1 := ⟨_, rfl⟩
    obtain ⟨d1, d2, d3, _⟩ := actsE_rest (flA 8 (cntL 512 (64 + 8 * W.length))) (storeD σ1 65 x) (flA_ok _ 8 (by omega))
    have h03 := actsE_01 (flA 8 (cntL 512 (64 + 8 * W.length))) (storeD σ1 65 x)
    rw [← hσ3] at d1 d2 d3
    rw [← he3] at h03
    rw [flA_len] at d2
    refine At.callD 2 rfl (fun w hw hr => (by have h0 := flushAll_d _ _ (storeD σ1 65 x) 512 (64 + 8 * W.length) (cntL 512 (64 + 8 * W.length)) w (by omega) (cntL_P _ _) (by omega) hr; rw [linesE_acts, show (512 : Nat) / 64 = 8 from rfl, ← hσ3, ← he3] at h0; rw [show ((64 + 8 * W.length : Nat) : Int) = 64 + (8 * W.length : Nat) from by omega, ← hbl] at h0; exact h0)) Tryd.call43 rfl rfl (fun y8 => ?_)
    simp only [sc0, scS]
    refine tA rfl rfl (tE (tR (tM rfl rfl (tV (Val.bin rfl rfl rfl) rfl (tE ?_)))))
    refine At.cond rfl (fun h9 => ?_) (fun h9 => ?_)
    ·try simp only [hasB, isSizeB, sB] at h9
     refine tR (tM rfl rfl (tA rfl rfl (tE (At.retC (At.thenR (At.ret1 (.inl rfl) rfl rfl rfl (fun w hw => ?_)))))))
     have ea : actsE σ (wrA W) = actsE σ1 (wrB W) := by unfold wrA; rw [actsE_go (by rw [← he1]; assumption), ← hσ1]
     have eb : actsE σ1 (wrB W) = actsE (storeD σ1 65 x) (flA 8 (cntL 512 (64 + 8 * W.length)) ++ [.fe]) := by unfold wrB; rw [← hx, actsE_live hdb]; rfl
     have ec : actsE (storeD σ1 65 x) (flA 8 (cntL 512 (64 + 8 * W.length)) ++ [.fe]) = (e3, σ3) := by rw [actsE_stop (by rw [← he3]; omega), he3, hσ3]
     rw [ea, eb, ec]
     exact ⟨_, rfl, hw.drop (List.singleton_sublist.2 (List.mem_of_getElem? (i := 2) rfl))⟩
    ·try simp only [hasB, isSizeB, sB] at h9
     refine At.skipC (At.thenN (tR (tV (Val.loadOld Tryd.isAgg34 rfl cbD nbD) rfl ?_)))
     cases hdc : deadB σ3
     ·refine At.callD 2 rfl (fun w hw hr => fence_d _ _ σ3 w (by omega) hdc hr) Tryd.call44 rfl rfl (fun y10 => ?_)
      simp only [sc0, scS]
      refine tA rfl rfl (tE (At.retC (At.ret1 (.inl rfl) rfl rfl rfl (fun w hw => ?_))))
      have ea : actsE σ (wrA W) = actsE σ1 (wrB W) := by unfold wrA; rw [actsE_go (by rw [← he1]; assumption), ← hσ1]
      have eb : actsE σ1 (wrB W) = actsE (storeD σ1 65 x) (flA 8 (cntL 512 (64 + 8 * W.length)) ++ [.fe]) := by unfold wrB; rw [← hx, actsE_live hdb]; rfl
      have ec : actsE (storeD σ1 65 x) (flA 8 (cntL 512 (64 + 8 * W.length)) ++ [.fe]) = actsE σ3 [.fe] := by rw [actsE_go (by rw [← he3]; assumption), ← hσ3]
      rw [ea, eb, ec, actsE_live hdc]
      exact ⟨_, rfl, hw.drop (List.singleton_sublist.2 (List.mem_of_getElem? (i := 2) rfl))⟩
     ·refine At.callK 2 rfl (fun w hw hr => fence_0 _ _ _ w hdc hr) Tryd.call44 rfl rfl (tA rfl rfl (tE (At.retC (At.ret1 (.inl rfl) rfl rfl rfl (fun w hw => ?_)))))
      have ea : actsE σ (wrA W) = actsE σ1 (wrB W) := by unfold wrA; rw [actsE_go (by rw [← he1]; assumption), ← hσ1]
      have eb : actsE σ1 (wrB W) = actsE (storeD σ1 65 x) (flA 8 (cntL 512 (64 + 8 * W.length)) ++ [.fe]) := by unfold wrB; rw [← hx, actsE_live hdb]; rfl
      have ec : actsE (storeD σ1 65 x) (flA 8 (cntL 512 (64 + 8 * W.length)) ++ [.fe]) = actsE σ3 [.fe] := by rw [actsE_go (by rw [← he3]; assumption), ← hσ3]
      rw [ea, eb, ec, actsE_dead hdc]
      exact ⟨_, rfl, hw.drop (List.singleton_sublist.2 (List.mem_of_getElem? (i := 2) rfl))⟩
   ·refine At.callK 2 rfl (fun w hw hr => store_0 _ _ σ1 _ _ w (place_at (k := 65) (by omega)) hdb hr) Tryd.call41 rfl rfl (tA rfl rfl (tE (tR (tM rfl rfl (tV (Val.bin rfl rfl rfl) rfl (tE (At.condT rfl (tR (tM rfl rfl (tA rfl rfl (tE (At.retC (At.thenR (At.ret1 (.inl rfl) rfl rfl rfl (fun w hw => ?_)))))))))))))))
    have ea : actsE σ (wrA W) = actsE σ1 (wrB W) := by unfold wrA; rw [actsE_go (by rw [← he1]; assumption), ← hσ1]
    have eb : actsE σ1 (wrB W) = (13, σ1) := by unfold wrB; rw [actsE_dead hdb]
    rw [ea, eb]
    exact ⟨_, rfl, hw.drop (List.singleton_sublist.2 (List.mem_of_getElem? (i := 2) rfl))⟩
end Go.Proofs.YtfchinibjhcejaaDoor
namespace Go.Proofs.YtfchinibjhcejaaDoor
open Go Go.Wk
theorem At.callYs {P : Program} {Γ : Ctx} {E : Env} {H : List Res} {ops : Array Oper} {Q : Exit → Act → World → Prop} {rest : List Oper} {d : Nat} {ty : TypeId} {pos : String} {after : Array Edge} {β : Type} {Hs : β → List Res} {v : β → Value} {f : FuncId} {l : List Operand} {vs : List Value} {at_ : Array TypeId}
    (h : ∀ w, Rep Γ.w0 Γ.S H w → Calls P f vs.toArray w fun e w' => ∃ y : β, e = .returned (v y) ∧ Rep w (feet []) (Hs y) w') (hc : ∀ args w, (callFunc f args).run P w = .ok (.enter f args) w) (hv : evs E l = some vs) (hn : Nat.blt d Γ.n = true)
    (c : ∀ y, At Γ ((d, v y) :: E) (Hs y ++ H) (wpList P ops Q rest)) :
    At Γ E H (wpList P ops Q ({ dst := some d, op := .call { callee := .value (.func f), args := l.toArray, argTypes := at_ }, type := ty, pos, after, guard := none } :: rest)) :=
  At.call hc hv hn fun w hw => (h w hw).mono fun e w' ⟨y, he, hr⟩ => ⟨v y, _, he, Rep.frame (H0 := []) (F := H) (H0' := Hs y) hw hr, c y⟩
theorem At.callVD {P : Program} {Γ : Ctx} {E : Env} {H : List Res} {ops : Array Oper} {Q : Exit → Act → World → Prop} {rest : List Oper} {d : Nat} {ty : TypeId} {pos : String} {after : Array Edge} (i : Nat) {p : Nat} {γ : Gh} {σ σ' : Ds} {v : Value} {f : FuncId} {caps : List Value} {fx : Operand} {l : List Operand} {vs : List Value} {at_ : Array TypeId} (hi : H[i]? = some (Dev p γ σ)) (hf : ev E fx = some (.func (.func f) #[] caps.toArray)) (h : ∀ w, Rep Γ.w0 Γ.S H w → DevU P f (vs ++ caps) p γ σ v σ' w)
    (hc : ∀ args w, (callFunc f args).run P w = .ok (.enter f args) w) (hv : evs E l = some vs) (hn : Nat.blt d Γ.n = true)
    (c : ∀ γ', At Γ ((d, v) :: E) (H.set i (Dev p γ' σ')) (wpList P ops Q rest)) :
    At Γ E H (wpList P ops Q ({ dst := some d, op := .call { callee := .value fx, args := l.toArray, argTypes := at_ }, type := ty, pos, after, guard := none } :: rest)) := fun a w ha hw => by
  refine wpList_plain rfl fun K hK => ?_
  unfold Oper.wp
  rw [run_callV ha hf hc hv w]
  simp only [Oper.upon]
  refine (h w hw).mono fun e w' ⟨γ', he, hr⟩ => ?_
  subst he
  exact hK _ _ (c γ' _ _ (ha.put d v hn) (Rep.frame1 (X := []) hi hw hr))
theorem At.idxVO {P : Program} {Γ : Ctx} {E : Env} {H : List Res} {ops : Array Oper} {Q : Exit → Act → World → Prop} {rest : List Oper} {d : Nat} {ty : TypeId} {pos : String} {after : Array Edge} {x y : Operand} {v : Value} {t el j : Nat} {xs : List Value} {k : IntKind} {z : Value} {g : Option (Nat × Bool)} (h : Rd Γ.w0 v 1 xs.length xs) (ho : Off v xs Γ.S) (hu : P.underlying t = some (.slice el)) (hs : ∀ w, (sizeOf el).run P w = .ok 1 w) (hx : ev E x = some v) (hy : ev E y = some (.int k (j : Int))) (hz : xs[j]? = some z)
    (hg : g = none) (hn : Nat.blt d Γ.n = true)
    (c : ∀ b o, Γ.w0.cell? ⟨b, o, none⟩ = some z → ¬ Γ.S b → At Γ ((d, .pointer (some ⟨b, o, none⟩)) :: E) H (wpList P ops Q rest)) :
    At Γ E H (wpList P ops Q ({ dst := some d, op := .indexAddr t x y, type := ty, pos, after, guard := g } :: rest)) := by
  have hj := (List.getElem?_eq_some_iff.1 hz).1
  obtain ⟨b, o, cap, rfl, hc⟩ := h.at (j := j) hj
  exact At.val (Val.indexSl _ rfl hu hs hx hy (by omega) (by omega)) hg rfl hn (c b _ (by have := hc 0 z (by rw [Nat.mul_one, Nat.add_zero]; exact hz); rwa [Nat.add_zero] at this) (ho (fun e => by rw [e] at hz; cases hz) b _ _ _ _ rfl))
theorem Rep.still {w0 : World} {S : Nat → Prop} {H : List Res} {w : World} {b o : Nat} {u : Value} (hw : Rep w0 S H w) (hc : w0.cell? ⟨b, o, none⟩ = some u) (hS : ¬ S b) {i : Nat} {r : Res} (hi : H[i]? = some r) : w.cell? ⟨b, o, none⟩ = some u ∧ ¬ feet [r] b :=
  ⟨hw.oldCell hc hS, fun ⟨q, hq, hb⟩ => by
    rw [List.mem_singleton.1 hq] at hb
    rcases hw.mine r (List.mem_of_getElem? hi) b hb with h | h
    · have h9 : b < w0.heap.size := block_lt_of_cell hc
      omega
    · exact hS h⟩
abbrev PhF : Type := FuncId × List Value
def phV (f : PhF) : Value := .func (.func f.1) #[] f.2.toArray
theorem bld_ph (f : PhF) (w : World) : (Instr.build 64 #[(0, phV f)]).run Tryd.prog w = .ok (.agg #[phV f]) w := by kernel_rfl
theorem bs_ph4 (a b c d : PhF) (w : World) : (Instr.buildSlice 70 4 #[(0, .agg #[phV a]), (1, .agg #[phV b]), (2, .agg #[phV c]), (3, .agg #[phV d])]).run Tryd.prog w = .ok (.slice (some ⟨w.heap.size, 0, none⟩) 4 4) (w.alloc (.cells [phV a, phV b, phV c, phV d].toArray 64)) := by kernel_rfl
theorem Val.makeFunc3 {P : Program} {Γ : Ctx} {E : Env} {H : List Res} {ty : TypeId} {pos : String} {after : Array Edge} {dst : Option Nat} {gd : Option (Nat × Bool)} {fn : FuncId} {x y z : Operand} {v u t : Value} (hx : ev E x = some v) (hy : ev E y = some u) (hz : ev E z = some t) : Val P Γ E H ⟨dst, .makeFunc (.func fn) #[] #[x, y, z], ty, pos, after, gd⟩ (.func (.func fn) #[] #[v, u, t]) := fun a w ha _ => by
  simp [execOp, Instr.makeFunc, ha.eval hx, ha.eval hy, ha.eval hz]
theorem picks_some {H : List Res} : ∀ {js : List Nat} {L : List Res}, js.mapM (fun (j : Nat) => H[j]?) = some L → L.length = js.length ∧ ∀ (k j : Nat), js[k]? = some j → L[k]? = H[j]?
  | [], L, h => by
    obtain rfl : [] = L := Option.some.inj h
    exact ⟨rfl, fun k j hk => by cases hk⟩
  | j :: js, L, h => by
    rw [List.mapM_cons] at h
    cases h1 : H[j]? with
    | none => rw [h1] at h; cases h
    | some r =>
      rw [h1] at h
      cases h2 : js.mapM (fun (j : Nat) => H[j]?) with
      | none => simp [h2] at h
      | some L' =>
        simp only [h2, Option.bind_eq_bind, Option.bind_some, Option.pure_def, Option.some.injEq] at h
        subst h
        obtain ⟨g1, g2⟩ := picks_some h2
        refine ⟨by rw [List.length_cons, List.length_cons, g1], fun k j' hk => ?_⟩
        match k, hk with
        | 0, hk => obtain rfl := Option.some.inj hk; exact h1.symm
        | k + 1, hk => exact g2 k j' hk
theorem Rep.pick {w0 : World} {S : Nat → Prop} {H L : List Res} {w : World} (hw : Rep w0 S H w) (js : List Nat) (hd : js.Nodup) (h : js.mapM (fun (j : Nat) => H[j]?) = some L) : Rep w0 S L w := by
  obtain ⟨g1, g2⟩ := picks_some h
  have at_ : ∀ (k : Nat) (hk : k < L.length), ∃ j : Nat, js[k]? = some j ∧ H[j]? = some L[k] := fun k hk => by
    have hj : js[k]? = some (js[k]'(by omega)) := List.getElem?_eq_getElem _
    exact ⟨_, hj, by rw [← g2 k _ hj, List.getElem?_eq_getElem hk]⟩
  refine ⟨List.pairwise_iff_getElem.2 fun a b ha hb hab => ?_, fun r hr => ?_, fun r hr => ?_, hw.mod⟩
  · obtain ⟨i, h1, h2⟩ := at_ a ha
    obtain ⟨j, h3, h4⟩ := at_ b hb
    have hne : i ≠ j := fun e => by
      subst e
      have e1 := List.getElem?_eq_some_iff.1 h1
      have e2 := List.getElem?_eq_some_iff.1 h3
      have := List.pairwise_iff_getElem.1 hd a b e1.1 e2.1 hab
      exact this (e1.2.trans e2.2.symm)
    have e1 := List.getElem?_eq_some_iff.1 h2
    have e2 := List.getElem?_eq_some_iff.1 h4
    rcases Nat.lt_or_gt_of_ne hne with hlt | hgt
    · have := List.pairwise_iff_getElem.1 hw.sep i j e1.1 e2.1 hlt
      rwa [e1.2, e2.2] at this
    · have := List.pairwise_iff_getElem.1 hw.sep j i e2.1 e1.1 hgt
      rw [e1.2, e2.2] at this
      exact fun x hx hx' => this x hx' hx
  · obtain ⟨k, hk⟩ := List.getElem?_of_mem hr
    obtain ⟨j, _, h2⟩ := at_ k (List.getElem?_eq_some_iff.1 hk).1
    rw [(List.getElem?_eq_some_iff.1 hk).2] at h2
    exact hw.all r (List.mem_of_getElem? h2)
  · obtain ⟨k, hk⟩ := List.getElem?_of_mem hr
    obtain ⟨j, _, h2⟩ := at_ k (List.getElem?_eq_some_iff.1 hk).1
    rw [(List.getElem?_eq_some_iff.1 hk).2] at h2
    exact hw.mine r (List.mem_of_getElem? h2)
theorem storeP_n (p : Nat) (a : Int) (x : BitVec 64) (w : World) :
    Calls Tryd.prog 20 (List.toArray [.pointer (some ⟨p, 0, none⟩), .int .i64 a, b64 x]) w fun e w' => ∃ y : Nat × Nat × Nat, e = .returned (.agg #[phV (45, [.pointer (some ⟨y.1, 0, none⟩), .pointer (some ⟨y.2.1, 0, none⟩), .pointer (some ⟨y.2.2, 0, none⟩)])]) ∧ Rep w (feet []) [blk y.1 34 [.pointer (some ⟨p, 0, none⟩)], blk y.2.1 3 [.int .i64 a], blk y.2.2 38 [b64 x]] w' := by
 refine enter (feet []) [] Tryd.func20 rfl Tryd.ntmps20 rfl ⟨by simp, by simp, by simp, Mod.refl _ _⟩ ?_
 simp only [envOf]
 refine tR (At.box rfl rfl rfl (fun b1 => (At.box rfl rfl rfl (fun b2 => (At.box rfl rfl rfl (fun b3 => (At.alloc Tryd.zeroValue64 rfl rfl (fun b4 => (tE (tR (tV (Val.makeFunc3 rfl rfl rfl ) rfl ?_)))))))))))
 refine tV (Val.build (fun a ha => by simp only [List.map_toArray, List.map_cons, List.map_nil, ha.eval (x := (.tmp 7)) rfl] <;> rfl) (bld_ph (_, _))) rfl (At.storeAll (i := 0) Tryd.sizeOf64 rfl rfl rfl (by simp [Value.oneCell', phV]) rfl rfl ?_)
 simp only [sc0, scS]
 refine tE (At.retC (At.ret1 (.inl rfl) rfl rfl (ResOf.all (i := 0) Tryd.isAgg64 Tryd.sizeOf64 rfl rfl rfl) (fun w hw => ?_)))
 exact ⟨(b1, b2, b3), rfl, Rep.pick hw [3, 2, 1] (by decide) rfl⟩
theorem changeP_n (p : Nat) (vA vV : Value) (hA : vA.cells = #[vA]) (hV : vV.cells = #[vV]) (w : World) :
    Calls Tryd.prog 22 (List.toArray [.pointer (some ⟨p, 0, none⟩), vA, vV]) w fun e w' => ∃ y : Nat × Nat × Nat, e = .returned (.agg #[phV (48, [.pointer (some ⟨y.2.1, 0, none⟩), .pointer (some ⟨y.1, 0, none⟩), .pointer (some ⟨y.2.2, 0, none⟩)])]) ∧ Rep w (feet []) [blk y.1 34 [.pointer (some ⟨p, 0, none⟩)], blk y.2.1 44 [vA], blk y.2.2 60 [vV]] w' := by
 refine enter (feet []) [] Tryd.func22 rfl Tryd.ntmps22 rfl ⟨by simp, by simp, by simp, Mod.refl _ _⟩ ?_
 simp only [envOf]
 refine tR (At.box rfl rfl rfl (fun b1 => (At.box rfl hA rfl (fun bA => (At.box rfl hV rfl (fun bV => (At.alloc Tryd.zeroValue64 rfl rfl (fun b2 => (tE (tR (tV (Val.makeFunc3 rfl rfl rfl ) rfl ?_)))))))))))
 refine tV (Val.build (fun a ha => by simp only [List.map_toArray, List.map_cons, List.map_nil, ha.eval (x := (.tmp 7)) rfl] <;> rfl) (bld_ph (_, _))) rfl (At.storeAll (i := 0) Tryd.sizeOf64 rfl rfl rfl (by simp [Value.oneCell', phV]) rfl rfl ?_)
 simp only [sc0, scS]
 refine tE (At.retC (At.ret1 (.inl rfl) rfl rfl (ResOf.all (i := 0) Tryd.isAgg64 Tryd.sizeOf64 rfl rfl rfl) (fun w hw => ?_)))
 exact ⟨(b1, bA, bV), rfl, Rep.pick hw [3, 2, 1] (by decide) rfl⟩
theorem writeP_n (p : Nat) (vA : Value) (hA : vA.cells = #[vA]) (w : World) :
    Calls Tryd.prog 19 (List.toArray [.pointer (some ⟨p, 0, none⟩), vA]) w fun e w' => ∃ y : Nat × Nat, e = .returned (.agg #[phV (38, [.pointer (some ⟨y.2, 0, none⟩), .pointer (some ⟨y.1, 0, none⟩)])]) ∧ Rep w (feet []) [blk y.1 34 [.pointer (some ⟨p, 0, none⟩)], blk y.2 44 [vA]] w' := by
 refine enter (feet []) [] Tryd.func19 rfl Tryd.ntmps19 rfl ⟨by simp, by simp, by simp, Mod.refl _ _⟩ ?_
 simp only [envOf]
 refine tR (At.box rfl rfl rfl (fun b1 => (At.box rfl hA rfl (fun bA => (At.alloc Tryd.zeroValue64 rfl rfl (fun b2 => (tE (tR (tV (Val.makeFunc2 rfl rfl ) rfl ?_)))))))))
 refine tV (Val.build (fun a ha => by simp only [List.map_toArray, List.map_cons, List.map_nil, ha.eval (x := (.tmp 5)) rfl] <;> rfl) (bld_ph (_, _))) rfl (At.storeAll (i := 0) Tryd.sizeOf64 rfl rfl rfl (by simp [Value.oneCell', phV]) rfl rfl ?_)
 simp only [sc0, scS]
 refine tE (At.retC (At.ret1 (.inl rfl) rfl rfl (ResOf.all (i := 0) Tryd.isAgg64 Tryd.sizeOf64 rfl rfl rfl) (fun w hw => ?_)))
 exact ⟨(b1, bA), rfl, Rep.pick hw [2, 1] (by decide) rfl⟩
end Go.Proofs.YtfchinibjhcejaaDoor
namespace Go.Proofs.YtfchinibjhcejaaDoor
open Go Go.Wk
theorem flat_at {As : List (List Ac)} {j : Nat} {A : List Ac} (h : As[j]? = some A) : (As.drop j).flatten = A ++ (As.drop (j + 1)).flatten := by
  have hj := List.getElem?_eq_some_iff.1 h
  rw [List.drop_eq_getElem_cons hj.1, hj.2]; rfl
theorem flat_take {As : List (List Ac)} {j : Nat} {A : List Ac} (h : As[j]? = some A) : (As.take (j + 1)).flatten.length = (As.take j).flatten.length + A.length := by
  rw [List.take_succ_of_get h, List.flatten_append, List.length_append]; simp
theorem flat_snoc {As : List (List Ac)} {j : Nat} {A : List Ac} (h : As[j]? = some A) : (As.take (j + 1)).flatten = (As.take j).flatten ++ A := by
  rw [List.take_succ_of_get h, List.flatten_append]; simp
theorem flat_le (As : List (List Ac)) (j : Nat) : (As.take j).flatten.length ≤ As.flatten.length := by
  have h := congrArg List.flatten (List.take_append_drop j As)
  rw [List.flatten_append] at h
  rw [← h, List.length_append]; omega
theorem run_d (p : Nat) (γ : Gh) (σ : Ds) (v : Value) (fs : List PhF) (As : List (List Ac)) (w : World) (hv : Rd w v 1 fs.length (fs.map phV)) (ho : Off v (fs.map phV) (feet [Dev p γ σ])) (hlen : As.length = fs.length) (hfs : fs.length ≤ 100) (hok : ∀ A ∈ As, ∀ a ∈ A, AcOk σ.ws.length a) (hcf : ∀ f ∈ fs, ∀ args w, (callFunc f.1 args).run Tryd.prog w = .ok (.enter f.1 args) w) (hph : ∀ (j : Nat) (f : PhF) (A : List Ac) (γ1 : Gh) (σ1 : Ds) (w1 : World), fs[j]? = some f → As[j]? = some A → σ1.ws.length = σ.ws.length → σ1.steps ≤ σ.steps + As.flatten.length → actsE σ (As.take j).flatten = (0, σ1) → Rep w (feet [Dev p γ σ]) [Dev p γ1 σ1] w1 → DevU Tryd.prog f.1 f.2 p γ1 σ1 (.int .i64 (actsE σ1 A).1) (actsE σ1 A).2 w1) (hd : (Dev p γ σ).holds w) :
    DevU Tryd.prog 18 [v] p γ σ (.int .i64 (actsE σ As.flatten).1) (actsE σ As.flatten).2 w := by
 refine enterVc hd Tryd.func18 rfl Tryd.ntmps18 rfl ?_
 have hgd := Dev.good hd
 simp only [envOf]
 refine tR (tA rfl rfl (tE (At.seq (tR (tM rfl rfl (tV (Val.lenRd hv Tryd.underlying70 rfl) rfl (tM rfl rfl (tE (At.block ?_)))))))))
 skip
 refine At.loop (σ := Nat × Ds × Gh) (fun s => s.1 ≤ fs.length ∧ actsE σ As.flatten = actsE s.2.1 (As.drop s.1).flatten ∧ s.2.1.ws.length = σ.ws.length ∧ s.2.1.steps ≤ σ.steps + (As.take s.1).flatten.length ∧ actsE σ (As.take s.1).flatten = (0, s.2.1)) (fun s => [(6, v), (7, .int .i64 (fs.length : Int)), (8, .int .i64 (s.1 : Int))]) (fun s => [Dev p s.2.2 s.2.1]) (fun s => fs.length - s.1) (0, σ, γ) ⟨Nat.zero_le _, rfl, rfl, by simp, rfl⟩ (Sub.cons rfl (Sub.cons rfl (Sub.cons rfl Sub.nil))) (List.Perm.refl _) ?_
 intro s hs
 obtain ⟨j, σ1, γ1⟩ := s
 dsimp only at hs ⊢
 obtain ⟨hj, hae, hl1, hs1, hpre⟩ := hs
 refine tR (tV (Val.bin rfl rfl rfl) rfl (tE (At.seq ?_)))
 refine At.cond rfl (fun h1 => ?_) (fun h1 => ?_)
 ·try simp only [hasB, isSizeB, sB] at h1
  refine At.skipC (At.thenN (At.seq (At.block (tR ?_))))
  obtain ⟨f, hf⟩ : ∃ f, fs[j]? = some f := ⟨_, List.getElem?_eq_getElem (by omega)⟩
  obtain ⟨A, hA⟩ : ∃ A, As[j]? = some A := ⟨_, List.getElem?_eq_getElem (by omega)⟩
  have hfl := flat_le As j
  refine At.idxVO (by rw [List.length_map]; exact hv) ho Tryd.underlying70 Tryd.sizeOf64 rfl rfl (show (fs.map phV)[j]? = some (phV f) by rw [List.getElem?_map, hf]; rfl) rfl rfl (fun bo oo hcc hox => ?_)
  refine tV (Val.loadOldPart (vs := [phV f]) Tryd.isAgg64 Tryd.sizeOf64 rfl rfl (fun m u hm => by match m, hm with | 0, hm => (obtain rfl := Option.some.inj hm; rw [Nat.add_zero]; exact hcc)) hox) rfl (At.alloc Tryd.zeroValue64 rfl rfl (fun b2 => (At.storeAll (i := 0) Tryd.sizeOf64 rfl rfl rfl (by simp [Value.oneCell', phV]) rfl rfl ?_)))
  simp only [sc0, scS]
  refine tE (tR (tV (Val.field 0 rfl fo_64_0 rfl) rfl (tV (Val.load (i := 0) Tryd.isAgg62 rfl rfl rfl) rfl ?_)))
  obtain ⟨σ2, hσ2⟩ : ∃ s, s = (actsE σ1 A).2 := ⟨_, rfl⟩
  obtain ⟨e2, he2⟩ : ∃ e, e = (actsE σ1 A).1 := ⟨_, rfl⟩
  obtain ⟨b1, b2, b3, _⟩ := actsE_rest A σ1 (by rw [hl1]; exact hok A (List.mem_of_getElem? hA))
  rw [← hσ2] at b1 b2 b3
  refine At.callVD 1 (f := f.1) (caps := f.2) rfl rfl (fun w hw => (by have h0 := hph j f A _ σ1 w hf hA hl1 (by omega) hpre (hw.drop (List.singleton_sublist.2 (List.mem_of_getElem? (i := 1) rfl))); rw [← hσ2, ← he2] at h0; exact h0)) (hcf f (List.mem_of_getElem? hf)) rfl rfl (fun γ2 => ?_)
  simp only [sc0, scS]
  refine tA rfl rfl (tE (tR (tM rfl rfl (tV (Val.bin rfl rfl rfl) rfl (tE ?_)))))
  refine At.cond rfl (fun h3 => ?_) (fun h3 => ?_)
  ·try simp only [hasB, isSizeB, sB] at h3
   refine tR (tM rfl rfl (tA rfl rfl (tE (At.retC (At.blkR (At.thenR (At.thenR (At.blkR (At.thenR (At.ret1 (.inl rfl) rfl rfl rfl (fun w hw => ?_)))))))))))
   have ea : actsE σ As.flatten = (e2, σ2) := by rw [hae, flat_at hA, actsE_stop (by have := actsE_01 A σ1; rw [← he2] at this ⊢; omega), he2, hσ2]
   rw [ea]
   exact ⟨_, rfl, hw.drop (List.singleton_sublist.2 (List.mem_of_getElem? (i := 1) rfl))⟩
  ·try simp only [hasB, isSizeB, sB] at h3
   refine At.skipC (At.blkN (At.thenN (At.region ?_)))
   first | refine tV (Val.addI rfl rfl (by omega) (by omega)) rfl ?_ | refine tV (Val.bin rfl rfl rfl) rfl ?_
   refine tM rfl rfl (tE (At.drop 0 ?_))
   simp only [ec0, ecS]
   exact At.again (j + 1, σ2, γ2) ⟨(show j + 1 ≤ _ by omega), by dsimp only; rw [hae, flat_at hA, actsE_go (by rw [← he2]; assumption), ← hσ2], b1.trans hl1, by dsimp only; rw [flat_take hA]; omega, by dsimp only; rw [flat_snoc hA, actsE_go (by rw [hpre]), hpre]; exact Prod.ext (by rw [← he2]; assumption) hσ2.symm⟩ (by dsimp only; omega) (Sub.cons rfl (Sub.cons rfl (Sub.cons (congrArg (fun z => some (Value.int IntKind.i64 z)) (by dsimp only; omega)) Sub.nil))) (List.Perm.refl _)
 ·try simp only [hasB, isSizeB, sB] at h1
  refine At.exitC (At.thenX (At.thenX (At.blkX (At.thenN (tR (tA rfl rfl (tE (At.retC (At.ret1 (.inl rfl) rfl rfl rfl (fun w hw => ?_))))))))))
  rw [List.drop_of_length_le (by omega)] at hae
  rw [show actsE σ As.flatten = (0, σ1) from hae]
  exact ⟨_, rfl, hw.drop (List.singleton_sublist.2 (List.mem_of_getElem? (i := 0) rfl))⟩
end Go.Proofs.YtfchinibjhcejaaDoor
namespace Go.Proofs.YtfchinibjhcejaaDoor
open Go Go.Wk
def page (l : List UInt8) : List UInt8 := (l.drop 512).take (1024 - 512)
def supK (l : List UInt8) : Option Nat := if 128 ≤ l.length ∧ HasSup l 0 then some 0 else if 128 ≤ l.length ∧ HasSup l 1 then some 1 else none
def supI (l : List UInt8) (k : Nat) : Int := ((num (lineAt l k) 12 4 : Nat) : Int)
theorem page_length {l : List UInt8} (h : 1024 ≤ l.length) : (page l).length = 512 := by unfold page; rw [List.length_take, List.length_drop]; omega
theorem isEmpty_k (p : Nat) (γ : Gh) (σ : Ds) (w : World) (ht : Tab w) (hf : ¬ feet [Dev p γ σ] 0) (hN : 128 ≤ σ.ws.length) (hd : (Dev p γ σ).holds w) :
    Upd Tryd.prog 17 [.pointer (some ⟨p, 0, none⟩)] (Dev p γ σ) (.bool (decide (openUnE (page (wbytes (viewWs σ.ws))) = 0 ∧ openUnL (page (wbytes (viewWs σ.ws))) = []))) (Dev p γ σ) w := by
 refine enterVc hd Tryd.func17 rfl Tryd.ntmps17 rfl ?_
 have hgd := Dev.good hd
 have hln := hgd.len
 have hXl : (wbytes (viewWs σ.ws)).length = 8 * σ.ws.length := by rw [wbytes_length, viewWs, List.length_map]
 simp only [envOf]
 refine tR (tA rfl rfl (tE (tR (tM rfl rfl (At.callRKT 0 rfl (fun w hw hr => read_s _ _ σ 512 512 w (by omega) hr) Tryd.call36 rfl rfl (fun v1 => ?_))))))
 change At _ _ (rowR v1 5 1 (page (wbytes (viewWs σ.ws))).length ((page (wbytes (viewWs σ.ws))).map bv) :: _) _
 refine tM rfl rfl (tV (Val.extract rfl rfl) rfl (tV (Val.extract rfl rfl) rfl (tA rfl rfl (tA rfl rfl (tE (At.seq (tR (tM rfl rfl (tV (Val.bin rfl rfl rfl) rfl (tE (At.condF rfl (At.skipC (At.thenN (tR (tM rfl rfl ?_)))))))))))))))
 refine At.callNT (g := (fun v => .tuple #[v, .int .i64 (openUnE (page (wbytes (viewWs σ.ws))))])) (fun w hw => openUn_n _ _ w (ht.modS hw.mod hf) (row_rd (hw.row (i := 0) rfl) (by decide)) (by first | omega | (rw [page_length (by omega)]; omega))) Tryd.call37 rfl rfl (fun v2 => (tM rfl rfl (tV (Val.extract rfl rfl) rfl (tV (Val.extract rfl rfl) rfl (tA rfl rfl (tA rfl rfl (tE (tR (At.weaken [(0, _), (2, _), (7, _), (8, _), (6, _), (9, _), (10, _), (3, _), (4, _), (11, _), (12, _), (14, _), (15, _), (13, _), (16, _), (17, _), (5, _)] (Sub.cons rfl (Sub.cons rfl (Sub.cons rfl (Sub.cons rfl (Sub.cons rfl (Sub.cons rfl (Sub.cons rfl (Sub.cons rfl (Sub.cons rfl (Sub.cons rfl (Sub.cons rfl (Sub.cons rfl (Sub.cons rfl (Sub.cons rfl (Sub.cons rfl (Sub.cons rfl (Sub.cons rfl Sub.nil))))))))))))))))) ?_)))))))))
 refine At.boolMeet 7 24 (decide (openUnE (page (wbytes (viewWs σ.ws))) = 0 ∧ openUnL (page (wbytes (viewWs σ.ws))) = [])) ?_ ?_
 ·simp only [List.take_succ_cons, List.take_zero]
  refine tM rfl rfl (tV (Val.bin rfl rfl rfl) rfl (tM rfl rfl ?_))
  refine At.split (t := 20) rfl (fun h3 => ?_) (fun h3 => ?_)
  ·try simp only [hasB, isSizeB, sB] at h3
   refine At.yes rfl rfl (tM rfl rfl (At.yes rfl rfl (tV (Val.lenRow (i := 0) Tryd.underlying25 rfl rfl) rfl (At.yes rfl rfl (tV (Val.bin rfl rfl rfl) rfl (tV (Val.pickT rfl rfl) rfl (At.nil ?_)))))))
   exact At.boolEnd rfl (by apply Bool.eq_iff_iff.2; (simp only [decide_eq_true_eq, Bool.false_eq_true, false_iff, true_iff, beq_iff_eq]) <;> first | exact ⟨fun g => ⟨by assumption, List.eq_nil_of_length_eq_zero (by omega)⟩, fun g => by rw [g.2]; rfl⟩ | exact fun g => absurd g.1 (by assumption)) (by repeat (first | exact Sub.nil | refine Sub.cons rfl ?_))
  ·try simp only [hasB, isSizeB, sB] at h3
   refine At.no rfl rfl rfl rfl (At.no rfl rfl rfl rfl (At.no rfl rfl rfl rfl (tV (Val.pickF rfl rfl) rfl (At.nil ?_))))
   exact At.boolEnd rfl (by apply Bool.eq_iff_iff.2; (simp only [decide_eq_true_eq, Bool.false_eq_true, false_iff, true_iff, beq_iff_eq]) <;> first | exact ⟨fun g => ⟨by assumption, List.eq_nil_of_length_eq_zero (by omega)⟩, fun g => by rw [g.2]; rfl⟩ | exact fun g => absurd g.1 (by assumption)) (by repeat (first | exact Sub.nil | refine Sub.cons rfl ?_))
 ·simp only [List.drop_succ_cons, List.drop_zero]
  refine tA rfl rfl (tE (At.retC (At.ret1 (.inl rfl) rfl rfl rfl (fun w hw => ?_))))
  exact ⟨rfl, hw.drop (List.singleton_sublist.2 (List.mem_of_getElem? (i := 2) rfl))⟩
end Go.Proofs.YtfchinibjhcejaaDoor
namespace Go.Proofs.YtfchinibjhcejaaDoor
open Go Go.Wk
theorem Rep.off0 {w0 w : World} {S : Nat → Prop} {H : List Res} {i : Nat} {r : Res} (hw : Rep w0 S H w) (ht : Tab w0) (hf : ¬ S 0) (hi : H[i]? = some r) : ¬ feet [r] 0 := fun ⟨q, hq, hb⟩ => by
  rw [List.mem_singleton.1 hq] at hb
  rcases hw.mine r (List.mem_of_getElem? hi) 0 hb with h | h
  · have := ht.old; omega
  · exact hf h
theorem Rep.offBlk {w0 w : World} {S : Nat → Prop} {H : List Res} {i j b T : Nat} {cs : List Value} {r : Res} (hw : Rep w0 S H w) (hi : H[i]? = some (blk b T cs)) (hj : H[j]? = some r) (hij : i ≠ j) : ¬ feet [r] b := fun ⟨q, hq, hb⟩ => by
  rw [List.mem_singleton.1 hq] at hb
  have hi' := List.getElem?_eq_some_iff.1 hi
  have hj' := List.getElem?_eq_some_iff.1 hj
  have hp := List.pairwise_iff_getElem.1 hw.sep
  have hf : (blk b T cs : Res).foot b := rfl
  rcases Nat.lt_or_gt_of_ne hij with h | h
  · have := hp i j hi'.1 hj'.1 h
    rw [hi'.2, hj'.2] at this
    exact this b hf hb
  · have := hp j i hj'.1 hi'.1 h
    rw [hi'.2, hj'.2] at this
    exact this b hb hf
def CellAt (w : World) (p : Nat) (γ : Gh) (σ : Ds) (b : Nat) (u : Value) : Prop := w.cell? ⟨b, 0, none⟩ = some u ∧ ¬ feet [Dev p γ σ] b
theorem CellAt.of {w0 w : World} {S : Nat → Prop} {H : List Res} {i j b T p : Nat} {γ : Gh} {σ : Ds} {u : Value} (hw : Rep w0 S H w) (hi : H[i]? = some (blk b T [u])) (hj : H[j]? = some (Dev p γ σ)) (hij : i ≠ j) : CellAt w p γ σ b u := ⟨(hw.blk hi).cell 0, Rep.offBlk hw hi hj hij⟩
theorem CellAt.on {w w1 : World} {p : Nat} {γ γ1 : Gh} {σ σ1 : Ds} {b : Nat} {u : Value} (h : CellAt w p γ σ b u) (hr : Rep w (feet [Dev p γ σ]) [Dev p γ1 σ1] w1) : CellAt w1 p γ1 σ1 b u := Rep.still hr h.1 h.2 (i := 0) rfl
def stoA (k : Nat) (x : BitVec 64) : List Ac := .st k x :: stlA [k]
def comL (σ : Ds) (ks : List Nat) (xs : List (BitVec 64)) : List (List Ac) := [wrA (recW σ ks), stoA 64 (sealW (BitVec.ofInt 64 512) (BitVec.ofInt 32 (ks.length : Int))), chA ks xs, stoA 64 0]
theorem stoA_ok {k n : Nat} {x : BitVec 64} (h : k < n) : ∀ a ∈ stoA k x, AcOk n a := by
  intro a ha
  rcases List.mem_cons.1 ha with rfl | ha
  · exact h
  · exact stlA_ok (ks := [k]) (fun k' hk' => by rw [List.mem_singleton.1 hk']; exact h) a ha
theorem chA_ok {ks : List Nat} {xs : List (BitVec 64)} {n : Nat} (h : ∀ k ∈ ks, k < n) : ∀ a ∈ chA ks xs, AcOk n a := by
  intro a ha
  unfold chA at ha
  rcases List.mem_append.1 ha with ha | ha
  · obtain ⟨c, hc, rfl⟩ := List.mem_map.1 ha
    exact h c.1 (List.of_mem_zip hc).1
  · exact stlA_ok h a ha
theorem wrA_ok {W : List (BitVec 64)} {n : Nat} (hW : W.length ≤ 16) (hn : 128 ≤ n) : ∀ a ∈ wrA W, AcOk n a := by
  intro a ha
  unfold wrA wrB at ha
  rcases List.mem_append.1 ha with ha | ha
  · exact stA_ok W 72 (by omega) a ha
  rcases List.mem_cons.1 ha with rfl | ha
  · show 65 < n; omega
  rcases List.mem_append.1 ha with ha | ha
  · have := cnt_le (a := 512) (n := 64 + 8 * W.length)
    exact flA_ok _ 8 (by omega) a ha
  · rw [List.mem_singleton.1 ha]; trivial
theorem stlA_le (ks : List Nat) : (stlA ks).length ≤ ks.length + 1 := by rw [stlA_len]; have := lnL_len ks; omega
theorem chA_le {ks : List Nat} (xs : List (BitVec 64)) : (chA ks xs).length ≤ 2 * ks.length + 1 := by
  have h1 := stlA_le ks
  unfold chA
  rw [List.length_append, List.length_map, List.length_zip]; omega
theorem stoA_le (k : Nat) (x : BitVec 64) : (stoA k x).length ≤ 3 := by
  have h1 := stlA_le [k]
  show (_ :: stlA [k]).length ≤ 3
  rw [List.length_cons]; simp only [List.length_singleton] at h1; omega
theorem wrA_le {W : List (BitVec 64)} (hW : W.length ≤ 16) : (wrA W).length ≤ 25 := by
  have := cnt_le (a := 512) (n := 64 + 8 * W.length)
  unfold wrA wrB
  rw [List.length_append, stA_len, List.length_cons, List.length_append, flA_len, List.length_singleton]; omega
abbrev ptV (b : Nat) : Value := .pointer (some ⟨b, 0, none⟩)
theorem change_ph {p : Nat} {γ γ1 : Gh} {σ σ1 : Ds} {bA bD bV : Nat} {vA vV : Value} {ks : List Nat} {xs : List (BitVec 64)} {w w1 : World} (cA : CellAt w p γ σ bA vA) (cD : CellAt w p γ σ bD (ptV p)) (cV : CellAt w p γ σ bV vV) (hvA : RdI w vA (ks.map adF)) (hoA : Off vA ((ks.map adF).map (Value.int .i64)) (feet [Dev p γ σ])) (hvV : RdW w vV xs) (hoV : Off vV (xs.map b64) (feet [Dev p γ σ])) (hxl : xs.length = ks.length) (hk : ∀ k ∈ ks, k < σ.ws.length) (hn : ks.length ≤ 8)
    (hl : σ1.ws.length = σ.ws.length) (hst : σ1.steps + 60 ≤ 1099511627776) (hr : Rep w (feet [Dev p γ σ]) [Dev p γ1 σ1] w1) : DevU Tryd.prog 48 [ptV bA, ptV bD, ptV bV] p γ1 σ1 (.int .i64 (actsE σ1 (chA ks xs)).1) (actsE σ1 (chA ks xs)).2 w1 := by
  have hm := List.mem_of_getElem? (l := [Dev p γ1 σ1]) (i := 0) rfl
  exact change1_d p γ1 σ1 bA bD bV vA vV ks xs w1 (cA.on hr).1 (cA.on hr).2 (cD.on hr).1 (cD.on hr).2 (cV.on hr).1 (cV.on hr).2 (Rd.keep hvA hr hoA) (Rep.offOld hr hvA hoA hm) (Rd.keep hvV hr hoV) (Rep.offOld hr hvV hoV hm) hxl (fun k h => by rw [hl]; exact hk k h) (by omega) (by omega) (hr.all _ hm)
theorem store_ph {p : Nat} {γ γ1 : Gh} {σ σ1 : Ds} {bD bA bV : Nat} {x : BitVec 64} {w w1 : World} (cD : CellAt w p γ σ bD (ptV p)) (cA : CellAt w p γ σ bA (.int .i64 512)) (cV : CellAt w p γ σ bV (b64 x)) (hN : 512 ≤ σ.ws.length)
    (hl : σ1.ws.length = σ.ws.length) (hst : σ1.steps + 60 ≤ 1099511627776) (hr : Rep w (feet [Dev p γ σ]) [Dev p γ1 σ1] w1) : DevU Tryd.prog 45 [ptV bD, ptV bA, ptV bV] p γ1 σ1 (.int .i64 (actsE σ1 (stoA 64 x)).1) (actsE σ1 (stoA 64 x)).2 w1 := by
  have hm := List.mem_of_getElem? (l := [Dev p γ1 σ1]) (i := 0) rfl
  exact store1_d p γ1 σ1 bD bA bV 64 x w1 (cD.on hr).1 (cD.on hr).2 (cA.on hr).1 (cA.on hr).2 (cV.on hr).1 (cV.on hr).2 (by omega) (by omega) (hr.all _ hm)
theorem write_ph {p : Nat} {γ γ1 : Gh} {σ σ1 : Ds} {bA bD : Nat} {vA : Value} {ks : List Nat} {w w1 : World} (ht : Tab w) (hf : ¬ feet [Dev p γ σ] 0) (cA : CellAt w p γ σ bA vA) (cD : CellAt w p γ σ bD (ptV p)) (hvA : RdI w vA (ks.map adF)) (hoA : Off vA ((ks.map adF).map (Value.int .i64)) (feet [Dev p γ σ])) (hk : ∀ k ∈ ks, k < σ.ws.length) (hn : ks.length ≤ 8) (hN : 512 ≤ σ.ws.length)
    (hl : σ1.ws.length = σ.ws.length) (hst : σ1.steps + 60 ≤ 1099511627776) (hr : Rep w (feet [Dev p γ σ]) [Dev p γ1 σ1] w1) : DevU Tryd.prog 38 [ptV bA, ptV bD] p γ1 σ1 (.int .i64 (actsE σ1 (wrA (recW σ1 ks))).1) (actsE σ1 (wrA (recW σ1 ks))).2 w1 := by
  have hm := List.mem_of_getElem? (l := [Dev p γ1 σ1]) (i := 0) rfl
  exact write1_d p γ1 σ1 bA bD vA ks w1 (ht.modS hr.mod hf) (Rep.off0 hr ht hf (i := 0) rfl) (cA.on hr).1 (cA.on hr).2 (cD.on hr).1 (cD.on hr).2 (Rd.keep hvA hr hoA) (Rep.offOld hr hvA hoA hm) (fun k h => by rw [hl]; exact hk k h) hn (by omega) (by omega) (hr.all _ hm)
theorem call_ph (f : PhF) (h : f.1 = 38 ∨ f.1 = 45 ∨ f.1 = 48) : ∀ args w, (callFunc f.1 args).run Tryd.prog w = .ok (.enter f.1 args) w := by
  rcases h with h | h | h <;> rw [h]
  · exact Tryd.call38
  · exact Tryd.call45
  · exact Tryd.call48
theorem comL_le {σ : Ds} {ks : List Nat} {xs : List (BitVec 64)} (hn : ks.length ≤ 8) : (comL σ ks xs).flatten.length ≤ 60 := by
  have h1 := wrA_le (W := recW σ ks) (by rw [recW_len]; omega)
  have h2 := stoA_le 64 (sealW (BitVec.ofInt 64 512) (BitVec.ofInt 32 (ks.length : Int)))
  have h3 := chA_le (ks := ks) xs
  have h4 := stoA_le 64 0
  unfold comL
  simp only [List.flatten_cons, List.flatten_nil, List.length_append, List.length_nil]; omega
def fsC (bA1 bD1 bD2 bA2 bV2 bA3 bD3 bV3 bD4 bA4 bV4 : Nat) : List PhF := [(38, [ptV bA1, ptV bD1]), (45, [ptV bD2, ptV bA2, ptV bV2]), (48, [ptV bA3, ptV bD3, ptV bV3]), (45, [ptV bD4, ptV bA4, ptV bV4])]
theorem run_com {p : Nat} {γ : Gh} {σ : Ds} {v vA vV : Value} {bA1 bD1 bD2 bA2 bV2 bA3 bD3 bV3 bD4 bA4 bV4 : Nat} {ks : List Nat} {xs : List (BitVec 64)} {w : World} (ht : Tab w) (hf : ¬ feet [Dev p γ σ] 0) (hv : Rd w v 1 4 ((fsC bA1 bD1 bD2 bA2 bV2 bA3 bD3 bV3 bD4 bA4 bV4).map phV)) (ho : Off v ((fsC bA1 bD1 bD2 bA2 bV2 bA3 bD3 bV3 bD4 bA4 bV4).map phV) (feet [Dev p γ σ]))
    (c1 : CellAt w p γ σ bA1 vA) (c2 : CellAt w p γ σ bD1 (ptV p)) (c3 : CellAt w p γ σ bD2 (ptV p)) (c4 : CellAt w p γ σ bA2 (.int .i64 512)) (c5 : CellAt w p γ σ bV2 (b64 (sealW (BitVec.ofInt 64 512) (BitVec.ofInt 32 (ks.length : Int))))) (c6 : CellAt w p γ σ bA3 vA) (c7 : CellAt w p γ σ bD3 (ptV p)) (c8 : CellAt w p γ σ bV3 vV) (c9 : CellAt w p γ σ bD4 (ptV p)) (c10 : CellAt w p γ σ bA4 (.int .i64 512)) (c11 : CellAt w p γ σ bV4 (b64 0))
    (hvA : RdI w vA (ks.map adF)) (hoA : Off vA ((ks.map adF).map (Value.int .i64)) (feet [Dev p γ σ])) (hvV : RdW w vV xs) (hoV : Off vV (xs.map b64) (feet [Dev p γ σ])) (hxl : xs.length = ks.length) (hk : ∀ k ∈ ks, k < σ.ws.length) (hn : ks.length ≤ 8) (hN : 512 ≤ σ.ws.length) (hst : σ.steps + 200 ≤ 1099511627776) (hd : (Dev p γ σ).holds w) :
    DevU Tryd.prog 18 [v] p γ σ (.int .i64 (actsE σ (comL σ ks xs).flatten).1) (actsE σ (comL σ ks xs).flatten).2 w := by
  have hle := comL_le (σ := σ) (xs := xs) hn
  refine run_d p γ σ v (fsC bA1 bD1 bD2 bA2 bV2 bA3 bD3 bV3 bD4 bA4 bV4) (comL σ ks xs) w hv ho rfl (show 4 ≤ 100 by decide) ?_ ?_ ?_ hd
  · intro A hA
    unfold comL at hA
    simp only [List.mem_cons, List.not_mem_nil, or_false] at hA
    rcases hA with rfl | rfl | rfl | rfl
    · exact wrA_ok (by rw [recW_len]; omega) (by omega)
    · exact stoA_ok (by omega)
    · exact chA_ok hk
    · exact stoA_ok (by omega)
  · intro f hf
    refine call_ph f ?_
    unfold fsC at hf
    simp only [List.mem_cons, List.not_mem_nil, or_false] at hf
    rcases hf with rfl | rfl | rfl | rfl
    · exact .inl rfl
    · exact .inr (.inl rfl)
    · exact .inr (.inr rfl)
    · exact .inr (.inl rfl)
  · intro j f A γ1 σ1 w1 hf' hA hl hs hp hr
    match j, hf', hA, hp with
    | 0, hf', hA, hp =>
      obtain rfl := Option.some.inj hf'
      obtain rfl := Option.some.inj hA
      have e : σ1 = σ := (congrArg Prod.snd hp).symm
      subst e
      exact write_ph ht hf c1 c2 hvA hoA hk hn hN hl (by omega) hr
    | 1, hf', hA, _ =>
      obtain rfl := Option.some.inj hf'
      obtain rfl := Option.some.inj hA
      exact store_ph c3 c4 c5 hN hl (by omega) hr
    | 2, hf', hA, _ =>
      obtain rfl := Option.some.inj hf'
      obtain rfl := Option.some.inj hA
      exact change_ph c6 c7 c8 hvA hoA hvV hoV hxl hk hn hl (by omega) hr
    | 3, hf', hA, _ =>
      obtain rfl := Option.some.inj hf'
      obtain rfl := Option.some.inj hA
      exact store_ph c9 c10 c11 hN hl (by omega) hr
    | j + 4, hf', _, _ => cases hf'
end Go.Proofs.YtfchinibjhcejaaDoor
namespace Go.Proofs.YtfchinibjhcejaaDoor
open Go Go.Wk
theorem At.idxPO {P : Program} {Γ : Ctx} {E : Env} {H : List Res} {ops : Array Oper} {Q : Exit → Act → World → Prop} {rest : List Oper} {d : Nat} {ty : TypeId} {pos : String} {after : Array Edge} {x y : Operand} {v : Value} {t el j : Nat} {l : List (Int × BitVec 64)} {k : IntKind} {z : Int × BitVec 64} {g : Option (Nat × Bool)} (h : RdP Γ.w0 v l) (ho : Off v (prC l) Γ.S) (hu : P.underlying t = some (.slice el)) (hs : ∀ w, (sizeOf el).run P w = .ok 2 w) (hx : ev E x = some v) (hy : ev E y = some (.int k (j : Int))) (hz : l[j]? = some z)
    (hg : g = none) (hn : Nat.blt d Γ.n = true)
    (c : ∀ b o, Γ.w0.cell? ⟨b, o, none⟩ = some (.int .i64 z.1) → Γ.w0.cell? ⟨b, o + 1, none⟩ = some (b64 z.2) → ¬ Γ.S b → At Γ ((d, .pointer (some ⟨b, o, none⟩)) :: E) H (wpList P ops Q rest)) :
    At Γ E H (wpList P ops Q ({ dst := some d, op := .indexAddr t x y, type := ty, pos, after, guard := g } :: rest)) := by
  have hj := (List.getElem?_eq_some_iff.1 hz).1
  obtain ⟨b, o, cap, rfl, hc⟩ := h.at (j := j) hj
  have hp := prC_at hz
  exact At.val (Val.indexSl _ rfl hu hs hx hy (by omega) (by omega)) hg rfl hn (c b _ (by have := hc 0 _ (by rw [Nat.add_zero]; exact hp.1); rwa [Nat.add_zero] at this) (hc 1 _ hp.2) (ho (fun e => by rw [e] at hp; cases hp.1) b _ _ _ _ rfl))
def ksOf (cs : List (Int × BitVec 64)) : List Nat := cs.map fun q => (q.1 / 8).toNat
theorem ksOf_len (cs : List (Int × BitVec 64)) : (ksOf cs).length = cs.length := List.length_map ..
theorem ks_ad {cs : List (Int × BitVec 64)} {i : Int} (h : ∀ q ∈ cs, TW q.1 i) : cs.map Prod.fst = (ksOf cs).map adF := by
  unfold ksOf
  rw [List.map_map]
  refine List.map_congr_left fun q hq => ?_
  have := h q hq
  unfold TW at this
  show q.1 = 8 * (((q.1 / 8).toNat : Nat) : Int)
  omega
theorem ks_lt {cs : List (Int × BitVec 64)} {i : Int} {n : Nat} (h : ∀ q ∈ cs, TW q.1 i) (hn : 2048 + 64 * i ≤ 8 * (n : Int)) : ∀ k ∈ ksOf cs, k < n := by
  intro k hk
  obtain ⟨q, hq, rfl⟩ := List.mem_map.1 hk
  have := h q hq
  unfold TW at this
  omega
theorem pl_all {i : Int} {cs : List (Int × BitVec 64)} (h : PlK i cs cs.length) : ∀ q ∈ cs, TW q.1 i := fun q hq => by
  obtain ⟨j, hj⟩ := List.getElem?_of_mem hq
  exact (h j q (List.getElem?_eq_some_iff.1 hj).1 hj).1
theorem snd_snoc {cs : List (Int × BitVec 64)} {k : Nat} {q : Int × BitVec 64} (h : cs[k]? = some q) : (cs.take (k + 1)).map Prod.snd = (cs.take k).map Prod.snd ++ [q.2] := by rw [List.take_succ_of_get h, List.map_append]; rfl
noncomputable def comE (σ : Ds) (sp si sc sd : Int) (cs : List (Int × BitVec 64)) : Int × Ds :=
  if ¬ (GoodSup sp si sc ∧ sd = 4 + si / 8 ∧ 8 * (σ.ws.length : Int) = 512 * sp) then (30, σ) else if cs.length = 0 ∨ 8 < cs.length then (41, σ) else if ¬ PlK si cs cs.length then (40, σ)
  else if ¬ (openUnE (page (wbytes (viewWs σ.ws))) = 0 ∧ openUnL (page (wbytes (viewWs σ.ws))) = []) then (35, σ) else actsE σ (comL σ (ksOf cs) (cs.map Prod.snd)).flatten
variable {σ : Ds} {sp si sc sd : Int} {cs : List (Int × BitVec 64)}
theorem com_30 (h : ¬ (GoodSup sp si sc ∧ sd = 4 + si / 8 ∧ 8 * (σ.ws.length : Int) = 512 * sp)) : comE σ sp si sc sd cs = (30, σ) := if_pos h
theorem com_41 (h : GoodSup sp si sc ∧ sd = 4 + si / 8 ∧ 8 * (σ.ws.length : Int) = 512 * sp) (h1 : cs.length = 0 ∨ 8 < cs.length) : comE σ sp si sc sd cs = (41, σ) := by unfold comE; rw [if_neg (fun g => g h), if_pos h1]
theorem com_40 (h : GoodSup sp si sc ∧ sd = 4 + si / 8 ∧ 8 * (σ.ws.length : Int) = 512 * sp) (h1 : ¬ (cs.length = 0 ∨ 8 < cs.length)) (h2 : ¬ PlK si cs cs.length) : comE σ sp si sc sd cs = (40, σ) := by unfold comE; rw [if_neg (fun g => g h), if_neg h1, if_pos h2]
theorem com_35 (h : GoodSup sp si sc ∧ sd = 4 + si / 8 ∧ 8 * (σ.ws.length : Int) = 512 * sp) (h1 : ¬ (cs.length = 0 ∨ 8 < cs.length)) (h2 : PlK si cs cs.length) (h3 : ¬ (openUnE (page (wbytes (viewWs σ.ws))) = 0 ∧ openUnL (page (wbytes (viewWs σ.ws))) = [])) : comE σ sp si sc sd cs = (35, σ) := by unfold comE; rw [if_neg (fun g => g h), if_neg h1, if_neg (fun g => g h2), if_pos h3]
theorem com_go (h : GoodSup sp si sc ∧ sd = 4 + si / 8 ∧ 8 * (σ.ws.length : Int) = 512 * sp) (h1 : ¬ (cs.length = 0 ∨ 8 < cs.length)) (h2 : PlK si cs cs.length) (h3 : openUnE (page (wbytes (viewWs σ.ws))) = 0 ∧ openUnL (page (wbytes (viewWs σ.ws))) = []) : comE σ sp si sc sd cs = actsE σ (comL σ (ksOf cs) (cs.map Prod.snd)).flatten := by unfold comE; rw [if_neg (fun g => g h), if_neg h1, if_neg (fun g => g h2), if_neg (fun g => g h3)]
theorem commit_d (p : Nat) (γ : Gh) (σ : Ds) (sp si sc sd : Int) (v : Value) (cs : List (Int × BitVec 64)) (w : World) (ht : Tab w) (hf : ¬ feet [Dev p γ σ] 0) (hv : RdP w v cs) (hoV : Off v (prC cs) (feet [Dev p γ σ])) (hb : ∀ q ∈ cs, -9223372036854775808 ≤ q.1 ∧ q.1 ≤ 9223372036854775807) (hcl : cs.length ≤ 140737488355328) (hst : σ.steps + 200 ≤ 1099511627776) (hd : (Dev p γ σ).holds w) :
    DevU Tryd.prog 8 [.pointer (some ⟨p, 0, none⟩), .agg #[.int .i64 sp, .int .i64 si, .int .i64 sc, .int .i64 sd], v] p γ σ (.int .i64 (comE σ sp si sc sd cs).1) (comE σ sp si sc sd cs).2 w := by
 refine enterVc hd Tryd.func8 rfl Tryd.ntmps8 rfl ?_
 have hgd := Dev.good hd
 have hln := hgd.len
 simp only [envOf]
 refine tR (At.box rfl rfl rfl (fun b1 => (tA rfl rfl (tE (At.seq (tR (tM rfl rfl (tV (Val.loadAll (i := 0) Tryd.isAgg31 Tryd.sizeOf31 rfl rfl rfl) rfl (At.callK 1 rfl (fun w hw hr => fits_k _ _ σ _ _ _ _ w hr) Tryd.call15 rfl rfl (tV (Val.not rfl) rfl (tE ?_)))))))))))
 refine At.cond rfl (fun h2 => ?_) (fun h2 => ?_)
 ·try simp only [hasB, isSizeB, sB] at h2
  have hX := h2
  refine tR (tA rfl rfl (tE (At.retC (At.thenR (At.ret1 (.inl rfl) rfl rfl rfl (fun w hw => ?_))))))
  rw [com_30 hX]
  exact ⟨_, rfl, hw.drop (List.singleton_sublist.2 (List.mem_of_getElem? (i := 1) rfl))⟩
 ·try simp only [hasB, isSizeB, sB] at h2
  have hX := h2
  obtain ⟨hg, hsd, hN⟩ := hX
  have hX := (show GoodSup sp si sc ∧ sd = 4 + si / 8 ∧ 8 * (σ.ws.length : Int) = 512 * sp from ⟨hg, hsd, hN⟩)
  have hg2 := hg
  unfold GoodSup at hg2
  refine At.skipC (At.thenN (At.seq (tR (At.weaken [(0, _), (1, _), (2, _), (4, _), (6, _), (12, _), (13, _), (14, _), (15, _)] (Sub.cons rfl (Sub.cons rfl (Sub.cons rfl (Sub.cons rfl (Sub.cons rfl (Sub.cons rfl (Sub.cons rfl (Sub.cons rfl (Sub.cons rfl Sub.nil))))))))) ?_))))
  refine At.boolMeet 8 23 (decide (cs.length = 0 ∨ 8 < cs.length)) ?_ ?_
  ·simp only [List.take_succ_cons, List.take_zero]
   refine tM rfl rfl (tV (Val.lenRd hv Tryd.underlying24 rfl) rfl (tV (Val.bin rfl rfl rfl) rfl (tM rfl rfl ?_)))
   refine At.split (t := 19) rfl (fun h3 => ?_) (fun h3 => ?_)
   ·try simp only [hasB, isSizeB, sB] at h3
    refine At.no rfl rfl rfl rfl (At.no rfl rfl rfl rfl (At.no rfl rfl rfl rfl (tV (Val.pickT rfl rfl) rfl (At.nil ?_))))
    exact At.boolEnd rfl (by apply Bool.eq_iff_iff.2; (simp only [decide_eq_true_eq, Bool.false_eq_true, false_iff, true_iff, iff_true, iff_false, gt_iff_lt, ge_iff_le, beq_iff_eq, bne_iff_ne, ne_eq]) <;> omega) (by repeat (first | exact Sub.nil | refine Sub.cons rfl ?_))
   ·try simp only [hasB, isSizeB, sB] at h3
    refine At.yes rfl rfl (tM rfl rfl (At.yes rfl rfl (tV (Val.lenRd hv Tryd.underlying24 rfl) rfl (At.yes rfl rfl (tV (Val.bin rfl rfl rfl) rfl (tV (Val.pickF rfl rfl) rfl (At.nil ?_)))))))
    exact At.boolEnd rfl (by apply Bool.eq_iff_iff.2; (simp only [decide_eq_true_eq, Bool.false_eq_true, false_iff, true_iff, iff_true, iff_false, gt_iff_lt, ge_iff_le, beq_iff_eq, bne_iff_ne, ne_eq]) <;> omega) (by repeat (first | exact Sub.nil | refine Sub.cons rfl ?_))
  ·simp only [List.drop_succ_cons, List.drop_zero]
   refine tE ?_
   refine At.cond rfl (fun h4 => ?_) (fun h4 => ?_)
   ·try simp only [hasB, isSizeB, sB] at h4
    refine tR (tA rfl rfl (tE (At.retC (At.thenR (At.ret1 (.inl rfl) rfl rfl rfl (fun w hw => ?_))))))
    rw [com_41 hX (by assumption)]
    exact ⟨_, rfl, hw.drop (List.singleton_sublist.2 (List.mem_of_getElem? (i := 1) rfl))⟩
   ·try simp only [hasB, isSizeB, sB] at h4
    refine At.skipC (At.thenN (tR (tV (Val.loadAll (i := 0) Tryd.isAgg31 Tryd.sizeOf31 rfl rfl rfl) rfl (tM rfl rfl (At.callNT (g := (fun v => .tuple #[v, .int .i64 (plE si cs)])) (fun w hw => places_n _ _ _ _ v cs w (Rd.keep hv hw hoV) (by omega) hb (by omega)) Tryd.call16 rfl rfl (fun v5 => ?_))))))
    by_cases hpl : PlK si cs cs.length
    ·obtain ⟨x1, x2⟩ := pl_yes hpl
     have hka := ks_ad (pl_all hpl)
     rw [x1, x2, hka]
     refine tM rfl rfl (tV (Val.extract rfl rfl) rfl (tV (Val.extract rfl rfl) rfl (tA rfl rfl (tA rfl rfl (tE (At.seq (tR (tM rfl rfl (tV (Val.bin rfl rfl rfl) rfl (tE (At.condF rfl (At.skipC (At.thenN (At.seq (tR (tM rfl rfl (At.callK 2 rfl (fun w hw hr => isEmpty_k _ _ σ w (ht.modS hw.mod hf) (Rep.off0 hw ht hf (i := 2) rfl) (by omega) hr) Tryd.call17 rfl rfl (tV (Val.not rfl) rfl (tE ?_)))))))))))))))))))
     refine At.cond rfl (fun h6 => ?_) (fun h6 => ?_)
     ·try simp only [hasB, isSizeB, sB] at h6
      refine tR (tA rfl rfl (tE (At.retC (At.thenR (At.ret1 (.inl rfl) rfl rfl rfl (fun w hw => ?_))))))
      rw [com_35 hX (by assumption) hpl (by assumption)]
      exact ⟨_, rfl, hw.drop (List.singleton_sublist.2 (List.mem_of_getElem? (i := 2) rfl))⟩
     ·try simp only [hasB, isSizeB, sB] at h6
      refine At.skipC (At.thenN (tR (tA rfl rfl (At.nil (At.rowNilW 38 (At.thenN (At.seq (tR (tM rfl rfl (tV (Val.lenRd hv Tryd.underlying24 rfl) rfl (tM rfl rfl (tE (At.block ?_)))))))))))))
      skip
      refine At.loop (σ := Nat × Value) (fun s => s.1 ≤ cs.length) (fun s => [(0, .pointer (some ⟨p, 0, none⟩)), (7, v5), (9, s.2), (36, v), (37, .int .i64 (cs.length : Int)), (38, .int .i64 (s.1 : Int))]) (fun s => [wrow 38 s.2 ((cs.take s.1).map Prod.snd), rowR v5 3 1 ((((ksOf cs).map adF)).length) ((((ksOf cs).map adF)).map (Value.int .i64)), blk b1 31 ([.int .i64 sp, .int .i64 si, .int .i64 sc, .int .i64 sd]), Dev p γ (σ)]) (fun s => cs.length - s.1) (0, .slice none 0 0) (Nat.zero_le _) (Sub.cons rfl (Sub.cons rfl (Sub.cons rfl (Sub.cons rfl (Sub.cons rfl (Sub.cons rfl Sub.nil)))))) (List.Perm.refl _) ?_
      intro s hs
      obtain ⟨k, vk⟩ := s
      dsimp only at hs ⊢
      have hml : ((cs.take k).map Prod.snd).length = k := by rw [List.length_map, List.length_take]; omega
      refine tR (tV (Val.bin rfl rfl rfl) rfl (tE (At.seq ?_)))
      refine At.cond rfl (fun h7 => ?_) (fun h7 => ?_)
      ·try simp only [hasB, isSizeB, sB] at h7
       refine At.skipC (At.thenN (At.seq (At.block (tR ?_))))
       obtain ⟨q, hq⟩ : ∃ q, cs[k]? = some q := ⟨_, List.getElem?_eq_getElem (by omega)⟩
       refine At.idxPO hv hoV Tryd.underlying24 Tryd.sizeOf46 rfl rfl hq rfl rfl (fun bx ox hc0 hc1 hox => (tV (Val.loadPair Tryd.isAgg46 Tryd.sizeOf46 rfl hc0 hc1 hox) rfl (At.alloc Tryd.zeroValue46 rfl rfl (fun b8 => (At.storeAll (i := 0) Tryd.sizeOf46 rfl rfl rfl (by simp [Value.oneCell']) rfl rfl ?_)))))
       simp only [sc0, scS]
       refine tE (At.region (tM rfl rfl (tV (Val.field 1 rfl fo_46_1 rfl) rfl (tV (Val.load (i := 0) Tryd.isAgg38 rfl rfl rfl) rfl (At.buildSl (fun a ha => by simp only [List.map_toArray, List.map_cons, List.map_nil, ha.eval (x := (.tmp 44)) rfl]; try rfl) (bs_60_1 _ ) rfl (fun b9 => (At.appendWs (i := 2) (j := 0) (ms := [q.2]) (by_ := 8) Tryd.underlying60 info_38 rfl rfl rfl rfl rfl rfl rfl rfl rfl (by omega) (by omega) rfl (fun v10 => ?_))))))))
       simp only [sc0, scS]
       refine At.drop 0 ?_
       simp only [ec0, ecS]
       refine tA rfl rfl (At.nil (At.blkN (At.thenN (At.region ?_))))
       first | refine tV (Val.addI rfl rfl (by omega) (by omega)) rfl ?_ | refine tV (Val.bin rfl rfl rfl) rfl ?_
       refine tM rfl rfl (tE (At.drop 0 ?_))
       simp only [ec0, ecS]
       exact At.again (k + 1, v10) (show k + 1 ≤ _ by omega) (by dsimp only; omega) (Sub.cons rfl (Sub.cons rfl (Sub.cons rfl (Sub.cons rfl (Sub.cons rfl (Sub.cons (congrArg (fun z => some (Value.int IntKind.i64 z)) (by dsimp only; omega)) Sub.nil)))))) (by dsimp only; rw [snd_snoc hq])
      ·try simp only [hasB, isSizeB, sB] at h7
       refine At.exitC (At.thenX (At.thenX (At.blkX (At.thenN (At.seq ?_)))))
       obtain rfl : k = cs.length := by omega
       rw [List.take_length]
       have hkl : ((ksOf cs).map adF).length = (ksOf cs).length := List.length_map ..
       refine At.rowIs (i := 0) rfl (fun A11 c12 hv => ?_)
       subst hv
       refine At.rowIs (i := 1) rfl (fun A13 c14 hv => ?_)
       subst hv
       refine At.region (tM rfl rfl (tM rfl rfl (At.callYs (fun w hw => writeP_n p _ rfl w) Tryd.call19 rfl rfl (fun y1 => ?_))))
       simp only [List.cons_append, List.nil_append]
       refine tM rfl rfl (tM rfl rfl (tV (Val.lenRow (i := 3) Tryd.underlying44 rfl rfl) rfl (tV (Val.conv Tryd.underlying3 Tryd.underlying68 rfl) rfl ?_)))
       rw [wrap_u32_int]
       refine At.callP (fun w hw => seal_p _ _ w (ht.modS hw.mod hf)) Tryd.call21 rfl rfl (At.callYs (fun w hw => storeP_n p 512 _ w) Tryd.call20 rfl rfl (fun y2 => ?_))
       simp only [List.cons_append, List.nil_append]
       refine tM rfl rfl (tM rfl rfl (tM rfl rfl (At.callYs (fun w hw => changeP_n p _ _ rfl rfl w) Tryd.call22 rfl rfl (fun y3 => ?_))))
       simp only [List.cons_append, List.nil_append]
       refine tM rfl rfl (At.callYs (fun w hw => storeP_n p 512 0 w) Tryd.call20 rfl rfl (fun y4 => ?_))
       simp only [List.cons_append, List.nil_append]
       refine At.buildRow (fun a ha => by simp only [List.map_toArray, List.map_cons, List.map_nil, ha.eval (x := (.tmp 50)) rfl, ha.eval (x := (.tmp 56)) rfl, ha.eval (x := (.tmp 60)) rfl, ha.eval (x := (.tmp 62)) rfl]; try rfl) (bs_ph4 _ _ _ _ ) 1 rfl (by decide) rfl (fun vp => ?_)
       refine At.callD 15 rfl (fun w hw hr => run_com (ht.modS hw.mod hf) (Rep.off0 hw ht hf (i := 15) rfl) (row_rd (hw.row (i := 0) rfl) (by decide)) (Rep.offRow (i := 0) (j := 15) hw rfl rfl (by decide)) (CellAt.of hw (i := 11) (j := 15) rfl rfl (by decide)) (CellAt.of hw (i := 10) (j := 15) rfl rfl (by decide)) (CellAt.of hw (i := 7) (j := 15) rfl rfl (by decide)) (CellAt.of hw (i := 8) (j := 15) rfl rfl (by decide)) (by have h9 := (CellAt.of hw (i := 9) (j := 15) rfl rfl (by decide)); rw [hkl] at h9; exact h9) (CellAt.of hw (i := 5) (j := 15) rfl rfl (by decide)) (CellAt.of hw (i := 4) (j := 15) rfl rfl (by decide)) (CellAt.of hw (i := 6) (j := 15) rfl rfl (by decide)) (CellAt.of hw (i := 1) (j := 15) rfl rfl (by decide)) (CellAt.of hw (i := 2) (j := 15) rfl rfl (by decide)) (CellAt.of hw (i := 3) (j := 15) rfl rfl (by decide)) (row_rd (hw.row (i := 13) rfl) (by decide)) (Rep.offRow (i := 13) (j := 15) hw rfl rfl (by decide)) (row_rd (hw.row (i := 12) rfl) (by decide)) (Rep.offRow (i := 12) (j := 15) hw rfl rfl (by decide)) (by rw [List.length_map, ksOf_len]) (ks_lt (pl_all hpl) (by omega)) (by rw [ksOf_len]; omega) (by omega) (by omega) hr) Tryd.call18 rfl rfl (fun y15 => ?_)
       simp only [sc0, scS]
       refine tA rfl rfl (tE (At.retC (At.ret1 (.inl rfl) rfl rfl rfl (fun w hw => ?_))))
       rw [com_go hX (by assumption) hpl (by assumption)]
       exact ⟨_, rfl, hw.drop (List.singleton_sublist.2 (List.mem_of_getElem? (i := 15) rfl))⟩
    ·obtain ⟨x1, x2⟩ := pl_no hpl
     rw [x1, x2]
     refine tM rfl rfl (tV (Val.extract rfl rfl) rfl (tV (Val.extract rfl rfl) rfl (tA rfl rfl (tA rfl rfl (tE (At.seq (tR (tM rfl rfl (tV (Val.bin rfl rfl rfl) rfl (tE (At.condT rfl (tR (tM rfl rfl (tA rfl rfl (tE (At.retC (At.thenR (At.ret1 (.inl rfl) rfl rfl rfl (fun w hw => ?_)))))))))))))))))))
     rw [com_40 hX (by assumption) hpl]
     exact ⟨_, rfl, hw.drop (List.singleton_sublist.2 (List.mem_of_getElem? (i := 2) rfl))⟩
end Go.Proofs.YtfchinibjhcejaaDoor
namespace Go.Proofs.YtfchinibjhcejaaDoor
open Go Go.Wk
theorem packB_le (L : List (Int × BitVec 64)) : (packB L).length ≤ 192 := by
  by_cases h : GoodUn L
  · rw [packB_T h, undoB_length]; have := h.2.1; omega
  · rw [packB_F h]; decide
def layI (l : List UInt8) (a : Int) (x : BitVec 64) : List UInt8 := if a < 0 ∨ (l.length : Int) - 8 < a then l else put8 l a.toNat x
theorem layI_no {l : List UInt8} {a : Int} {x : BitVec 64} (h : a < 0 ∨ (l.length : Int) - 8 < a) : layI l a x = l := if_pos h
theorem layI_yes {l : List UInt8} {a : Int} {x : BitVec 64} (h : ¬ (a < 0 ∨ (l.length : Int) - 8 < a)) : layI l a x = put8 l a.toNat x := if_neg h
theorem layI_len {l : List UInt8} {a : Int} {x : BitVec 64} : (layI l a x).length = l.length := by
  unfold layI
  split
  · rfl
  · exact putK_length x (by omega) (by decide)
def wordsI (l : List UInt8) (W : List (Int × BitVec 64)) : List UInt8 := W.foldl (fun m q => layI m q.1 q.2) l
theorem wordsI_len {l : List UInt8} : ∀ (W : List (Int × BitVec 64)), (wordsI l W).length = l.length := by
  intro W
  induction W generalizing l with
  | nil => rfl
  | cons q W ih => show (wordsI (layI l q.1 q.2) W).length = _; rw [ih, layI_len]
theorem wordsI_snoc {l : List UInt8} {W : List (Int × BitVec 64)} {k : Nat} {q : Int × BitVec 64} (h : W[k]? = some q) : wordsI l (W.take (k + 1)) = layI (wordsI l (W.take k)) q.1 q.2 := by unfold wordsI; rw [List.take_succ_of_get h, List.foldl_append]; rfl
def overK (l : List UInt8) (o : Nat) (u : List UInt8) (k : Nat) : List UInt8 := l.take o ++ u.take k ++ l.drop (o + k)
theorem overK_len {l u : List UInt8} {o k : Nat} (h : o + k ≤ l.length) (hk : k ≤ u.length) : (overK l o u k).length = l.length := by unfold overK; rw [List.length_append, List.length_append, List.length_take, List.length_take, List.length_drop]; omega
theorem overK_zero (l : List UInt8) (o : Nat) (u : List UInt8) : overK l o u 0 = l := by unfold overK; rw [List.take_zero, List.append_nil, Nat.add_zero, List.take_append_drop]
theorem overK_step {l u : List UInt8} {o k : Nat} {c : UInt8} (hc : u[k]? = some c) (h : o + k < l.length) : (overK l o u k).set (o + k) c = overK l o u (k + 1) := by
  have hk := (List.getElem?_eq_some_iff.1 hc).1
  unfold overK
  have e : (l.take o ++ u.take k).length = o + k := by rw [List.length_append, List.length_take, List.length_take]; omega
  rw [List.set_append_right _ _ (by omega), e, Nat.sub_self, List.drop_eq_getElem_cons h, List.set_cons_zero, List.take_succ_of_get hc, ← List.append_assoc, List.append_assoc (l.take o ++ u.take k)]
  rfl
noncomputable def undoI (l : List UInt8) (U : List (Int × BitVec 64)) : List UInt8 := overK l 512 (packB U) (packB U).length
theorem undoI_no {l : List UInt8} {U : List (Int × BitVec 64)} (h : ¬ packE U = 0) : undoI l U = l := by
  have hg : ¬ GoodUn U := fun g => h (packE_T g)
  unfold undoI
  rw [packB_F hg]; exact overK_zero ..
theorem undoI_len {l : List UInt8} {U : List (Int × BitVec 64)} (h : 1024 ≤ l.length) : (undoI l U).length = l.length := overK_len (by have := packB_le U; omega) (Nat.le_refl _)
def supR (l L : List UInt8) (k : Nat) : List UInt8 := (List.range k).foldl (fun m j => (m.set j (L.getD j 0)).set (64 + j) (L.getD j 0)) l
theorem supR_succ (l L : List UInt8) (k : Nat) : supR l L (k + 1) = ((supR l L k).set k (L.getD k 0)).set (64 + k) (L.getD k 0) := by unfold supR; rw [List.range_succ, List.foldl_append]; rfl
theorem supR_len (l L : List UInt8) : ∀ (k : Nat), (supR l L k).length = l.length
  | 0 => rfl
  | k + 1 => by rw [supR_succ, List.length_set, List.length_set, supR_len l L k]
def supS (p i c : Int) : Int × Int × Int := if GoodSup p i c then (p, i, c) else (24, 8, 1)
theorem supS_yes {p i c : Int} (h : GoodSup p i c) : supS p i c = (p, i, c) := if_pos h
theorem supS_no {p i c : Int} (h : ¬ GoodSup p i c) : supS p i c = (24, 8, 1) := if_neg h
theorem supS_good (p i c : Int) : GoodSup (supS p i c).1 (supS p i c).2.1 (supS p i c).2.2 := by
  unfold supS
  split
  · assumption
  · decide
abbrev supLn (s : Int × Int × Int) : List UInt8 := lineL (superB s.1.toNat s.2.1.toNat s.2.2.toNat)
theorem supLn_len (s : Int × Int × Int) : (supLn s).length = 64 := lineL_length (by rw [superB_length]; decide)
noncomputable def imgE (s : Int × Int × Int) (bare : Bool) (W U : List (Int × BitVec 64)) : List UInt8 := if bare then undoI (wordsI (zs (512 * s.1.toNat)) W) U else supR (undoI (wordsI (zs (512 * s.1.toNat)) W) U) (supLn s) 64
theorem imgE_len {s : Int × Int × Int} (h : GoodSup s.1 s.2.1 s.2.2) (bare : Bool) (W U : List (Int × BitVec 64)) : (imgE s bare W U).length = 512 * s.1.toNat := by
  unfold GoodSup at h
  have e : (undoI (wordsI (zs (512 * s.1.toNat)) W) U).length = 512 * s.1.toNat := by rw [undoI_len (by rw [wordsI_len, zs_length]; omega), wordsI_len, zs_length]
  unfold imgE
  split
  · exact e
  · rw [supR_len, e]
theorem fit_ex (p i c : Int) : ∃ A B C D e : Int, fitV p i c = .tuple #[.agg #[.int .i64 A, .int .i64 B, .int .i64 C, .int .i64 D], .int .i64 e] ∧ ((e = 0 ∧ GoodSup p i c ∧ A = p ∧ B = i ∧ C = c ∧ D = 4 + i / 8) ∨ (e ≠ 0 ∧ ¬ GoodSup p i c)) := by
  by_cases h : GoodSup p i c
  · exact ⟨_, _, _, _, _, fit_yes h, .inl ⟨rfl, h, rfl, rfl, rfl, rfl⟩⟩
  · exact ⟨_, _, _, _, _, fit_no h, .inr ⟨by decide, h⟩⟩
theorem lay_r (v : Value) (l : List UInt8) (a : Int) (x : BitVec 64) (w : World) (hl : l.length ≤ 1000000) (hr : (brow 5 v l).holds w) :
    Upd Tryd.prog 26 [v, .int .i64 a, b64 x] (brow 5 v l) (.tuple #[]) (brow 5 v (layI l a x)) w := by
 refine enter (feet [brow 5 v l]) [brow 5 v l] Tryd.func26 rfl Tryd.ntmps26 rfl (Rep.one hr) ?_
 simp only [envOf]
 refine At.seq (tR (At.weaken [(0, _), (1, _), (2, _)] (Sub.cons rfl (Sub.cons rfl (Sub.cons rfl Sub.nil))) ?_))
 refine At.boolMeet 9 15 (decide (a < 0 ∨ (l.length : Int) - 8 < a)) ?_ ?_
 ·simp only [List.take_succ_cons, List.take_zero]
  refine tM rfl rfl (tV (Val.bin rfl rfl rfl) rfl (tM rfl rfl ?_))
  refine At.split (t := 9) rfl (fun h1 => ?_) (fun h1 => ?_)
  ·try simp only [hasB, isSizeB, sB] at h1
   refine At.no rfl rfl rfl rfl (At.no rfl rfl rfl rfl (At.no rfl rfl rfl rfl (At.no rfl rfl rfl rfl (At.no rfl rfl rfl rfl (tV (Val.pickT rfl rfl) rfl (At.nil ?_))))))
   exact At.boolEnd rfl (by apply Bool.eq_iff_iff.2; (simp only [decide_eq_true_eq, Bool.false_eq_true, false_iff, true_iff, iff_true, iff_false, gt_iff_lt, ge_iff_le, beq_iff_eq, bne_iff_ne, ne_eq]) <;> omega) (by repeat (first | exact Sub.nil | refine Sub.cons rfl ?_))
  ·try simp only [hasB, isSizeB, sB] at h1
   refine At.yes rfl rfl (tM rfl rfl (At.yes rfl rfl (tM rfl rfl (At.yes rfl rfl (tV (Val.lenRow (i := 0) Tryd.underlying29 rfl rfl) rfl (At.yes rfl rfl ?_))))))
   first | refine tV (Val.subI rfl rfl (by omega) (by omega)) rfl ?_ | refine tV (Val.bin rfl rfl rfl) rfl ?_
   refine At.yes rfl rfl (tV (Val.bin rfl rfl rfl) rfl (tV (Val.pickF rfl rfl) rfl (At.nil ?_)))
   exact At.boolEnd rfl (by apply Bool.eq_iff_iff.2; (simp only [decide_eq_true_eq, Bool.false_eq_true, false_iff, true_iff, iff_true, iff_false, gt_iff_lt, ge_iff_le, beq_iff_eq, bne_iff_ne, ne_eq]) <;> omega) (by repeat (first | exact Sub.nil | refine Sub.cons rfl ?_))
 ·simp only [List.drop_succ_cons, List.drop_zero]
  refine tE ?_
  refine At.cond rfl (fun h2 => ?_) (fun h2 => ?_)
  ·try simp only [hasB, isSizeB, sB] at h2
   rw [layI_no h2]
   refine At.retC (At.thenR (At.ret0 (.inl rfl) rfl rfl  (fun w hw => ?_)))
   exact ⟨rfl, hw⟩
  ·try simp only [hasB, isSizeB, sB] at h2
   have hn := h2
   rw [layI_yes h2]
   obtain ⟨o, ho⟩ : ∃ o : Nat, a = (o : Int) := ⟨a.toNat, by omega⟩
   subst ho
   rw [Int.toNat_natCast]
   refine At.skipC (At.thenN (tR (tA rfl rfl (tE (At.block ?_)))))
   skip
   refine At.loop (σ := Nat) (fun k => k ≤ 8) (fun k => [(0, v), (1, .int .i64 (o : Int)), (2, b64 x), (6, .int .i64 (k : Int))]) (fun k => [brow 5 v (putK l o x k)]) (fun k => 8 - k) 0 (Nat.zero_le _) (Sub.cons rfl (Sub.cons rfl (Sub.cons rfl (Sub.cons rfl Sub.nil)))) (by rw [putK_zero]) ?_
   intro k hs
   refine At.seq (tR (tM rfl rfl (tV (Val.bin rfl rfl rfl) rfl (tE ?_))))
   refine At.cond rfl (fun h3 => ?_) (fun h3 => ?_)
   ·try simp only [hasB, isSizeB, sB] at h3
    have hk : k < 8 := by omega
    refine At.skipC (At.thenN (At.seq (At.block (At.region (tM rfl rfl (tM rfl rfl (tM rfl rfl ?_)))))))
    first | refine tV (Val.addI rfl rfl (by omega) (by omega)) rfl ?_ | refine tV (Val.bin rfl rfl rfl) rfl ?_
    refine tM rfl rfl (tM rfl rfl ?_)
    first | refine tV (Val.mulI rfl rfl (by omega) (by omega)) rfl ?_ | refine tV (Val.bin rfl rfl rfl) rfl ?_
    first | refine tV (Val.toU Tryd.underlying3 Tryd.underlying99 rfl (by omega) (by omega)) rfl ?_ | refine tV (Val.conv Tryd.underlying3 Tryd.underlying99 rfl) rfl ?_
    refine tV (Val.shr rfl rfl (by omega)) rfl ?_
    rw [shr_byte x hk]
    refine tV (Val.toB Tryd.underlying38 Tryd.underlying5 rfl (Int.natCast_nonneg _)) rfl ?_
    rw [Int.toNat_natCast]
    have hpl := putK_length (l := l) (o := o) (k := k) x (by omega) (by omega)
    refine tV (Val.indexRow (i := 0) (o + k) (by omega) Tryd.underlying29 Tryd.sizeOf5 rfl rfl rfl (by omega) (by rw [hpl]; omega)) rfl (At.storeRowB (i := 0) Tryd.sizeOf5 rfl rfl rfl (by omega) ?_)
    simp only [sc0, scS]
    rw [putK_step x (by omega) hk]
    refine At.nil (At.blkN (At.thenN (At.region (tM rfl rfl ?_))))
    first | refine tV (Val.addI rfl rfl (by omega) (by omega)) rfl ?_ | refine tV (Val.bin rfl rfl rfl) rfl ?_
    refine tA rfl rfl (tE ?_)
    exact At.again (k + 1) (show k + 1 ≤ 8 by omega) (by omega) (Sub.cons rfl (Sub.cons rfl (Sub.cons rfl (Sub.cons (congrArg (fun z => some (Value.int IntKind.i64 z)) (by omega)) Sub.nil)))) (List.Perm.refl _)
   ·try simp only [hasB, isSizeB, sB] at h3
    obtain rfl : k = 8 := by omega
    refine At.exitC (At.thenX (At.thenX (At.blkX (At.ret0 (.inr rfl) rfl rfl  (fun w hw => ?_)))))
    exact ⟨rfl, hw⟩
end Go.Proofs.YtfchinibjhcejaaDoor
