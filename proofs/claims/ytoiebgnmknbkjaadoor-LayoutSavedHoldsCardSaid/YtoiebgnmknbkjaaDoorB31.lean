/- Records packed. -/
import Derived.Test.YtoiebgnmknbkjaaDoorB30
import Derived.Test.YtoiebgnmknbkjaaDoorB24
import Derived.Test.YtoiebgnmknbkjaaDoorWn
import Derived.Test.YtoiebgnmknbkjaaDoorPa
set_option linter.unusedVariables false
set_option linter.unusedSimpArgs false
namespace Go.Proofs.YtoiebgnmknbkjaaDoor
open Go Go.Wk

theorem nat_b64 {n : Nat} (h : n < 18446744073709551616) : Value.int .u64 ((n : Nat) : Int) = b64 (BitVec.ofNat 64 n) := by
  unfold b64; rw [BitVec.toNat_ofNat, Nat.mod_eq_of_lt (by simpa using h)]
theorem u64_or {a b : Nat} (ha : a < 18446744073709551616) (hb : b < 18446744073709551616) : ib .or .u64 (a : Int) (b : Int) = ((a ||| b : Nat) : Int) := by
  show IntKind.u64.wrap ((BitVec.ofInt 64 (a : Int) ||| BitVec.ofInt 64 (b : Int)).toNat : Int) = _
  have e1 : (BitVec.ofInt 64 (a : Int)).toNat = a := by simp [BitVec.toNat_ofInt]; omega
  have e2 : (BitVec.ofInt 64 (b : Int)).toNat = b := by simp [BitVec.toNat_ofInt]; omega
  rw [BitVec.toNat_or, e1, e2]
  have : a ||| b < 2 ^ 64 := Nat.or_lt_two_pow (by simpa using ha) (by simpa using hb)
  have h2 : a ||| b < 18446744073709551616 := by simpa using this
  generalize a ||| b = z at *
  exact wrap_u64 (by omega) (by omega)
theorem or_shift {k a b : Nat} (ha : a < 2 ^ k) : a ||| (2 ^ k * b) = a + 2 ^ k * b := by
  rw [Nat.or_comm, ← Nat.two_pow_add_eq_or_of_lt ha]; omega
def magic : List UInt8 := [70, 85, 82, 82, 79, 87, 83, 86]
def spB (L : List (Int × Int)) : List UInt8 := L.flatMap fun c => le 2 c.1.toNat ++ le 2 c.2.toNat
theorem spB_snoc (L : List (Int × Int)) (c : Int × Int) : spB (L ++ [c]) = spB L ++ le 2 c.1.toNat ++ le 2 c.2.toNat := by simp [spB]
theorem spB_length (L : List (Int × Int)) : (spB L).length = 4 * L.length := by
  induction L with
  | nil => rfl
  | cons c L ih => unfold spB at *; simp only [List.flatMap_cons, List.length_append, List.length_cons, le_length, ih]; omega
def pad (n : Nat) : List UInt8 := if n % 2 = 1 then zs 4 else []
theorem pad_1 {n : Nat} (h : n % 2 = 1) : pad n = zs 4 := if_pos h
theorem pad_0 {n : Nat} (h : ¬ n % 2 = 1) : pad n = [] := if_neg h
theorem pad_length (n : Nat) : (pad n).length = 4 * (n % 2) := by
  by_cases h : n % 2 = 1
  · rw [pad_1 h, zs_length, h]
  · rw [pad_0 h]; simp; omega
def hd20 (t : BitVec 32) (n : Nat) : List UInt8 := magic ++ le 4 t.toNat ++ zs 4 ++ le 4 n
theorem hd20_length (t : BitVec 32) (n : Nat) : (hd20 t n).length = 20 := by unfold hd20; simp [le_length, zs_length, magic]
def svSum (t : BitVec 32) (L : List (Int × Int)) : BitVec 32 := sumOn 0 (hd20 t L.length ++ spB L)
def svB (t : BitVec 32) (L : List (Int × Int)) : List UInt8 := hd20 t L.length ++ le 4 (svSum t L).toNat ++ spB L ++ pad L.length
theorem svB_length (t : BitVec 32) (L : List (Int × Int)) : (svB t L).length = 24 + 4 * L.length + 4 * (L.length % 2) := by
  unfold svB; simp only [List.length_append, hd20_length, le_length, spB_length, pad_length]
noncomputable def svP (t : BitVec 32) (L : List (Int × Int)) : List UInt8 := if GoodSv t L then svB t L else []
noncomputable def svE (t : BitVec 32) (L : List (Int × Int)) : Int := if GoodSv t L then 0 else 36
theorem svP_T {t : BitVec 32} {L : List (Int × Int)} (h : GoodSv t L) : svP t L = svB t L := if_pos h
theorem svP_F {t : BitVec 32} {L : List (Int × Int)} (h : ¬ GoodSv t L) : svP t L = [] := if_neg h
theorem svE_T {t : BitVec 32} {L : List (Int × Int)} (h : GoodSv t L) : svE t L = 0 := if_pos h
theorem svE_F {t : BitVec 32} {L : List (Int × Int)} (h : ¬ GoodSv t L) : svE t L = 36 := if_neg h
theorem sumV_p (v : Value) (l : List UInt8) (w : World) (hv : RdB w v l) (ht : Tab w) (hlen : l.length ≤ 140737488355328) : PureC Tryd.prog 115 [v] (b32 (sumOn 0 l)) w := by
  obtain ⟨A, c, rfl, hb, _⟩ := hv.bytes; exact sum_p A l c w hb ht hlen
theorem sumOnV_p (s : BitVec 32) (v : Value) (l : List UInt8) (w : World) (hv : RdB w v l) (ht : Tab w) (hlen : l.length ≤ 140737488355328) : PureC Tryd.prog 126 [b32 s, v] (b32 (sumOn s l)) w := by
  obtain ⟨A, c, rfl, hb, _⟩ := hv.bytes; exact sumOn_p s A l c w hb ht hlen
def spW (c : Int × Int) : Nat := c.1.toNat + 65536 * c.2.toNat
/-- The words so far. -/
def hdW (t : BitVec 32) (n : Nat) : List UInt8 := zs 8 ++ le 4 t.toNat ++ zs 4 ++ le 4 n ++ zs 4
def WI (t : BitVec 32) (L : List (Int × Int)) (k : Nat) (W : List (BitVec 64)) : Prop := W.length = 3 + (k + 1) / 2 ∧ bytesW W = hdW t L.length ++ spB (L.take k) ++ pad k ∧ (k % 2 = 1 → ∃ W' y, W = W' ++ [y] ∧ y.toNat < 4294967296)
theorem le8_lo {n : Nat} (h : n < 256 ^ 4) : le 8 n = le 4 n ++ zs 4 := by
  have := le_append 4 4 n 0 h
  rw [Nat.mul_zero, Nat.add_zero] at this
  exact this.symm
theorem le4_sp {a b : Nat} (ha : a < 65536) : le 4 (a + 65536 * b) = le 2 a ++ le 2 b := (le_append 2 2 a b ha).symm
theorem ofNat_toNat {n : Nat} (h : n < 18446744073709551616) : (BitVec.ofNat 64 n).toNat = n := by rw [BitVec.toNat_ofNat, Nat.mod_eq_of_lt (by simpa using h)]
theorem wi_0 {t : BitVec 32} {L : List (Int × Int)} (hL : L.length ≤ 249) : WI t L 0 [0, BitVec.ofNat 64 t.toNat, BitVec.ofNat 64 L.length] := by
  refine ⟨rfl, ?_, fun h => by simp at h⟩
  have ht := t.isLt
  rw [show bytesW [0, BitVec.ofNat 64 t.toNat, BitVec.ofNat 64 L.length] = le 8 (0 : BitVec 64).toNat ++ (le 8 (BitVec.ofNat 64 t.toNat).toNat ++ (le 8 (BitVec.ofNat 64 L.length).toNat ++ [])) from rfl, ofNat_toNat (by omega), ofNat_toNat (by omega), le8_lo (n := t.toNat) (by omega), le8_lo (n := L.length) (by omega)]
  unfold hdW
  rw [List.take_zero, show spB [] = [] from rfl, show pad 0 = [] from rfl, show le 8 (0 : BitVec 64).toNat = zs 8 from rfl]
  simp only [List.append_assoc, List.append_nil]
theorem spW_lt {lo : Int} {c : Int × Int} (h5 : 5 ≤ lo) (h : OkSp lo c) : spW c < 4294967296 ∧ c.1.toNat < 65536 := by unfold OkSp at h; unfold spW; omega
theorem wi_even {t : BitVec 32} {L : List (Int × Int)} {k : Nat} {W : List (BitVec 64)} {c : Int × Int} (h : WI t L k W) (hk : k % 2 = 0) (hc : L[k]? = some c) (hw : spW c < 4294967296 ∧ c.1.toNat < 65536) : WI t L (k + 1) (W ++ [BitVec.ofNat 64 (spW c)]) := by
  obtain ⟨h1, h2, _⟩ := h
  refine ⟨by rw [List.length_append, h1]; simp; omega, ?_, fun _ => ⟨W, _, rfl, by rw [ofNat_toNat (by omega)]; exact hw.1⟩⟩
  rw [bytesW_snoc, ofNat_toNat (by omega), h2, pad_0 (by omega), pad_1 (by omega), List.take_succ_of_get hc, spB_snoc, le8_lo (by omega)]
  unfold spW
  rw [le4_sp hw.2]
  simp only [List.append_assoc, List.append_nil, List.nil_append]
theorem wi_odd {t : BitVec 32} {L : List (Int × Int)} {k : Nat} {W' : List (BitVec 64)} {y : BitVec 64} {c : Int × Int} (h : WI t L k (W' ++ [y])) (hk : k % 2 = 1) (hy : y.toNat < 4294967296) (hc : L[k]? = some c) (hw : spW c < 4294967296 ∧ c.1.toNat < 65536) : WI t L (k + 1) (W' ++ [BitVec.ofNat 64 (y.toNat + 4294967296 * spW c)]) := by
  obtain ⟨h1, h2, _⟩ := h
  rw [List.length_append] at h1
  refine ⟨by rw [List.length_append]; simp at h1 ⊢; omega, ?_, fun h => by omega⟩
  rw [bytesW_snoc, pad_1 hk, le8_lo (by omega), ← List.append_assoc] at h2
  have h3 := List.append_cancel_right h2
  rw [bytesW_snoc, ofNat_toNat (by omega), pad_0 (by omega), List.take_succ_of_get hc, spB_snoc]
  have e : le 8 (y.toNat + 4294967296 * spW c) = le 4 y.toNat ++ le 4 (spW c) := (le_append 4 4 y.toNat (spW c) (by omega)).symm
  rw [e, ← List.append_assoc, h3]
  unfold spW
  rw [le4_sp hw.2]
  simp only [List.append_assoc, List.append_nil]
theorem set_last (W' : List (BitVec 64)) (y z : BitVec 64) : ((W' ++ [y]).map b64).set W'.length (b64 z) = (W' ++ [z]).map b64 := by
  rw [← List.map_set, List.set_append_right _ _ (Nat.le_refl _), Nat.sub_self]; rfl
/-- The record with its name, without its sum. -/
def svZ (t : BitVec 32) (L : List (Int × Int)) : List UInt8 := hdW t L.length ++ spB L ++ pad L.length
def svM (t : BitVec 32) (L : List (Int × Int)) : List UInt8 := hd20 t L.length ++ zs 4 ++ spB L ++ pad L.length
theorem svZ_length (t : BitVec 32) (L : List (Int × Int)) : (svZ t L).length = 24 + 4 * L.length + 4 * (L.length % 2) := by
  unfold svZ hdW; simp only [List.length_append, zs_length, le_length, spB_length, pad_length]
theorem svM_length (t : BitVec 32) (L : List (Int × Int)) : (svM t L).length = 24 + 4 * L.length + 4 * (L.length % 2) := by
  unfold svM; simp only [List.length_append, hd20_length, zs_length, spB_length, pad_length]
theorem svM_of (t : BitVec 32) (L : List (Int × Int)) (m : List UInt8) (hm : m = magic) : (svZ t L).take 0 ++ m ++ (svZ t L).drop (0 + m.length) = svM t L := by
  subst hm
  rw [List.take_zero, List.nil_append]
  unfold svZ svM hd20 hdW
  rw [show 0 + magic.length = (zs 8).length from rfl]
  simp only [List.append_assoc]
  rw [List.drop_left]
theorem svM_sum (t : BitVec 32) (L : List (Int × Int)) : (svM t L).take 20 ++ ((svM t L).drop 24).take (4 * L.length) = hd20 t L.length ++ spB L := by
  have e : svM t L = hd20 t L.length ++ (zs 4 ++ (spB L ++ pad L.length)) := by unfold svM; simp only [List.append_assoc]
  rw [e, List.take_left' (hd20_length ..)]
  congr 1
  rw [show (24 : Nat) = 20 + 4 from rfl, ← List.drop_drop, List.drop_left' (hd20_length ..), List.drop_left' (zs_length 4), List.take_left' (spB_length L)]
theorem svB_of (t : BitVec 32) (L : List (Int × Int)) : (svM t L).take 20 ++ (le 8 (svSum t L).toNat).take 4 ++ (svM t L).drop (20 + 4) = svB t L := by
  have e : svM t L = hd20 t L.length ++ (zs 4 ++ (spB L ++ pad L.length)) := by unfold svM; simp only [List.append_assoc]
  rw [e, List.take_left' (hd20_length ..), ← List.drop_drop, List.drop_left' (hd20_length ..), List.drop_left' (zs_length 4), le_take (by decide)]
  unfold svB; simp only [List.append_assoc]

theorem svSum_p (v : Value) (l : List UInt8) (n : Nat) (w : World) (ht : Tab w) (hv : RdB w v l) (hn : 24 + 4 * n ≤ l.length) (hlen : l.length ≤ 140737488355328) :
    PureC Tryd.prog 104 [v, .int .i64 (n : Int)] (b32 (sumOn 0 (l.take 20 ++ (l.drop 24).take (4 * n)))) w := by
  obtain ⟨A, c, rfl, hcl, hl1, hc1, hn1, hs1⟩ := id hv
  refine enter0 Tryd.func104 rfl Tryd.ntmps104 rfl ?_
  simp only [envOf]
  refine At.seq ?_
  refine At.region ?_
  refine At.val (Val.assign rfl) rfl rfl rfl ?_
  refine At.nil ?_
  refine At.thenN ?_
  refine At.seq ?_
  refine At.quiet rfl (by decide +kernel) ?_
  refine QAt.val (Val.move rfl) rfl rfl rfl ?_
  refine QAt.val (Val.cutRd (l := 0) (h := 20) hv Tryd.underlying54 Tryd.sizeOf5 rfl rfl ⟨_, _, rfl, by omega, by omega⟩ (by omega) (by omega)) rfl rfl rfl ?_
  refine QAt.callP (fun w hw => sumV_p _ _ w ((RdB.cut (l := 0) (h := 20) hv (by omega) (by omega)).mod hw.mod) (ht.mod hw.mod) (by simp only [List.length_take, List.length_drop]; omega)) Tryd.call115 rfl rfl ?_
  refine QAt.val (Val.move rfl) rfl rfl rfl ?_
  refine QAt.val (Val.move rfl) rfl rfl rfl ?_
  first | refine QAt.val (Val.mulI rfl rfl (by omega) (by omega)) rfl rfl rfl ?_ | refine QAt.val (Val.bin rfl rfl rfl) rfl rfl rfl ?_
  first | refine QAt.val (Val.addI rfl rfl (by omega) (by omega)) rfl rfl rfl ?_ | refine QAt.val (Val.bin rfl rfl rfl) rfl rfl rfl ?_
  refine QAt.val (Val.cutRd (l := 24) (h := 24 + 4 * n) hv Tryd.underlying54 Tryd.sizeOf5 rfl ⟨_, _, rfl, by omega, by omega⟩ ⟨_, _, rfl, by omega, by omega⟩ (by omega) (by omega)) rfl rfl rfl ?_
  refine QAt.callP (fun w hw => sumOnV_p _ _ _ w ((RdB.cut (l := 24) (h := 24 + 4 * n) hv (by omega) (by omega)).mod hw.mod) (ht.mod hw.mod) (by simp only [List.length_take, List.length_drop]; omega)) Tryd.call126 rfl rfl ?_
  refine QAt.val (Val.assign rfl) rfl rfl rfl ?_
  refine QAt.fin ?_
  refine At.thenN ?_
  refine At.retC ?_
  refine At.ret1 (.inl rfl) rfl rfl rfl (fun w hw => ?_)
  exact ⟨by rw [sumOn_append, List.drop_zero, show 20 - 0 = 20 from rfl, show 24 + 4 * n - 24 = 4 * n from by omega], hw.mod⟩

theorem packSv_n (t : BitVec 32) (v : Value) (L : List (Int × Int)) (w : World) (hv : RdS w v L) (hlen : L.length ≤ 8796093022144) (ht : Tab w) :
    NewRowT Tryd.prog 45 [.agg #[b32 t, v]] (fun v => .tuple #[v, .int .i64 (svE t L)]) 5 1 (svP t L).length ((svP t L).map bv) w := by
  refine enter0 Tryd.func45 rfl Tryd.ntmps45 rfl ?_
  simp only [envOf]
  refine At.seq ?_
  refine At.region ?_
  refine At.box rfl rfl rfl (fun b1 => ?_)
  refine At.val (Val.assign rfl) rfl rfl rfl ?_
  refine At.val (Val.assign rfl) rfl rfl rfl ?_
  refine At.nil ?_
  refine At.thenN ?_
  refine At.seq ?_
  refine At.seq ?_
  refine At.region ?_
  refine At.val (Val.loadAll (i := 0) Tryd.isAgg74 Tryd.sizeOf74 rfl rfl rfl) rfl rfl rfl ?_
  refine At.callP (fun w hw => goodSv_p t v L w (hv.mod hw.mod) hlen) Tryd.call102 rfl rfl ?_
  refine At.val (Val.not rfl) rfl rfl rfl ?_
  refine At.nil ?_
  refine At.thenN ?_
  refine At.cond rfl (fun h2 => ?_) (fun h2 => ?_)
  · skip
    try simp only [vN_T, vN_F, nmE_T, nmE_F, wI_T, wI_F, data_T, data_F, ino_T, ino_F, notT, notF, bneT, bneF, beqT, beqF, decT, decF] at h2
    have hg : ¬ GoodSv t L := by simpa using h2
    refine At.seq ?_
    refine At.region ?_
    refine At.val (Val.assign rfl) rfl rfl rfl ?_
    refine At.val (Val.assign rfl) rfl rfl rfl ?_
    refine At.nil ?_
    refine At.rowNilB 5 ?_
    refine At.thenN ?_
    refine At.retC ?_
    refine At.thenR ?_
    refine At.ret2 (.inl rfl) rfl rfl rfl rfl (fun w hw => ?_)
    exact ⟨_, by rw [svE_F hg], by rw [svP_F hg]; exact (hw.drop (List.singleton_sublist.2 (List.mem_of_getElem? (i := 0) rfl))).f0⟩
  · skip
    try simp only [vN_T, vN_F, nmE_T, nmE_F, wI_T, wI_F, data_T, data_F, ino_T, ino_F, notT, notF, bneT, bneF, beqT, beqF, decT, decF] at h2
    have hg : GoodSv t L := by simpa using h2
    have hL : L.length ≤ 249 := hg.2.1
    have hti := t.isLt
    refine At.skipC ?_
    refine At.thenN ?_
    refine At.seq ?_
    refine At.region ?_
    refine At.val (Val.field 1 rfl fo_74_1 rfl) rfl rfl rfl ?_
    refine At.val (Val.load (i := 0) Tryd.isAgg72 rfl rfl rfl) rfl rfl rfl ?_
    refine At.val (Val.lenRd hv Tryd.underlying72 rfl) rfl rfl rfl ?_
    refine At.val (Val.assign rfl) rfl rfl rfl ?_
    refine At.nil ?_
    refine At.thenN ?_
    refine At.seq ?_
    refine At.region ?_
    refine At.val (Val.field 0 rfl fo_74_0 rfl) rfl rfl rfl ?_
    refine At.val (Val.load (i := 0) Tryd.isAgg48 rfl rfl rfl) rfl rfl rfl ?_
    refine At.val (Val.toU Tryd.underlying48 Tryd.underlying40 rfl (by omega) (by omega)) rfl rfl rfl ?_
    rw [nat_b64 (n := t.toNat) (by omega)]
    refine At.val (Val.move rfl) rfl rfl rfl ?_
    refine At.val (Val.toU Tryd.underlying3 Tryd.underlying40 rfl (by omega) (by omega)) rfl rfl rfl ?_
    rw [nat_b64 (n := L.length) (by omega)]
    refine At.buildRow (fun a ha => by simp only [List.map_toArray, List.map_cons, List.map_nil, ha.eval (x := (.const (.int .u64 (0)))) rfl, ha.eval (x := (.tmp 19)) rfl, ha.eval (x := (.tmp 21)) rfl]; try rfl) (bs_156_3 _ _ _ ) 1 rfl (by decide) rfl (fun v3 => ?_)
    change At _ _ (wrow 40 v3 ([0, BitVec.ofNat 64 t.toNat, BitVec.ofNat 64 L.length]) :: _) _
    refine At.val (Val.assign rfl) rfl rfl rfl ?_
    refine At.nil ?_
    refine At.thenN ?_
    refine At.seq ?_
    refine At.seq ?_
    refine At.region ?_
    refine At.val (Val.field 1 rfl fo_74_1 rfl) rfl rfl rfl ?_
    refine At.val (Val.load (i := 1) Tryd.isAgg72 rfl rfl rfl) rfl rfl rfl ?_
    refine At.val (Val.lenRd hv Tryd.underlying72 rfl) rfl rfl rfl ?_
    refine At.val (Val.move rfl) rfl rfl rfl ?_
    refine At.nil ?_
    refine At.thenN ?_
    refine At.block ?_
    skip
    refine At.drop 1 ?_
    simp only [List.eraseIdx_cons_zero, List.eraseIdx_cons_succ]
    refine At.loop (σ := Nat × List (BitVec 64) × Value) (fun s => s.1 ≤ L.length ∧ WI t L s.1 s.2.1) (fun s => [(4, .int .i64 (L.length : Int)), (5, s.2.2), (24, v), (25, .int .i64 (L.length : Int)), (26, .int .i64 (s.1 : Int))]) (fun s => [wrow 40 s.2.2 s.2.1]) (fun s => L.length - s.1) (0, [0, BitVec.ofNat 64 t.toNat, BitVec.ofNat 64 L.length], v3) ⟨Nat.zero_le _, wi_0 hL⟩ (Sub.cons rfl (Sub.cons rfl (Sub.cons rfl (Sub.cons rfl (Sub.cons rfl Sub.nil))))) (List.Perm.refl _) ?_
    intro s hs
    obtain ⟨k, W, vk⟩ := s
    dsimp only at hs ⊢
    refine At.seq ?_
    refine At.region ?_
    refine At.val (Val.bin rfl rfl rfl) rfl rfl rfl ?_
    refine At.nil ?_
    refine At.thenN ?_
    refine At.seq ?_
    refine At.cond rfl (fun h4 => ?_) (fun h4 => ?_)
    · skip
      try simp only [vN_T, vN_F, nmE_T, nmE_F, wI_T, wI_F, data_T, data_F, ino_T, ino_F, notT, notF, bneT, bneF, beqT, beqF, decT, decF] at h4
      have hk : k < L.length := by omega
      refine At.skipC ?_
      refine At.thenN ?_
      refine At.seq ?_
      refine At.block ?_
      refine At.seq ?_
      refine At.region ?_
      refine At.val (Val.move rfl) rfl rfl rfl ?_
      refine At.idxS hv Tryd.underlying72 Tryd.sizeOf88 rfl rfl (by omega) (by omega) rfl rfl (fun b5 o6 q7 hq8 hc9 hd10 => ?_)
      refine At.val (Val.loadSpan Tryd.isAgg88 Tryd.sizeOf88 rfl hc9 hd10 (fun h => h)) rfl rfl rfl ?_
      refine At.alloc Tryd.zeroValue88 rfl rfl (fun b11 => ?_)
      refine At.val (Val.assign rfl) rfl rfl rfl ?_
      refine At.storeAll (i := 0) Tryd.sizeOf88 rfl rfl rfl (by simp [Value.oneCell']) rfl rfl ?_
      simp only [List.set_cons_zero, List.set_cons_succ]
      refine At.nil ?_
      have hqk := hq8
      rw [Int.toNat_natCast] at hqk
      have hc := hg.2.2 k _ hk hqk
      have hlo := lo_bd (k := k) (fun j c hj hc => hg.2.2 j c (by omega) hc) (by omega)
      have hw2 := spW_lt hlo.1 hc
      have hc2 := hc
      unfold OkSp at hc2
      refine At.thenN ?_
      refine At.seq ?_
      refine At.region ?_
      refine At.val (Val.field 0 rfl fo_88_0 rfl) rfl rfl rfl ?_
      refine At.val (Val.load (i := 0) Tryd.isAgg3 rfl rfl rfl) rfl rfl rfl ?_
      first | refine At.val (Val.toU Tryd.underlying3 Tryd.underlying40 rfl (by omega) (by omega)) rfl rfl rfl ?_ | refine At.val (Val.conv Tryd.underlying3 Tryd.underlying40 rfl) rfl rfl rfl ?_
      refine At.val (Val.field 1 rfl fo_88_1 rfl) rfl rfl rfl ?_
      refine At.val (Val.load (i := 0) Tryd.isAgg3 rfl rfl rfl) rfl rfl rfl ?_
      first | refine At.val (Val.toU Tryd.underlying3 Tryd.underlying40 rfl (by omega) (by omega)) rfl rfl rfl ?_ | refine At.val (Val.conv Tryd.underlying3 Tryd.underlying40 rfl) rfl rfl rfl ?_
      refine At.val (Val.shl rfl rfl (by decide)) rfl rfl rfl ?_
      rw [show IntKind.u64.wrap (q7.2 * 2 ^ min (16 : Int).toNat IntKind.u64.bits) = ((65536 * q7.2.toNat : Nat) : Int) from by rw [show (2 : Int) ^ min (16 : Int).toNat IntKind.u64.bits = 65536 from rfl, wrap_u64 (by omega) (by omega)]; omega]
      refine At.val (Val.bin rfl rfl rfl) rfl rfl rfl ?_
      rw [show ib .or .u64 q7.1 ((65536 * q7.2.toNat : Nat) : Int) = ((spW q7 : Nat) : Int) from by rw [show q7.1 = ((q7.1.toNat : Nat) : Int) from by omega, u64_or (by omega) (by omega), show (65536 : Nat) = 2 ^ 16 from rfl, or_shift (by omega)]; unfold spW; omega, nat_b64 (n := spW q7) (by omega)]
      refine At.val (Val.assign rfl) rfl rfl rfl ?_
      refine At.nil ?_
      refine At.thenN ?_
      refine At.seq ?_
      refine At.region ?_
      refine At.val (Val.move rfl) rfl rfl rfl ?_
      first | refine At.val (Val.remI rfl rfl (by omega) (by decide)) rfl rfl rfl ?_ | refine At.val (Val.rem rfl rfl (by decide)) rfl rfl rfl ?_
      refine At.val (Val.bin rfl rfl rfl) rfl rfl rfl ?_
      refine At.nil ?_
      refine At.thenN ?_
      refine At.cond rfl (fun h12 => ?_) (fun h12 => ?_)
      · skip
        try simp only [vN_T, vN_F, nmE_T, nmE_F, wI_T, wI_F, data_T, data_F, ino_T, ino_F, notT, notF, bneT, bneF, beqT, beqF, decT, decF] at h12
        have hev : k % 2 = 0 := by omega
        refine At.region ?_
        refine At.val (Val.move rfl) rfl rfl rfl ?_
        refine At.val (Val.move rfl) rfl rfl rfl ?_
        refine At.buildSl (fun a ha => by simp only [List.map_toArray, List.map_cons, List.map_nil, ha.eval (x := (.tmp 43)) rfl]; try rfl) (bs_156_1 _ ) rfl (fun b13 => ?_)
        refine At.appendWs (i := 2) (j := 0) (ms := [BitVec.ofNat 64 (spW q7)]) (by_ := 8) Tryd.underlying156 info_40 rfl rfl rfl rfl rfl rfl rfl rfl rfl (by rw [hs.2.1]; omega) (by rw [hs.2.1]; omega) rfl (fun v14 => ?_)
        simp only [List.set_cons_zero, List.set_cons_succ]
        refine At.drop 0 ?_
        simp only [List.eraseIdx_cons_zero, List.eraseIdx_cons_succ]
        refine At.val (Val.assign rfl) rfl rfl rfl ?_
        refine At.nil ?_
        refine At.blkN ?_
        refine At.thenN ?_
        refine At.region ?_
        first | refine At.val (Val.addI rfl rfl (by omega) (by omega)) rfl rfl rfl ?_ | refine At.val (Val.bin rfl rfl rfl) rfl rfl rfl ?_
        refine At.val (Val.move rfl) rfl rfl rfl ?_
        refine At.nil ?_
        refine At.thenN ?_
        refine At.drop 0 ?_
        simp only [List.eraseIdx_cons_zero, List.eraseIdx_cons_succ]
        exact At.again (k + 1, (W ++ [BitVec.ofNat 64 (spW q7)]), v14) ⟨(show k + 1 ≤ _ by omega), wi_even hs.2 hev hqk hw2⟩ (by dsimp only; omega) (Sub.cons rfl (Sub.cons rfl (Sub.cons rfl (Sub.cons rfl (Sub.cons (congrArg (fun z => some (Value.int IntKind.i64 z)) (by omega)) Sub.nil))))) (List.Perm.refl _)
      · skip
        try simp only [vN_T, vN_F, nmE_T, nmE_F, wI_T, wI_F, data_T, data_F, ino_T, ino_F, notT, notF, bneT, bneF, beqT, beqF, decT, decF] at h12
        have hod : k % 2 = 1 := by omega
        obtain ⟨W', y, rfl, hy⟩ := hs.2.2.2 hod
        refine At.region ?_
        refine At.val (Val.move rfl) rfl rfl rfl ?_
        refine At.val (Val.move rfl) rfl rfl rfl ?_
        refine At.val (Val.lenRow (i := 1) Tryd.underlying156 rfl rfl) rfl rfl rfl ?_
        refine At.val (Val.bin rfl rfl rfl) rfl rfl rfl ?_
        rw [show IntKind.i64.wrap (((W' ++ [y]).length : Int) - 1) = ((W'.length : Nat) : Int) from by rw [List.length_append, List.length_singleton]; rw [wrap_i64 (by omega) (by have := hs.2.1; simp at this; omega)]; omega]
        refine At.val (Val.indexRow (i := 1) W'.length (by simp) Tryd.underlying156 Tryd.sizeOf40 rfl rfl rfl (by simp) (by simp; try omega)) rfl rfl rfl ?_
        refine At.val (Val.loadRow (i := 1) (u := b64 y) Tryd.isAgg40 rfl rfl (by simp)) rfl rfl rfl ?_
        refine At.val (Val.move rfl) rfl rfl rfl ?_
        refine At.val (Val.shl rfl rfl (by decide)) rfl rfl rfl ?_
        rw [ofNat_toNat (n := spW q7) (by omega), show IntKind.u64.wrap (((spW q7 : Nat) : Int) * 2 ^ min (32 : Int).toNat IntKind.u64.bits) = ((4294967296 * spW q7 : Nat) : Int) from by rw [show (2 : Int) ^ min (32 : Int).toNat IntKind.u64.bits = 4294967296 from rfl, wrap_u64 (by omega) (by omega)]; omega]
        refine At.val (Val.bin rfl rfl rfl) rfl rfl rfl ?_
        rw [u64_or (a := y.toNat) (b := 4294967296 * spW q7) (by omega) (by omega), show (4294967296 : Nat) = 2 ^ 32 from rfl, or_shift (by simpa using hy), show (2 : Nat) ^ 32 = 4294967296 from rfl, nat_b64 (n := y.toNat + 4294967296 * spW q7) (by omega)]
        refine At.val (Val.indexRow (i := 1) W'.length (by simp) Tryd.underlying156 Tryd.sizeOf40 rfl rfl rfl (by simp) (by simp; try omega)) rfl rfl rfl ?_
        refine At.storeRow (i := 1) Tryd.sizeOf40 rfl rfl rfl rfl (by simp) ?_
        simp only [List.set_cons_zero, List.set_cons_succ]
        rw [set_last, show (W' ++ [y]).length = (W' ++ [BitVec.ofNat 64 (y.toNat + 4294967296 * spW q7)]).length from by simp]
        refine At.nil ?_
        refine At.blkN ?_
        refine At.thenN ?_
        refine At.region ?_
        first | refine At.val (Val.addI rfl rfl (by omega) (by omega)) rfl rfl rfl ?_ | refine At.val (Val.bin rfl rfl rfl) rfl rfl rfl ?_
        refine At.val (Val.move rfl) rfl rfl rfl ?_
        refine At.nil ?_
        refine At.thenN ?_
        refine At.drop 0 ?_
        simp only [List.eraseIdx_cons_zero, List.eraseIdx_cons_succ]
        exact At.again (k + 1, (W' ++ [BitVec.ofNat 64 (y.toNat + 4294967296 * spW q7)]), vk) ⟨(show k + 1 ≤ _ by omega), wi_odd hs.2 hod hy hqk hw2⟩ (by dsimp only; omega) (Sub.cons rfl (Sub.cons rfl (Sub.cons rfl (Sub.cons rfl (Sub.cons (congrArg (fun z => some (Value.int IntKind.i64 z)) (by omega)) Sub.nil))))) (List.Perm.refl _)
    · skip
      try simp only [vN_T, vN_F, nmE_T, nmE_F, wI_T, wI_F, data_T, data_F, ino_T, ino_F, notT, notF, bneT, bneF, beqT, beqF, decT, decF] at h4
      obtain rfl : k = L.length := by omega
      have hWb := hs.2.2.1
      rw [List.take_length] at hWb
      have hZ := svZ_length t L
      have hM := svM_length t L
      refine At.exitC ?_
      refine At.thenX ?_
      refine At.thenX ?_
      refine At.blkX ?_
      refine At.thenN ?_
      refine At.seq ?_
      refine At.region ?_
      refine At.val (Val.move rfl) rfl rfl rfl ?_
      refine At.callN (fun w hw => (show NewRow Tryd.prog 103 _ 5 1 (svZ t L).length ((svZ t L).map bv) w from by have := bytes_n _ W w (row_rd (hw.row (i := 0) rfl) (by decide)) (by rw [hs.2.1]; omega); rwa [hWb] at this)) Tryd.call103 rfl rfl (fun v15 => ?_)
      refine At.val (Val.assign rfl) rfl rfl rfl ?_
      refine At.nil ?_
      refine At.thenN ?_
      refine At.seq ?_
      refine At.region ?_
      refine At.val (Val.move rfl) rfl rfl rfl ?_
      refine At.rowSome (i := 0) rfl (by omega) (fun bz cz hv' => ?_)
      subst hv'
      refine At.copyStrRow (i := 0) (o := 0) Tryd.underlying54 Tryd.sizeOf5 rfl rfl rfl (by rw [hZ]; show 8 ≤ _; omega) (by rw [hZ]; show 0 + 8 ≤ _; omega) rfl ?_
      simp only [List.set_cons_zero, List.set_cons_succ]
      rw [svM_of t L [70, 85, 82, 82, 79, 87, 83, 86] rfl]
      rw [show (svZ t L).length = (svM t L).length from by rw [hZ, hM]]
      refine At.nil ?_
      refine At.thenN ?_
      refine At.seq ?_
      refine At.region ?_
      refine At.val (Val.move rfl) rfl rfl rfl ?_
      refine At.val (Val.move rfl) rfl rfl rfl ?_
      refine At.callP (fun w hw => (by have := svSum_p _ (svM t L) L.length w (ht.mod hw.mod) (row_rd (hw.row (i := 0) rfl) (by decide)) (by omega) (by omega); rwa [svM_sum] at this)) Tryd.call104 rfl rfl ?_
      refine At.val (Val.assign rfl) rfl rfl rfl ?_
      refine At.nil ?_
      refine At.rowCap (i := 0) rfl (fun hcz => ?_)
      refine At.thenN ?_
      refine At.seq ?_
      apply At.any (t := 7)
      · rfl
      refine KAt.pin (fun w hw => hw.drop (List.Sublist.cons _ (List.Sublist.cons _ (List.Sublist.refl _)))) ?_
      refine KAt.take 0 (Val.move rfl) rfl rfl rfl rfl (fun w hw => hw.drop (List.Sublist.cons _ (List.Sublist.cons _ (List.Sublist.refl _)))) (by decide +kernel) ?_
      refine KAt.take 1 (Val.cutSl (b := bz) (o := 0) (lo := some (.const (.int .i64 20))) (hi := some (.const (.int .i64 24))) 20 24 20 4 (cz - 20) Tryd.underlying54 Tryd.sizeOf5 rfl ⟨_, _, rfl, by omega, by omega⟩ ⟨_, _, rfl, by omega, by omega⟩ (by omega) (by omega) (by rw [if_neg (by omega)]) rfl rfl) rfl rfl rfl rfl (fun w hw => hw.drop (List.Sublist.cons _ (List.Sublist.cons _ (List.Sublist.refl _)))) (by decide +kernel) ?_
      refine KAt.take 2 (Val.move rfl) rfl rfl rfl rfl (fun w hw => hw.drop (List.Sublist.cons _ (List.Sublist.cons _ (List.Sublist.refl _)))) (by decide +kernel) ?_
      refine KAt.take 3 (Val.toU Tryd.underlying48 Tryd.underlying40 rfl (by omega) (by have := (svSum t L).isLt; show ((svSum t L).toNat : Int) < _; omega)) rfl rfl rfl rfl (fun w hw => hw.drop (List.Sublist.cons _ (List.Sublist.cons _ (List.Sublist.refl _)))) (by decide +kernel) ?_
      rw [show Value.int .u64 ((sumOn 0 (hd20 t L.length ++ spB L)).toNat : Int) = b64 (BitVec.ofNat 64 (svSum t L).toNat) from nat_b64 (n := (svSum t L).toNat) (by have := (svSum t L).isLt; omega)]
      refine KAt.only 4 rfl (by decide +kernel) ?_
      refine At.buildSl (fun a ha => by simp only [List.map_toArray, List.map_cons, List.map_nil, ha.eval (x := (.tmp 67)) rfl]; try rfl) (bs_156_1 _ ) rfl (fun b16 => ?_)
      refine At.nil ?_
      refine KAt.go (fun w hw => hw.drop (List.Sublist.cons _ (List.Sublist.cons _ (List.Sublist.cons _ (List.Sublist.refl _))))) ?_
      refine KAt.only 5 rfl (by decide +kernel) ?_
      refine At.callN (fun w hw => (show NewRow Tryd.prog 103 _ 5 1 (le 8 (svSum t L).toNat).length ((le 8 (svSum t L).toNat).map bv) w from by have := bytes_n _ [BitVec.ofNat 64 (svSum t L).toNat] w ((hw.blk (i := 0) rfl).words rfl) (by simp); rwa [show bytesW [BitVec.ofNat 64 (svSum t L).toNat] = le 8 (svSum t L).toNat from by rw [show bytesW [BitVec.ofNat 64 (svSum t L).toNat] = le 8 (BitVec.ofNat 64 (svSum t L).toNat).toNat ++ [] from rfl, List.append_nil, ofNat_toNat (by have := (svSum t L).isLt; omega)]] at this)) Tryd.call103 rfl rfl (fun v17 => ?_)
      refine At.nil ?_
      refine KAt.go (fun w hw => hw.drop (List.Sublist.cons _ (List.Sublist.cons _ (List.Sublist.cons _ (List.Sublist.cons _ (List.Sublist.refl _)))))) ?_
      refine KAt.only 6 rfl (by decide +kernel) ?_
      refine At.copyCutRow (i := 2) (j := 0) (o := 20) (m := 4) (s := le 8 (svSum t L).toNat) Tryd.underlying54 Tryd.sizeOf5 rfl rfl rfl rfl (by rw [le_length]; decide) (by decide) (by omega) rfl ?_
      simp only [List.set_cons_zero, List.set_cons_succ]
      rw [svB_of, show (svM t L).length = (svB t L).length from by rw [hM, svB_length]]
      refine At.nil ?_
      refine KAt.go (fun w hw => hw.drop (List.Sublist.cons _ (List.Sublist.cons _ (List.Sublist.cons _ (List.Sublist.cons _ (List.Sublist.refl _)))))) ?_
      refine KAt.done (by decide +kernel) ?_
      refine At.thenN ?_
      refine At.seq ?_
      refine At.region ?_
      refine At.val (Val.move rfl) rfl rfl rfl ?_
      refine At.val (Val.assign rfl) rfl rfl rfl ?_
      refine At.val (Val.assign rfl) rfl rfl rfl ?_
      refine At.nil ?_
      refine At.thenN ?_
      refine At.retC ?_
      refine At.ret2 (.inl rfl) rfl rfl rfl rfl (fun w hw => ?_)
      exact ⟨_, by rw [svE_T hg], by rw [svP_T hg]; exact (hw.drop (List.singleton_sublist.2 (List.mem_of_getElem? (i := 2) rfl))).f0⟩

end Go.Proofs.YtoiebgnmknbkjaaDoor
