/- Words turned; good slots made. -/
import Derived.Test.YtoiebgnmknbkjaaDoorB16
import Derived.Test.YtoiebgnmknbkjaaDoorB11
import Derived.Test.YtoiebgnmknbkjaaDoorWv
set_option linter.unusedVariables false
set_option linter.unusedSimpArgs false
namespace Go.Proofs.YtoiebgnmknbkjaaDoor
open Go Go.Wk

def wd (i k' l' h' t' : Int) (m : Nat) : BitVec 64 := if m = 0 then w0_ i k' l' else if m = 1 then w1_ i h' else w2_ i t'
theorem or_lists {i k l h t k' l' h' t' : Int} : ∃ K : List Nat, chs i k l h t k' l' h' t' 3 = K.map (fun m : Nat => (slotAt i + 8 * (m : Int), wd i k' l' h' t' m)) ∧ K ∈ ([[], [0], [1], [2], [0, 1], [0, 2], [1, 2], [0, 1, 2]] : List (List Nat)) ∧
    (0 ∈ K ↔ (k ≠ k' ∨ l ≠ l')) ∧ (1 ∈ K ↔ (k' ≠ 0 ∧ t' > 0 ∧ (k = 0 ∨ t = 0 ∨ h ≠ h'))) ∧ (2 ∈ K ↔ (k' ≠ 0 ∧ (k = 0 ∨ t ≠ t'))) := by
  by_cases d0 : k ≠ k' ∨ l ≠ l' <;> by_cases d1 : k' ≠ 0 ∧ t' > 0 ∧ (k = 0 ∨ t = 0 ∨ h ≠ h') <;> by_cases d2 : k' ≠ 0 ∧ (k = 0 ∨ t ≠ t')
  · exact ⟨[0, 1, 2], by simp only [chs, ch0, ch1, ch2, if_pos d0, if_pos d1, if_pos d2]; simp [wd], by simp, by simp [d0], by simp [d1], by simp [d2]⟩
  · exact ⟨[0, 1], by simp only [chs, ch0, ch1, ch2, if_pos d0, if_pos d1, if_neg d2]; simp [wd], by simp, by simp [d0], by simp [d1], by simp only [iff_false_intro d2]; simp⟩
  · exact ⟨[0, 2], by simp only [chs, ch0, ch1, ch2, if_pos d0, if_neg d1, if_pos d2]; simp [wd], by simp, by simp [d0], by simp only [iff_false_intro d1]; simp, by simp [d2]⟩
  · exact ⟨[0], by simp only [chs, ch0, ch1, ch2, if_pos d0, if_neg d1, if_neg d2]; simp [wd], by simp, by simp [d0], by simp only [iff_false_intro d1]; simp, by simp only [iff_false_intro d2]; simp⟩
  · exact ⟨[1, 2], by simp only [chs, ch0, ch1, ch2, if_neg d0, if_pos d1, if_pos d2]; simp [wd], by simp, by simp only [iff_false_intro d0]; simp, by simp [d1], by simp [d2]⟩
  · exact ⟨[1], by simp only [chs, ch0, ch1, ch2, if_neg d0, if_pos d1, if_neg d2]; simp [wd], by simp, by simp only [iff_false_intro d0]; simp, by simp [d1], by simp only [iff_false_intro d2]; simp⟩
  · exact ⟨[2], by simp only [chs, ch0, ch1, ch2, if_neg d0, if_neg d1, if_pos d2]; simp [wd], by simp, by simp only [iff_false_intro d0]; simp, by simp only [iff_false_intro d1]; simp, by simp [d2]⟩
  · exact ⟨[], by simp only [chs, ch0, ch1, ch2, if_neg d0, if_neg d1, if_neg d2]; simp [wd], by simp, by simp only [iff_false_intro d0]; simp, by simp only [iff_false_intro d1]; simp, by simp only [iff_false_intro d2]; simp⟩
def KS : List (List Nat) := [[], [0], [1], [2], [0, 1], [0, 2], [1, 2], [0, 1, 2]]
def pvN (K : List Nat) (j : Nat) : Nat := match (K.take j).getLast? with | none => 0 | some m => m + 1
theorem pv_all : ∀ K ∈ KS, ∀ j : Fin 3, ∀ m : Fin 10, K[j.1]? = some m.1 → m.1 ≤ 2 ∧ pvN K j.1 ≤ m.1 ∧ pvN K (j.1 + 1) = m.1 + 1 ∧ K.take (j.1 + 1) = K.take j.1 ++ [m.1] := by decide +kernel
theorem ks_len : ∀ K ∈ KS, K.length ≤ 3 := by decide +kernel
theorem ks_lt : ∀ K ∈ KS, ∀ m ∈ K, m < 10 := by decide +kernel
theorem pv_at {K : List Nat} (hK : K ∈ KS) {j m : Nat} (h : K[j]? = some m) : m ≤ 2 ∧ pvN K j ≤ m ∧ pvN K (j + 1) = m + 1 ∧ K.take (j + 1) = K.take j ++ [m] := by
  have hj : j < 3 := by have := (List.getElem?_eq_some_iff.1 h).1; have := ks_len K hK; omega
  exact pv_all K hK ⟨j, hj⟩ ⟨m, ks_lt K hK m (List.mem_of_getElem? h)⟩ h
def pvA (i : Int) (K : List Nat) (j : Nat) : Int := if pvN K j = 0 then -1 else slotAt i + 8 * ((pvN K j : Int) - 1)
theorem pvA_0 (i : Int) (K : List Nat) : pvA i K 0 = -1 := rfl
theorem pvA_lt {i : Int} {K : List Nat} (hK : K ∈ KS) (hs : 0 ≤ slotAt i) {j m : Nat} (h : K[j]? = some m) : pvA i K j < slotAt i + 8 * (m : Int) ∧ pvA i K (j + 1) = slotAt i + 8 * (m : Int) := by
  obtain ⟨h1, h2, h3, _⟩ := pv_at hK h
  unfold pvA
  rw [h3]
  refine ⟨?_, by rw [if_neg (by omega)]; omega⟩
  split <;> omega
def pick3 (T : List Nat) (m : Nat) (a b : BitVec 64) : BitVec 64 := if m ∈ T then a else b
/-- The words of which some have been turned. -/
def vW (i k' l' h' t' : Int) (T : List Nat) (x y z : BitVec 64) : List Value := [b64 (pick3 T 0 (w0_ i k' l') x), b64 (pick3 T 1 (w1_ i h') y), b64 (pick3 T 2 (w2_ i t') z)]
theorem vW_set {i k' l' h' t' : Int} {T : List Nat} {x y z : BitVec 64} {m : Nat} (hm : m ≤ 2) : (vW i k' l' h' t' T x y z).set m (b64 (wd i k' l' h' t' m)) = vW i k' l' h' t' (T ++ [m]) x y z := by
  rcases (show m = 0 ∨ m = 1 ∨ m = 2 by omega) with rfl | rfl | rfl <;> simp [vW, wd, pick3]
def uW (a b c d : BitVec 64) (m : Nat) : List Value := [b64 (if m = 0 then d else a), b64 (if m = 1 then d else b), b64 (if m = 2 then d else c)]
theorem uW_set {a b c d : BitVec 64} {m : Nat} (hm : m ≤ 2) : ([b64 a, b64 b, b64 c] : List Value).set m (b64 d) = uW a b c d m := by
  rcases (show m = 0 ∨ m = 1 ∨ m = 2 by omega) with rfl | rfl | rfl <;> simp [uW]
def x3 (x y z : BitVec 64) (m : Nat) : BitVec 64 := if m = 0 then x else if m = 1 then y else z
theorem x3_at {x y z : BitVec 64} {m : Nat} (hm : m ≤ 2) : ([b64 x, b64 y, b64 z] : List Value)[m]? = some (b64 (x3 x y z m)) := by
  rcases (show m = 0 ∨ m = 1 ∨ m = 2 by omega) with rfl | rfl | rfl <;> simp [x3]
theorem loW {a : BitVec 64} {n : Int} (h0 : 0 ≤ n) (h1 : n < 4294967296) : (lo (sealW a (BitVec.ofInt 32 n)) : Int) = n := by
  unfold lo; rw [seal_low]
  have : (BitVec.ofInt 32 n).toNat = n.toNat := by simp [BitVec.toNat_ofInt]; omega
  omega
theorem SlW (a : Int) (v : BitVec 32) : Sl a (sealW (BitVec.ofInt 64 a) v) := by unfold Sl; rw [seal_low]
theorem turn_ok {i k' l' h' t' : Int} (hi : isInoB i = true) (g : GoodS k' l' h' t') {x y z : BitVec 64} (ex : x = w0_ i k' l') (ez : k' ≠ 0 → z = w2_ i t') (ey : k' ≠ 0 → t' > 0 → y = w1_ i h') :
    OkSl i x y z ∧ slotOf x y z = .agg #[.int .i64 k', .int .i64 l', .int .i64 h', .int .i64 t'] := by
  rcases g with ⟨rfl, rfl, rfl, rfl⟩ | g
  · have : x = 0 := by rw [ex]; unfold w0_; exact seal_zero rfl
    subst this
    exact ⟨⟨hi, by unfold Sl; exact seal_zero rfl, .inl rfl⟩, slotOf_0 rfl⟩
  · have g' := g
    unfold GoodU GoodT at g'
    have hk : k' ≠ 0 := by omega
    have lx : (lo x : Int) = k' + 256 * l' := by rw [ex]; exact loW (by omega) (by omega)
    have lz : (lo z : Int) = t' := by rw [ez hk]; exact loW (by omega) (by omega)
    have hx : ¬ lo x = 0 := by omega
    have hd : (hdOf y z : Int) = h' := by
      by_cases h0 : lo z = 0
      · rw [hdOf_0 h0]; omega
      · rw [hdOf_1 h0, ey hk (by omega)]; exact loW (by omega) (by omega)
    have e1 : ((lo x % 256 : Nat) : Int) = k' := by omega
    have e2 : ((lo x / 256 : Nat) : Int) = l' := by omega
    refine ⟨⟨hi, by rw [ex]; exact SlW _ _, .inr ⟨by rw [ez hk]; exact SlW _ _, ?_, by rw [e1, e2, hd, lz]; exact g⟩⟩, by rw [slotOf_1 hx, e1, e2, hd, lz]⟩
    by_cases h0 : lo z = 0
    · exact .inl h0
    · rw [ey hk (by omega)]; exact .inr (SlW _ _)
theorem agg4 {a b c d a' b' c' d' : Int} (h : (Value.agg #[.int .i64 a, .int .i64 b, .int .i64 c, .int .i64 d]) = .agg #[.int .i64 a', .int .i64 b', .int .i64 c', .int .i64 d']) : a = a' ∧ b = b' ∧ c = c' ∧ d = d' := by
  simpa using h
theorem turn_min {i k l h t k' l' h' t' : Int} (g : GoodS k l h t) (g' : GoodS k' l' h' t') {x y z : BitVec 64} {m : Nat} (hm : m = 0 ∧ x = w0_ i k l ∧ (k ≠ k' ∨ l ≠ l') ∨ m = 1 ∧ k' ≠ 0 ∧ t' > 0 ∧ h ≠ h' ∧ k ≠ 0 ∧ t ≠ 0 ∧ x = w0_ i k' l' ∧ y = w1_ i h ∧ z = w2_ i t' ∨ m = 2 ∧ k' ≠ 0 ∧ k ≠ 0 ∧ t ≠ t' ∧ x = w0_ i k' l' ∧ z = w2_ i t) :
    slotOf x y z ≠ .agg #[.int .i64 k', .int .i64 l', .int .i64 h', .int .i64 t'] := fun e => by
  have b : 0 ≤ k ∧ k ≤ 2 ∧ 0 ≤ l ∧ l ≤ 100 ∧ 0 ≤ h ∧ h ≤ 1023 ∧ 0 ≤ t ∧ t < 600000 ∧ (k = 0 → l = 0) := by unfold GoodS GoodU GoodT at g; omega
  have b' : 0 ≤ k' ∧ k' ≤ 2 ∧ 0 ≤ l' ∧ l' ≤ 100 ∧ 0 ≤ h' ∧ h' ≤ 1023 ∧ 0 ≤ t' ∧ t' < 600000 := by unfold GoodS GoodU GoodT at g'; omega
  by_cases h0 : lo x = 0
  · rw [slotOf_0 h0] at e
    obtain ⟨e1, e2, e3, e4⟩ := agg4 e
    rcases hm with ⟨_, hx, hd⟩ | ⟨_, hk, _⟩ | ⟨_, hk, _⟩
    · have : (lo x : Int) = k + 256 * l := by rw [hx]; exact loW (by omega) (by omega)
      omega
    · omega
    · omega
  · rw [slotOf_1 h0] at e
    obtain ⟨e1, e2, e3, e4⟩ := agg4 e
    rcases hm with ⟨_, hx, hd⟩ | ⟨_, hk, ht', hh, hk0, ht0, hx, hy, hz⟩ | ⟨_, hk, hk0, htt, hx, hz⟩
    · have : (lo x : Int) = k + 256 * l := by rw [hx]; exact loW (by omega) (by omega)
      omega
    · have lz : (lo z : Int) = t' := by rw [hz]; exact loW (by omega) (by omega)
      have ly : (lo y : Int) = h := by rw [hy]; exact loW (by omega) (by omega)
      rw [hdOf_1 (by omega)] at e3
      omega
    · have lz : (lo z : Int) = t := by rw [hz]; exact loW (by omega) (by omega)
      omega
theorem openMin_x (i : Int) (x y z : BitVec 64) (k' l' h' t' : Int) (w : World) (ht : Tab w) (hn : slotOf x y z ≠ .agg #[.int .i64 k', .int .i64 l', .int .i64 h', .int .i64 t']) :
    SomeC Tryd.prog 42 [.int .i64 i, .agg #[b64 x, b64 y, b64 z]] (fun v => ∃ a b c d e : Int, v = .tuple #[.agg #[.int .i64 a, .int .i64 b, .int .i64 c, .int .i64 d], .int .i64 e] ∧ ¬ (e = 0 ∧ a = k' ∧ b = l' ∧ c = h' ∧ d = t')) w := by
  refine (openSlot_p i x y z w ht).mono fun e w' ⟨he, hm⟩ => ⟨_, ?_, he, hm⟩
  by_cases hok : OkSl i x y z
  · rw [openSlot_yes hok]
    by_cases h0 : lo x = 0
    · rw [slotOf_0 h0] at hn ⊢
      exact ⟨_, _, _, _, _, rfl, fun ⟨_, e1, e2, e3, e4⟩ => hn (by rw [← e1, ← e2, ← e3, ← e4])⟩
    · rw [slotOf_1 h0] at hn ⊢
      exact ⟨_, _, _, _, _, rfl, fun ⟨_, e1, e2, e3, e4⟩ => hn (by rw [← e1, ← e2, ← e3, ← e4])⟩
  · rw [openSlot_no hok]
    exact ⟨_, _, _, _, _, rfl, fun ⟨e0, _⟩ => by omega⟩

theorem mod06_p (v n : Int) (w : World) (h0 : 0 < n) (hn : n ≤ 4611686018427387904) :
    PureC Tryd.prog 71 [.int .i64 v, .int .i64 n] (.int .i64 (v % n)) w := by
  refine enter0 Tryd.func71 rfl Tryd.ntmps71 rfl ?_
  simp only [envOf]
  refine At.seq ?_
  refine At.region ?_
  refine At.val (Val.assign rfl) rfl rfl rfl ?_
  refine At.nil ?_
  refine At.thenN ?_
  refine At.seq ?_
  refine At.region ?_
  refine At.val (Val.move rfl) rfl rfl rfl ?_
  refine At.val (Val.move rfl) rfl rfl rfl ?_
  refine At.val (Val.rem rfl rfl (by omega)) rfl rfl rfl ?_
  refine At.val (Val.assign rfl) rfl rfl rfl ?_
  refine At.nil ?_
  refine At.thenN ?_
  refine At.seq ?_
  refine At.seq ?_
  refine At.region ?_
  refine At.val (Val.move rfl) rfl rfl rfl ?_
  refine At.val (Val.bin rfl rfl rfl) rfl rfl rfl ?_
  refine At.nil ?_
  refine At.thenN ?_
  refine At.cond rfl (fun h1 => ?_) (fun h1 => ?_)
  · skip
    refine At.region ?_
    refine At.val (Val.move rfl) rfl rfl rfl ?_
    refine At.val (Val.move rfl) rfl rfl rfl ?_
    refine At.val (Val.bin rfl rfl rfl) rfl rfl rfl ?_
    refine At.val (Val.assign rfl) rfl rfl rfl ?_
    refine At.nil ?_
    refine At.thenN ?_
    refine At.seq ?_
    refine At.region ?_
    refine At.val (Val.move rfl) rfl rfl rfl ?_
    refine At.val (Val.assign rfl) rfl rfl rfl ?_
    refine At.nil ?_
    refine At.thenN ?_
    refine At.retC ?_
    refine At.ret1 (.inl rfl) rfl rfl rfl (fun w hw => ?_)
    exact ⟨retI (by rw [← mod_wrap h0 hn, if_pos (by simpa using h1)]), hw.mod⟩
  · skip
    refine At.skipC ?_
    refine At.thenN ?_
    refine At.seq ?_
    refine At.region ?_
    refine At.val (Val.move rfl) rfl rfl rfl ?_
    refine At.val (Val.assign rfl) rfl rfl rfl ?_
    refine At.nil ?_
    refine At.thenN ?_
    refine At.retC ?_
    refine At.ret1 (.inl rfl) rfl rfl rfl (fun w hw => ?_)
    exact ⟨retI (by rw [← mod_wrap h0 hn, if_neg (by simpa using h1)]), hw.mod⟩

theorem slot06_x (n0 n1 n2 n3 n4 : Int) (w : World) :
    SomeC Tryd.prog 72 [.agg #[.int .i64 n0, .int .i64 n1, .int .i64 n2, .int .i64 n3, .int .i64 n4]] (fun v => ∃ k l h t : Int, v = .agg #[.int .i64 k, .int .i64 l, .int .i64 h, .int .i64 t] ∧ GoodS k l h t) w := by
  refine enter0 Tryd.func72 rfl Tryd.ntmps72 rfl ?_
  simp only [envOf]
  refine At.seq ?_
  refine At.region ?_
  refine At.box rfl rfl rfl (fun b1 => ?_)
  refine At.alloc Tryd.zeroValue65 rfl rfl (fun b2 => ?_)
  refine At.nil ?_
  refine At.thenN ?_
  refine At.seq ?_
  refine At.region ?_
  refine At.val (Val.indexArr 0 rfl Tryd.underlying119 Tryd.sizeOf3 rfl rfl (by decide) (by decide)) rfl rfl rfl ?_
  refine At.val (Val.load (i := 1) Tryd.isAgg3 rfl rfl rfl) rfl rfl rfl ?_
  refine At.callP (fun w hw => mod06_p _ _ w (by decide) (by decide)) Tryd.call71 rfl rfl ?_
  refine At.val (Val.build (fun a ha => by simp only [List.map_toArray, List.map_cons, List.map_nil, ha.eval (x := (.tmp 6)) rfl] <;> rfl) (bld_65_0 _ )) rfl rfl rfl ?_
  refine At.alloc Tryd.zeroValue65 rfl rfl (fun b3 => ?_)
  refine At.storeAll (i := 0) Tryd.sizeOf65 rfl rfl rfl (by simp [Value.oneCell']) rfl rfl ?_
  simp only [List.set_cons_zero, List.set_cons_succ]
  refine At.nil ?_
  refine At.thenN ?_
  refine At.seq ?_
  refine At.seq ?_
  refine At.region ?_
  refine At.val (Val.field 0 rfl fo_65_0 rfl) rfl rfl rfl ?_
  refine At.val (Val.load (i := 0) Tryd.isAgg3 rfl rfl rfl) rfl rfl rfl ?_
  refine At.val (Val.bin rfl rfl rfl) rfl rfl rfl ?_
  refine At.nil ?_
  refine At.thenN ?_
  refine At.cond rfl (fun h4 => ?_) (fun h4 => ?_)
  · skip
    try simp only [vN_T, vN_F, nmE_T, nmE_F, wI_T, wI_F, data_T, data_F, ino_T, ino_F, notT, notF, bneT, bneF, beqT, beqF, decT, decF] at h4
    refine At.seq ?_
    refine At.region ?_
    refine At.val (Val.loadAll (i := 0) Tryd.isAgg65 Tryd.sizeOf65 rfl rfl rfl) rfl rfl rfl ?_
    refine At.storeAll (i := 1) Tryd.sizeOf65 rfl rfl rfl (by simp [Value.oneCell']) rfl rfl ?_
    simp only [List.set_cons_zero, List.set_cons_succ]
    refine At.nil ?_
    refine At.thenN ?_
    refine At.retC ?_
    refine At.thenR ?_
    refine At.ret1 (.inl rfl) rfl rfl (ResOf.all (i := 1) Tryd.isAgg65 Tryd.sizeOf65 rfl rfl rfl) (fun w hw => ?_)
    exact ⟨_, ⟨_, _, _, _, rfl, by unfold GoodS GoodU GoodT; omega⟩, rfl, hw.mod⟩
  · skip
    try simp only [vN_T, vN_F, nmE_T, nmE_F, wI_T, wI_F, data_T, data_F, ino_T, ino_F, notT, notF, bneT, bneF, beqT, beqF, decT, decF] at h4
    refine At.skipC ?_
    refine At.thenN ?_
    refine At.seq ?_
    refine At.region ?_
    refine At.val (Val.field 1 rfl fo_65_1 rfl) rfl rfl rfl ?_
    refine At.store (i := 0) Tryd.sizeOf3 rfl rfl rfl rfl (by first | decide | simp) ?_
    simp only [List.set_cons_zero, List.set_cons_succ]
    refine At.nil ?_
    refine At.thenN ?_
    refine At.seq ?_
    refine At.seq ?_
    refine At.region ?_
    refine At.val (Val.field 0 rfl fo_65_0 rfl) rfl rfl rfl ?_
    refine At.val (Val.load (i := 0) Tryd.isAgg3 rfl rfl rfl) rfl rfl rfl ?_
    refine At.val (Val.bin rfl rfl rfl) rfl rfl rfl ?_
    refine At.nil ?_
    refine At.thenN ?_
    refine At.cond rfl (fun h5 => ?_) (fun h5 => ?_)
    · skip
      try simp only [vN_T, vN_F, nmE_T, nmE_F, wI_T, wI_F, data_T, data_F, ino_T, ino_F, notT, notF, bneT, bneF, beqT, beqF, decT, decF] at h5
      refine At.region ?_
      refine At.val (Val.indexArr 1 rfl Tryd.underlying119 Tryd.sizeOf3 rfl rfl (by decide) (by decide)) rfl rfl rfl ?_
      refine At.val (Val.load (i := 2) Tryd.isAgg3 rfl rfl rfl) rfl rfl rfl ?_
      refine At.callP (fun w hw => mod06_p _ _ w (by decide) (by decide)) Tryd.call71 rfl rfl ?_
      first | refine At.val (Val.addI rfl rfl (by omega) (by omega)) rfl rfl rfl ?_ | refine At.val (Val.bin rfl rfl rfl) rfl rfl rfl ?_
      refine At.val (Val.field 1 rfl fo_65_1 rfl) rfl rfl rfl ?_
      refine At.store (i := 0) Tryd.sizeOf3 rfl rfl rfl rfl (by first | decide | simp) ?_
      simp only [List.set_cons_zero, List.set_cons_succ]
      refine At.nil ?_
      refine At.thenN ?_
      refine At.seq ?_
      refine At.seq ?_
      refine At.region ?_
      refine At.val (Val.indexArr 4 rfl Tryd.underlying119 Tryd.sizeOf3 rfl rfl (by decide) (by decide)) rfl rfl rfl ?_
      refine At.val (Val.load (i := 2) Tryd.isAgg3 rfl rfl rfl) rfl rfl rfl ?_
      refine At.callP (fun w hw => mod06_p _ _ w (by decide) (by decide)) Tryd.call71 rfl rfl ?_
      refine At.val (Val.bin rfl rfl rfl) rfl rfl rfl ?_
      refine At.nil ?_
      refine At.thenN ?_
      refine At.cond rfl (fun h6 => ?_) (fun h6 => ?_)
      · skip
        try simp only [vN_T, vN_F, nmE_T, nmE_F, wI_T, wI_F, data_T, data_F, ino_T, ino_F, notT, notF, bneT, bneF, beqT, beqF, decT, decF] at h6
        refine At.seq ?_
        refine At.region ?_
        refine At.val (Val.indexArr 2 rfl Tryd.underlying119 Tryd.sizeOf3 rfl rfl (by decide) (by decide)) rfl rfl rfl ?_
        refine At.val (Val.load (i := 2) Tryd.isAgg3 rfl rfl rfl) rfl rfl rfl ?_
        refine At.callP (fun w hw => mod06_p _ _ w (by decide) (by decide)) Tryd.call71 rfl rfl ?_
        first | refine At.val (Val.addI rfl rfl (by omega) (by omega)) rfl rfl rfl ?_ | refine At.val (Val.bin rfl rfl rfl) rfl rfl rfl ?_
        refine At.val (Val.field 2 rfl fo_65_2 rfl) rfl rfl rfl ?_
        refine At.store (i := 0) Tryd.sizeOf3 rfl rfl rfl rfl (by first | decide | simp) ?_
        simp only [List.set_cons_zero, List.set_cons_succ]
        refine At.nil ?_
        refine At.thenN ?_
        apply At.any (t := 13)
        · rfl
        refine KAt.pin (fun w hw => hw.drop (List.Sublist.cons _ (List.Sublist.cons _ (List.Sublist.cons_cons _ (List.Sublist.refl _))))) ?_
        refine KAt.take 0 (Val.indexArr 3 rfl Tryd.underlying119 Tryd.sizeOf3 rfl rfl (by decide) (by decide)) rfl rfl rfl rfl (fun w hw => hw.drop (List.Sublist.cons _ (List.Sublist.cons _ (List.Sublist.cons_cons _ (List.Sublist.refl _))))) (by decide +kernel) ?_
        refine KAt.take 1 (Val.load (i := 0) Tryd.isAgg3 rfl rfl rfl) rfl rfl rfl rfl (fun w hw => hw.drop (List.Sublist.cons _ (List.Sublist.cons _ (List.Sublist.cons_cons _ (List.Sublist.refl _))))) (by decide +kernel) ?_
        refine KAt.take 6 (Val.indexArr 4 rfl Tryd.underlying119 Tryd.sizeOf3 rfl rfl (by decide) (by decide)) rfl rfl rfl rfl (fun w hw => hw.drop (List.Sublist.cons _ (List.Sublist.cons _ (List.Sublist.cons_cons _ (List.Sublist.refl _))))) (by decide +kernel) ?_
        refine KAt.take 7 (Val.load (i := 0) Tryd.isAgg3 rfl rfl rfl) rfl rfl rfl rfl (fun w hw => hw.drop (List.Sublist.cons _ (List.Sublist.cons _ (List.Sublist.cons_cons _ (List.Sublist.refl _))))) (by decide +kernel) ?_
        refine KAt.only 2 rfl (by decide +kernel) ?_
        refine At.callP (fun w hw => mod06_p _ _ w (by decide) (by decide)) Tryd.call71 rfl rfl ?_
        refine At.nil ?_
        refine KAt.go (fun w hw => hw.drop (List.Sublist.cons _ (List.Sublist.cons _ (List.Sublist.cons_cons _ (List.Sublist.refl _))))) ?_
        first | refine KAt.take 3 (Val.addI rfl rfl (by omega) (by omega)) rfl rfl rfl rfl (fun w hw => hw.drop (List.Sublist.cons _ (List.Sublist.cons _ (List.Sublist.cons_cons _ (List.Sublist.refl _))))) (by decide +kernel) ?_ | refine KAt.take 3 (Val.bin rfl rfl rfl) rfl rfl rfl rfl (fun w hw => hw.drop (List.Sublist.cons _ (List.Sublist.cons _ (List.Sublist.cons_cons _ (List.Sublist.refl _))))) (by decide +kernel) ?_
        first | refine KAt.take 4 (Val.mulI rfl rfl (by omega) (by omega)) rfl rfl rfl rfl (fun w hw => hw.drop (List.Sublist.cons _ (List.Sublist.cons _ (List.Sublist.cons_cons _ (List.Sublist.refl _))))) (by decide +kernel) ?_ | refine KAt.take 4 (Val.bin rfl rfl rfl) rfl rfl rfl rfl (fun w hw => hw.drop (List.Sublist.cons _ (List.Sublist.cons _ (List.Sublist.cons_cons _ (List.Sublist.refl _))))) (by decide +kernel) ?_
        first | refine KAt.take 5 (Val.addI rfl rfl (by omega) (by omega)) rfl rfl rfl rfl (fun w hw => hw.drop (List.Sublist.cons _ (List.Sublist.cons _ (List.Sublist.cons_cons _ (List.Sublist.refl _))))) (by decide +kernel) ?_ | refine KAt.take 5 (Val.bin rfl rfl rfl) rfl rfl rfl rfl (fun w hw => hw.drop (List.Sublist.cons _ (List.Sublist.cons _ (List.Sublist.cons_cons _ (List.Sublist.refl _))))) (by decide +kernel) ?_
        refine KAt.only 8 rfl (by decide +kernel) ?_
        refine At.callP (fun w hw => mod06_p _ _ w (by decide) (by decide)) Tryd.call71 rfl rfl ?_
        refine At.nil ?_
        refine KAt.go (fun w hw => hw.drop (List.Sublist.cons _ (List.Sublist.cons _ (List.Sublist.cons_cons _ (List.Sublist.refl _))))) ?_
        first | refine KAt.take 9 (Val.mulI rfl rfl (by omega) (by omega)) rfl rfl rfl rfl (fun w hw => hw.drop (List.Sublist.cons _ (List.Sublist.cons _ (List.Sublist.cons_cons _ (List.Sublist.refl _))))) (by decide +kernel) ?_ | refine KAt.take 9 (Val.bin rfl rfl rfl) rfl rfl rfl rfl (fun w hw => hw.drop (List.Sublist.cons _ (List.Sublist.cons _ (List.Sublist.cons_cons _ (List.Sublist.refl _))))) (by decide +kernel) ?_
        first | refine KAt.take 10 (Val.addI rfl rfl (by omega) (by omega)) rfl rfl rfl rfl (fun w hw => hw.drop (List.Sublist.cons _ (List.Sublist.cons _ (List.Sublist.cons_cons _ (List.Sublist.refl _))))) (by decide +kernel) ?_ | refine KAt.take 10 (Val.bin rfl rfl rfl) rfl rfl rfl rfl (fun w hw => hw.drop (List.Sublist.cons _ (List.Sublist.cons _ (List.Sublist.cons_cons _ (List.Sublist.refl _))))) (by decide +kernel) ?_
        refine KAt.take 11 (Val.field 3 rfl fo_65_3 rfl) rfl rfl rfl rfl (fun w hw => hw.drop (List.Sublist.cons _ (List.Sublist.cons _ (List.Sublist.cons_cons _ (List.Sublist.refl _))))) (by decide +kernel) ?_
        refine KAt.only 12 rfl (by decide +kernel) ?_
        refine At.store (i := 0) Tryd.sizeOf3 rfl rfl rfl rfl (by first | decide | simp) ?_
        simp only [List.set_cons_zero, List.set_cons_succ]
        refine At.nil ?_
        refine KAt.go (fun w hw => hw.drop (List.Sublist.cons _ (List.Sublist.cons _ (List.Sublist.cons_cons _ (List.Sublist.refl _))))) ?_
        refine KAt.done (by decide +kernel) ?_
        refine At.thenN ?_
        refine At.seq ?_
        refine At.region ?_
        refine At.val (Val.loadAll (i := 0) Tryd.isAgg65 Tryd.sizeOf65 rfl rfl rfl) rfl rfl rfl ?_
        refine At.storeAll (i := 1) Tryd.sizeOf65 rfl rfl rfl (by simp [Value.oneCell']) rfl rfl ?_
        simp only [List.set_cons_zero, List.set_cons_succ]
        refine At.nil ?_
        refine At.thenN ?_
        refine At.retC ?_
        refine At.ret1 (.inl rfl) rfl rfl (ResOf.all (i := 1) Tryd.isAgg65 Tryd.sizeOf65 rfl rfl rfl) (fun w hw => ?_)
        exact ⟨_, ⟨_, _, _, _, rfl, by unfold GoodS GoodU GoodT; omega⟩, rfl, hw.mod⟩
      · skip
        try simp only [vN_T, vN_F, nmE_T, nmE_F, wI_T, wI_F, data_T, data_F, ino_T, ino_F, notT, notF, bneT, bneF, beqT, beqF, decT, decF] at h6
        refine At.skipC ?_
        refine At.thenN ?_
        refine At.seq ?_
        refine At.region ?_
        refine At.val (Val.loadAll (i := 0) Tryd.isAgg65 Tryd.sizeOf65 rfl rfl rfl) rfl rfl rfl ?_
        refine At.storeAll (i := 1) Tryd.sizeOf65 rfl rfl rfl (by simp [Value.oneCell']) rfl rfl ?_
        simp only [List.set_cons_zero, List.set_cons_succ]
        refine At.nil ?_
        refine At.thenN ?_
        refine At.retC ?_
        refine At.ret1 (.inl rfl) rfl rfl (ResOf.all (i := 1) Tryd.isAgg65 Tryd.sizeOf65 rfl rfl rfl) (fun w hw => ?_)
        exact ⟨_, ⟨_, _, _, _, rfl, by unfold GoodS GoodU GoodT; omega⟩, rfl, hw.mod⟩
    · skip
      try simp only [vN_T, vN_F, nmE_T, nmE_F, wI_T, wI_F, data_T, data_F, ino_T, ino_F, notT, notF, bneT, bneF, beqT, beqF, decT, decF] at h5
      refine At.skipC ?_
      refine At.thenN ?_
      refine At.seq ?_
      refine At.seq ?_
      refine At.region ?_
      refine At.val (Val.indexArr 4 rfl Tryd.underlying119 Tryd.sizeOf3 rfl rfl (by decide) (by decide)) rfl rfl rfl ?_
      refine At.val (Val.load (i := 2) Tryd.isAgg3 rfl rfl rfl) rfl rfl rfl ?_
      refine At.callP (fun w hw => mod06_p _ _ w (by decide) (by decide)) Tryd.call71 rfl rfl ?_
      refine At.val (Val.bin rfl rfl rfl) rfl rfl rfl ?_
      refine At.nil ?_
      refine At.thenN ?_
      refine At.cond rfl (fun h7 => ?_) (fun h7 => ?_)
      · skip
        try simp only [vN_T, vN_F, nmE_T, nmE_F, wI_T, wI_F, data_T, data_F, ino_T, ino_F, notT, notF, bneT, bneF, beqT, beqF, decT, decF] at h7
        refine At.seq ?_
        refine At.region ?_
        refine At.val (Val.indexArr 2 rfl Tryd.underlying119 Tryd.sizeOf3 rfl rfl (by decide) (by decide)) rfl rfl rfl ?_
        refine At.val (Val.load (i := 2) Tryd.isAgg3 rfl rfl rfl) rfl rfl rfl ?_
        refine At.callP (fun w hw => mod06_p _ _ w (by decide) (by decide)) Tryd.call71 rfl rfl ?_
        first | refine At.val (Val.addI rfl rfl (by omega) (by omega)) rfl rfl rfl ?_ | refine At.val (Val.bin rfl rfl rfl) rfl rfl rfl ?_
        refine At.val (Val.field 2 rfl fo_65_2 rfl) rfl rfl rfl ?_
        refine At.store (i := 0) Tryd.sizeOf3 rfl rfl rfl rfl (by first | decide | simp) ?_
        simp only [List.set_cons_zero, List.set_cons_succ]
        refine At.nil ?_
        refine At.thenN ?_
        apply At.any (t := 13)
        · rfl
        refine KAt.pin (fun w hw => hw.drop (List.Sublist.cons _ (List.Sublist.cons _ (List.Sublist.cons_cons _ (List.Sublist.refl _))))) ?_
        refine KAt.take 0 (Val.indexArr 3 rfl Tryd.underlying119 Tryd.sizeOf3 rfl rfl (by decide) (by decide)) rfl rfl rfl rfl (fun w hw => hw.drop (List.Sublist.cons _ (List.Sublist.cons _ (List.Sublist.cons_cons _ (List.Sublist.refl _))))) (by decide +kernel) ?_
        refine KAt.take 1 (Val.load (i := 0) Tryd.isAgg3 rfl rfl rfl) rfl rfl rfl rfl (fun w hw => hw.drop (List.Sublist.cons _ (List.Sublist.cons _ (List.Sublist.cons_cons _ (List.Sublist.refl _))))) (by decide +kernel) ?_
        refine KAt.take 6 (Val.indexArr 4 rfl Tryd.underlying119 Tryd.sizeOf3 rfl rfl (by decide) (by decide)) rfl rfl rfl rfl (fun w hw => hw.drop (List.Sublist.cons _ (List.Sublist.cons _ (List.Sublist.cons_cons _ (List.Sublist.refl _))))) (by decide +kernel) ?_
        refine KAt.take 7 (Val.load (i := 0) Tryd.isAgg3 rfl rfl rfl) rfl rfl rfl rfl (fun w hw => hw.drop (List.Sublist.cons _ (List.Sublist.cons _ (List.Sublist.cons_cons _ (List.Sublist.refl _))))) (by decide +kernel) ?_
        refine KAt.only 2 rfl (by decide +kernel) ?_
        refine At.callP (fun w hw => mod06_p _ _ w (by decide) (by decide)) Tryd.call71 rfl rfl ?_
        refine At.nil ?_
        refine KAt.go (fun w hw => hw.drop (List.Sublist.cons _ (List.Sublist.cons _ (List.Sublist.cons_cons _ (List.Sublist.refl _))))) ?_
        first | refine KAt.take 3 (Val.addI rfl rfl (by omega) (by omega)) rfl rfl rfl rfl (fun w hw => hw.drop (List.Sublist.cons _ (List.Sublist.cons _ (List.Sublist.cons_cons _ (List.Sublist.refl _))))) (by decide +kernel) ?_ | refine KAt.take 3 (Val.bin rfl rfl rfl) rfl rfl rfl rfl (fun w hw => hw.drop (List.Sublist.cons _ (List.Sublist.cons _ (List.Sublist.cons_cons _ (List.Sublist.refl _))))) (by decide +kernel) ?_
        first | refine KAt.take 4 (Val.mulI rfl rfl (by omega) (by omega)) rfl rfl rfl rfl (fun w hw => hw.drop (List.Sublist.cons _ (List.Sublist.cons _ (List.Sublist.cons_cons _ (List.Sublist.refl _))))) (by decide +kernel) ?_ | refine KAt.take 4 (Val.bin rfl rfl rfl) rfl rfl rfl rfl (fun w hw => hw.drop (List.Sublist.cons _ (List.Sublist.cons _ (List.Sublist.cons_cons _ (List.Sublist.refl _))))) (by decide +kernel) ?_
        first | refine KAt.take 5 (Val.addI rfl rfl (by omega) (by omega)) rfl rfl rfl rfl (fun w hw => hw.drop (List.Sublist.cons _ (List.Sublist.cons _ (List.Sublist.cons_cons _ (List.Sublist.refl _))))) (by decide +kernel) ?_ | refine KAt.take 5 (Val.bin rfl rfl rfl) rfl rfl rfl rfl (fun w hw => hw.drop (List.Sublist.cons _ (List.Sublist.cons _ (List.Sublist.cons_cons _ (List.Sublist.refl _))))) (by decide +kernel) ?_
        refine KAt.only 8 rfl (by decide +kernel) ?_
        refine At.callP (fun w hw => mod06_p _ _ w (by decide) (by decide)) Tryd.call71 rfl rfl ?_
        refine At.nil ?_
        refine KAt.go (fun w hw => hw.drop (List.Sublist.cons _ (List.Sublist.cons _ (List.Sublist.cons_cons _ (List.Sublist.refl _))))) ?_
        first | refine KAt.take 9 (Val.mulI rfl rfl (by omega) (by omega)) rfl rfl rfl rfl (fun w hw => hw.drop (List.Sublist.cons _ (List.Sublist.cons _ (List.Sublist.cons_cons _ (List.Sublist.refl _))))) (by decide +kernel) ?_ | refine KAt.take 9 (Val.bin rfl rfl rfl) rfl rfl rfl rfl (fun w hw => hw.drop (List.Sublist.cons _ (List.Sublist.cons _ (List.Sublist.cons_cons _ (List.Sublist.refl _))))) (by decide +kernel) ?_
        first | refine KAt.take 10 (Val.addI rfl rfl (by omega) (by omega)) rfl rfl rfl rfl (fun w hw => hw.drop (List.Sublist.cons _ (List.Sublist.cons _ (List.Sublist.cons_cons _ (List.Sublist.refl _))))) (by decide +kernel) ?_ | refine KAt.take 10 (Val.bin rfl rfl rfl) rfl rfl rfl rfl (fun w hw => hw.drop (List.Sublist.cons _ (List.Sublist.cons _ (List.Sublist.cons_cons _ (List.Sublist.refl _))))) (by decide +kernel) ?_
        refine KAt.take 11 (Val.field 3 rfl fo_65_3 rfl) rfl rfl rfl rfl (fun w hw => hw.drop (List.Sublist.cons _ (List.Sublist.cons _ (List.Sublist.cons_cons _ (List.Sublist.refl _))))) (by decide +kernel) ?_
        refine KAt.only 12 rfl (by decide +kernel) ?_
        refine At.store (i := 0) Tryd.sizeOf3 rfl rfl rfl rfl (by first | decide | simp) ?_
        simp only [List.set_cons_zero, List.set_cons_succ]
        refine At.nil ?_
        refine KAt.go (fun w hw => hw.drop (List.Sublist.cons _ (List.Sublist.cons _ (List.Sublist.cons_cons _ (List.Sublist.refl _))))) ?_
        refine KAt.done (by decide +kernel) ?_
        refine At.thenN ?_
        refine At.seq ?_
        refine At.region ?_
        refine At.val (Val.loadAll (i := 0) Tryd.isAgg65 Tryd.sizeOf65 rfl rfl rfl) rfl rfl rfl ?_
        refine At.storeAll (i := 1) Tryd.sizeOf65 rfl rfl rfl (by simp [Value.oneCell']) rfl rfl ?_
        simp only [List.set_cons_zero, List.set_cons_succ]
        refine At.nil ?_
        refine At.thenN ?_
        refine At.retC ?_
        refine At.ret1 (.inl rfl) rfl rfl (ResOf.all (i := 1) Tryd.isAgg65 Tryd.sizeOf65 rfl rfl rfl) (fun w hw => ?_)
        exact ⟨_, ⟨_, _, _, _, rfl, by unfold GoodS GoodU GoodT; omega⟩, rfl, hw.mod⟩
      · skip
        try simp only [vN_T, vN_F, nmE_T, nmE_F, wI_T, wI_F, data_T, data_F, ino_T, ino_F, notT, notF, bneT, bneF, beqT, beqF, decT, decF] at h7
        refine At.skipC ?_
        refine At.thenN ?_
        refine At.seq ?_
        refine At.region ?_
        refine At.val (Val.loadAll (i := 0) Tryd.isAgg65 Tryd.sizeOf65 rfl rfl rfl) rfl rfl rfl ?_
        refine At.storeAll (i := 1) Tryd.sizeOf65 rfl rfl rfl (by simp [Value.oneCell']) rfl rfl ?_
        simp only [List.set_cons_zero, List.set_cons_succ]
        refine At.nil ?_
        refine At.thenN ?_
        refine At.retC ?_
        refine At.ret1 (.inl rfl) rfl rfl (ResOf.all (i := 1) Tryd.isAgg65 Tryd.sizeOf65 rfl rfl rfl) (fun w hw => ?_)
        exact ⟨_, ⟨_, _, _, _, rfl, by unfold GoodS GoodU GoodT; omega⟩, rfl, hw.mod⟩

end Go.Proofs.YtoiebgnmknbkjaaDoor
