/- Good lists of undos made; pages of them; marks. -/
import Derived.Test.YtoiebgnmknbkjaaDoorB28
import Derived.Test.YtoiebgnmknbkjaaDoorB11
import Derived.Test.YtoiebgnmknbkjaaDoorPq
import Derived.Test.YtoiebgnmknbkjaaDoorWv
set_option linter.unusedVariables false
set_option linter.unusedSimpArgs false
namespace Go.Proofs.YtoiebgnmknbkjaaDoor
open Go Go.Wk

theorem zero_174 (w : World) : (zeroValue 174).run Tryd.prog w = .ok (.agg (List.replicate 768 (Value.bool false)).toArray) w := by kernel_rfl
theorem zc_174 : (Value.agg (List.replicate 768 (Value.bool false)).toArray).cells = (List.replicate 768 (Value.bool false)).toArray := rfl
def flags (ms : List Nat) : List Value := (List.range 768).map fun j => .bool (decide (j ∈ ms))
theorem flags_nil : List.replicate 768 (Value.bool false) = flags [] := by
  unfold flags
  apply List.ext_getElem?
  intro i
  rw [List.getElem?_replicate, List.getElem?_map]
  by_cases h : i < 768
  · rw [if_pos h, List.getElem?_range h]; simp
  · rw [if_neg h, List.getElem?_eq_none (by simp; omega)]; rfl
theorem flags_get {ms : List Nat} {m : Nat} (h : m < 768) : (flags ms)[m]? = some (.bool (decide (m ∈ ms))) := by
  unfold flags; rw [List.getElem?_map, List.getElem?_range h]; rfl
theorem flags_length (ms : List Nat) : (flags ms).length = 768 := by unfold flags; simp
theorem flags_set {ms : List Nat} {m : Nat} (h : m < 768) : (flags ms).set m (.bool true) = flags (m :: ms) := by
  apply List.ext_getElem?
  intro i
  rw [List.getElem?_set, flags_length]
  by_cases hi : i < 768
  · rw [flags_get hi, flags_get hi]
    by_cases e : m = i
    · subst e; simp [h]
    · have e' : ¬ i = m := fun z => e z.symm
      simp [e, e']
  · rw [List.getElem?_eq_none (by rw [flags_length]; omega), List.getElem?_eq_none (by rw [flags_length]; omega), if_neg (by omega)]
theorem free_idx : ∀ (n : Nat) (ms : List Nat), ms.length ≤ n → ∃ f, f ≤ n ∧ f ∉ ms
  | 0, ms, h => ⟨0, Nat.le_refl _, by have : ms = [] := List.eq_nil_of_length_eq_zero (by omega); simp [this]⟩
  | n + 1, ms, h => by
    by_cases hm : n + 1 ∈ ms
    · obtain ⟨f, hf, hn⟩ := free_idx n (ms.erase (n + 1)) (by rw [List.length_erase_of_mem hm]; omega)
      exact ⟨f, by omega, fun h1 => hn ((List.mem_erase_of_ne (by omega)).2 h1)⟩
    · exact ⟨n + 1, Nat.le_refl _, hm⟩
def adr (m : Nat) : Int := 2048 + 64 * ((m : Int) / 3) + 8 * ((m : Int) % 3)
theorem adr_slot {m : Nat} (h : m < 768) : SlotWd (adr m) := by unfold SlotWd adr; omega
theorem adr_inj {m n : Nat} (h : adr m = adr n) : m = n := by unfold adr at h; omega
def UInv (k : Nat) (ms : List Nat) (U : List (Int × BitVec 64)) : Prop := ms.length = k ∧ (∀ m ∈ ms, m < 768) ∧ U.length = k ∧ (∀ c ∈ U, ∃ m ∈ ms, c.1 = adr m) ∧ ∀ j, j < k → OkAt U j
theorem uinv_0 : UInv 0 [] [] := ⟨rfl, by simp, rfl, by simp, fun j h => absurd h (Nat.not_lt_zero _)⟩
theorem uinv_step {k m : Nat} {ms : List Nat} {U : List (Int × BitVec 64)} {x : BitVec 64} (h : UInv k ms U) (hm : m < 768) (hn : m ∉ ms) : UInv (k + 1) (m :: ms) (U ++ [(adr m, x)]) := by
  obtain ⟨h1, h2, h3, h4, h5⟩ := h
  refine ⟨by simp [h1], ?_, by simp [h3], ?_, ?_⟩
  · intro q hq
    rcases List.mem_cons.1 hq with rfl | hq
    · exact hm
    · exact h2 q hq
  · intro c hc
    rcases List.mem_append.1 hc with hc | hc
    · obtain ⟨q, hq, e⟩ := h4 c hc; exact ⟨q, List.mem_cons_of_mem _ hq, e⟩
    · rcases List.mem_singleton.1 hc with rfl; exact ⟨m, List.mem_cons_self .., rfl⟩
  · intro j hj c hc
    rcases Nat.lt_or_ge j k with hjk | hjk
    · rw [List.getElem?_append_left (by omega)] at hc
      rw [List.take_append_of_le_length (by omega)]
      exact h5 j hjk c hc
    · obtain rfl : k = j := by omega
      rw [List.getElem?_append_right (by omega), h3, Nat.sub_self] at hc
      obtain rfl := Option.some.inj hc
      refine ⟨adr_slot hm, ?_⟩
      rw [List.take_append_of_le_length (by omega), List.take_of_length_le (by omega), ← Bool.not_eq_true]
      intro hh
      obtain ⟨i, d, hd, e⟩ := hasAt_T.1 hh
      obtain ⟨q, hq, e'⟩ := h4 d (List.mem_of_getElem? hd)
      have : m = q := adr_inj (by rw [← e', e])
      subst this; exact hn hq
theorem uinv_good {k : Nat} {ms : List Nat} {U : List (Int × BitVec 64)} (h : UInv k ms U) (h1 : 1 ≤ k) (h8 : k ≤ 8) : GoodUn U := ⟨by rw [h.2.2.1]; exact h1, by rw [h.2.2.1]; exact h8, fun j hj => h.2.2.2.2 j (by rw [← h.2.2.1]; exact hj)⟩
theorem good_bd {U : List (Int × BitVec 64)} (g : GoodUn U) : ∀ c ∈ U, -9223372036854775808 ≤ c.1 ∧ c.1 ≤ 9223372036854775807 := fun c hc => by
  obtain ⟨i, hi⟩ := List.getElem?_of_mem hc
  have h := (g.2.2 i (List.getElem?_eq_some_iff.1 hi).1 c hi).1
  unfold SlotWd at h; omega
/-! ### pages -/
def PageK (U : List (Int × BitVec 64)) (k : Nat) (R : List UInt8) : Prop := ∀ i, i < k → (i < 16 ∨ (64 ≤ i ∧ i < 64 + 16 * U.length)) → R[i]? = (undoB U)[i]?
theorem page_hit {U : List (Int × BitVec 64)} {k : Nat} {R : List UInt8} {q : UInt8} (h : PageK U k R) (hR : R.length = k) (hq : (undoB U)[(k : Int).toNat]? = some q) : PageK U (k + 1) (R ++ [q]) := fun i hi hc => by
  rw [Int.toNat_natCast] at hq
  rcases Nat.lt_or_ge i k with h1 | h1
  · rw [List.getElem?_append_left (by omega)]; exact h i h1 hc
  · obtain rfl : k = i := by omega
    rw [List.getElem?_append_right (by omega), hR, Nat.sub_self, hq]; rfl
theorem page_miss {U : List (Int × BitVec 64)} {k : Nat} {R : List UInt8} {q : UInt8} (h : PageK U k R) (hR : R.length = k) (hq : ¬ (k < 16 ∨ (64 ≤ k ∧ k < 64 + 16 * U.length))) : PageK U (k + 1) (R ++ [q]) := fun i hi hc => by
  rcases Nat.lt_or_ge i k with h1 | h1
  · rw [List.getElem?_append_left (by omega)]; exact h i h1 hc
  · obtain rfl : k = i := by omega
    exact absurd hc hq
theorem mid_zero {U : List (Int × BitVec 64)} {k : Nat} {q : UInt8} (hq : (undoB U)[(k : Int).toNat]? = some q) (h1 : 16 ≤ k) (h2 : k < 64) : q = 0 := by
  rw [Int.toNat_natCast] at hq
  unfold undoB at hq
  rw [List.append_assoc, List.getElem?_append_right (by rw [headB_length]; exact h1), headB_length, List.getElem?_append_left (by rw [zs_length]; omega)] at hq
  unfold zs at hq
  rw [List.getElem?_replicate, if_pos (by omega)] at hq
  exact (Option.some.inj hq).symm
theorem num_ext {l m : List UInt8} {a n : Nat} (h : ∀ i, a ≤ i → i < a + n → l[i]? = m[i]?) : num l a n = num m a n := by
  unfold num
  congr 1
  apply List.ext_getElem?
  intro i
  rw [List.getElem?_take, List.getElem?_take]
  split
  · rw [List.getElem?_drop, List.getElem?_drop]; exact h _ (by omega) (by omega)
  · rfl
theorem recB_append (a b : List (Int × BitVec 64)) : recB (a ++ b) = recB a ++ recB b := by unfold recB undoWs; rw [List.flatMap_append, bytesW_append]
theorem lt_256_8 (x : BitVec 64) : x.toNat < 256 ^ 8 := by have := x.isLt; simpa using this
theorem undoB_at {U : List (Int × BitVec 64)} {j : Nat} {c : Int × BitVec 64} (h : U[j]? = some c) : num (undoB U) (64 + 16 * j) 8 = (BitVec.ofInt 64 c.1).toNat ∧ num (undoB U) (64 + 16 * j + 8) 8 = c.2.toNat := by
  have hj : j < U.length := (List.getElem?_eq_some_iff.1 h).1
  have e : U = U.take j ++ [c] ++ U.drop (j + 1) := by
    conv => lhs; rw [← List.take_append_drop j U]
    rw [List.drop_eq_getElem_cons hj, List.append_assoc]
    rw [List.getElem?_eq_getElem hj] at h
    rw [Option.some.inj h]; rfl
  have e2 : undoB U = (headB U.length (sumOn 0 (recB U)) ++ zs 48 ++ recB (U.take j)) ++ (le 8 (BitVec.ofInt 64 c.1).toNat ++ (le 8 c.2.toNat ++ recB (U.drop (j + 1)))) := by
    have e3 : recB U = recB (U.take j) ++ (le 8 (BitVec.ofInt 64 c.1).toNat ++ (le 8 c.2.toNat ++ recB (U.drop (j + 1)))) := by
      conv => lhs; rw [e]
      rw [recB_append, recB_snoc]; simp only [List.append_assoc]
    unfold undoB
    conv => lhs; rhs; rw [e3]
    simp only [List.append_assoc]
  have hl : (headB U.length (sumOn 0 (recB U)) ++ zs 48 ++ recB (U.take j)).length = 64 + 16 * j := by
    rw [List.length_append, List.length_append, headB_length, zs_length, recB_length, List.length_take]; omega
  refine ⟨num_atU e2 hl (lt_256_8 _), num_atU (a := (headB U.length (sumOn 0 (recB U)) ++ zs 48 ++ recB (U.take j)) ++ le 8 (BitVec.ofInt 64 c.1).toNat) (b := recB (U.drop (j + 1))) ?_ ?_ (lt_256_8 _)⟩
  · rw [e2]; simp only [List.append_assoc]
  · rw [List.length_append, hl, le_length]
theorem undoB_0 (U : List (Int × BitVec 64)) : num (undoB U) 0 8 = (sealW (BitVec.ofInt 64 512) (BitVec.ofInt 32 (U.length : Int))).toNat :=
  num_atU (a := []) (b := le 8 (sealW (BitVec.ofInt 64 520) (sumOn 0 (recB U))).toNat ++ zs 48 ++ recB U) (by unfold undoB headB; simp only [List.append_assoc, List.nil_append]) rfl (lt_256_8 _)
theorem undoB_8 (U : List (Int × BitVec 64)) : num (undoB U) 8 8 = (sealW (BitVec.ofInt 64 520) (sumOn 0 (recB U))).toNat :=
  num_atU (a := le 8 (sealW (BitVec.ofInt 64 512) (BitVec.ofInt 32 (U.length : Int))).toNat) (b := zs 48 ++ recB U) (by unfold undoB headB; simp only [List.append_assoc]) (le_length ..) (lt_256_8 _)
theorem page_ok {U : List (Int × BitVec 64)} {R : List UInt8} (hR : R.length = 512) (g : GoodUn U) (h : PageK U 512 R) : OkUn R ∧ unN R = U.length ∧ recs R (unN R) = U := by
  have h8 := g.2.1
  have w0 : wordA R 0 = sealW (BitVec.ofInt 64 512) (BitVec.ofInt 32 (U.length : Int)) := by
    apply BitVec.eq_of_toNat_eq
    rw [show (wordA R 0).toNat = num R 0 8 from ofNat_num R 0, num_ext (m := undoB U) (fun i _ hi => h i (by omega) (.inl (by omega))), undoB_0]
  have w8 : wordA R 8 = sealW (BitVec.ofInt 64 520) (sumOn 0 (recB U)) := by
    apply BitVec.eq_of_toNat_eq
    rw [show (wordA R 8).toNat = num R 8 8 from ofNat_num R 8, num_ext (m := undoB U) (fun i _ hi => h i (by omega) (.inl (by omega))), undoB_8]
  have hs := seal_lo w0.symm
  have hn : unN R = U.length := by
    unfold unN; rw [hs.2]; simp [BitVec.toNat_ofInt]; omega
  have hrec : recs R (unN R) = U := by
    rw [hn]
    apply List.ext_getElem?
    intro j
    by_cases hj : j < U.length
    · rw [recs_get R hj]
      obtain ⟨c, hc⟩ : ∃ c, U[j]? = some c := ⟨_, List.getElem?_eq_getElem hj⟩
      have hu := undoB_at hc
      have hsl := (g.2.2 j hj c hc).1
      rw [hc]
      congr 1
      have e1 : num R (64 + 16 * j) 8 = (BitVec.ofInt 64 c.1).toNat := by rw [num_ext (m := undoB U) (fun i h1 hi => h i (by omega) (.inr ⟨by omega, by omega⟩)), hu.1]
      have e2 : wordA R (64 + 16 * j + 8) = c.2 := by
        apply BitVec.eq_of_toNat_eq
        rw [show (wordA R (64 + 16 * j + 8)).toNat = num R (64 + 16 * j + 8) 8 from ofNat_num R _, num_ext (m := undoB U) (fun i h1 hi => h i (by omega) (.inr ⟨by omega, by omega⟩)), hu.2]
      rw [e1, e2]
      apply Prod.ext
      · show ((BitVec.ofInt 64 c.1).toNat : Int) = c.1
        unfold SlotWd at hsl
        rw [BitVec.toNat_ofInt]; omega
      · rfl
    · rw [List.getElem?_eq_none (by rw [recs_length]; omega), List.getElem?_eq_none (by omega)]
  refine ⟨⟨hR, hs.1, .inr ⟨by omega, ?_, by rw [hrec]; exact g⟩⟩, hn, hrec⟩
  rw [w8, ← recB_recs (by omega), hrec]
theorem spoil_un {R : List UInt8} {a F : Nat} (h : OkUn R) (h0 : ¬ unN R = 0) (hF : F ≠ 0) (h32 : F < 2 ^ 32) (ha : 512 ≤ a) (ha' : a + 32 ≤ 512 + 128 * unN R) : ¬ OkUn (spoilL R a F) := fun k => by
  have hR := h.1
  obtain ⟨hn, hse, hg⟩ := h.two h0
  have hsl : (seg R (unN R)).length = 16 * unN R := by unfold seg; rw [List.length_take, List.length_drop]; omega
  have e : R = R.take 64 ++ seg R (unN R) ++ R.drop (64 + 16 * unN R) := by
    unfold seg
    have := take_two (l := R) 0 64 (16 * unN R)
    simp only [List.drop_zero, Nat.zero_add] at this
    rw [← this, List.take_append_drop]
  have hl64 : (R.take 64).length = 64 := by rw [List.length_take]; omega
  have es : spoilL R a F = R.take 64 ++ spoilL (seg R (unN R)) (a - 512) F ++ R.drop (64 + 16 * unN R) := by
    conv => lhs; rw [e]
    rw [spoil_parts (by rw [hl64]; omega) (by rw [hl64, hsl]; omega) h32, hl64]
  have first : ∀ i, i < 64 → (spoilL R a F)[i]? = R[i]? := fun i hi => by
    rw [es, List.append_assoc, List.getElem?_append_left (by omega), List.getElem?_take, if_pos hi]
  have w0 : wordA (spoilL R a F) 0 = wordA R 0 := by unfold wordA; rw [num_ext (fun i _ hi => first i (by omega))]
  have w8 : wordA (spoilL R a F) 8 = wordA R 8 := by unfold wordA; rw [num_ext (fun i _ hi => first i (by omega))]
  have hN : unN (spoilL R a F) = unN R := by unfold unN; rw [w0]
  have hseg : seg (spoilL R a F) (unN R) = spoilL (seg R (unN R)) (a - 512) F := by
    conv => lhs; unfold seg
    rw [es, List.append_assoc, List.drop_left' hl64]
    rw [List.take_left' (by rw [spoilL_length, hsl])]
  have k2 := (k.two (by rw [hN]; exact h0)).2.1
  rw [hN, w8, hseg, ← hse] at k2
  have := congrArg (fun z : BitVec 64 => z.setWidth 32) k2
  simp only [seal_low] at this
  exact spoil_sum hF h32 (by rw [hsl]; omega) this
theorem zero_un {R : List UInt8} (hR : R.length = 512) (h : ∀ i, i < 8 → R[i]? = some 0) : OkUn R ∧ unN R = 0 := by
  have e : num R 0 8 = 0 := by
    rw [num_ext (m := zs 8) (fun i _ hi => by rw [h i (by omega)]; unfold zs; rw [List.getElem?_replicate, if_pos (by omega)])]
    decide
  have w : wordA R 0 = 0 := by unfold wordA; rw [e]; rfl
  have hn : unN R = 0 := by unfold unN; rw [w]; rfl
  refine ⟨⟨hR, ?_, .inl hn⟩, hn⟩
  unfold Sl
  rw [w]; exact seal_zero rfl
theorem sameB_eq (v u : Value) (l m : List UInt8) (w : World) (hv : RdB w v l) (hu : RdB w u m) (hl : l.length ≤ 140737488355328) (e : l = m) : PureC Tryd.prog 36 [v, u] (.bool true) w := by
  subst e
  have := sameBytes_p v u l l w hv hu hl hl; rwa [decide_eq_true rfl] at this

theorem marks_u (v : Value) (l : List UInt8) (c : UInt8) (w : World) (ho : w.ownsRow 0 5 1 v l.length (l.map bv)) (hlen : l.length ≤ 1000000) :
    Use Tryd.prog 52 [v, bv c] (brow 5 v l) (.tuple #[]) w := by
  refine enter (feet [brow 5 v l]) [brow 5 v l] Tryd.func52 rfl Tryd.ntmps52 rfl (Rep.one ho) ?_
  simp only [envOf]
  refine At.seq ?_
  refine At.seq ?_
  refine At.region ?_
  refine At.val (Val.assign rfl) rfl rfl rfl ?_
  refine At.nil ?_
  refine At.thenN ?_
  refine At.block ?_
  skip
  refine At.loop (σ := Nat × List UInt8) (fun s => s.1 ≤ l.length ∧ s.2.length = l.length) (fun s => [(1, bv c), (0, v), (4, .int .i64 (s.1 : Int))]) (fun s => [brow 5 v s.2]) (fun s => l.length - s.1) (0, l) ⟨Nat.zero_le _, rfl⟩ (Sub.cons rfl (Sub.cons rfl (Sub.cons rfl Sub.nil))) (List.Perm.refl _) ?_
  intro s hs
  obtain ⟨k, m⟩ := s
  dsimp only at hs ⊢
  refine At.seq ?_
  refine At.seq ?_
  refine At.region ?_
  refine At.val (Val.move rfl) rfl rfl rfl ?_
  refine At.val (Val.move rfl) rfl rfl rfl ?_
  refine At.val (Val.lenRow (i := 0) Tryd.underlying54 rfl rfl) rfl rfl rfl ?_
  refine At.val (Val.bin rfl rfl rfl) rfl rfl rfl ?_
  refine At.nil ?_
  refine At.thenN ?_
  refine At.cond rfl (fun h1 => ?_) (fun h1 => ?_)
  · skip
    try simp only [vN_T, vN_F, nmE_T, nmE_F, wI_T, wI_F, data_T, data_F, ino_T, ino_F, notT, notF, bneT, bneF, beqT, beqF, decT, decF] at h1
    have hk : k < l.length := by omega
    refine At.skipC ?_
    refine At.thenN ?_
    refine At.seq ?_
    refine At.block ?_
    refine At.region ?_
    refine At.val (Val.move rfl) rfl rfl rfl ?_
    refine At.val (Val.move rfl) rfl rfl rfl ?_
    refine At.val (Val.move rfl) rfl rfl rfl ?_
    refine At.idxRowB (i := 0) rfl Tryd.underlying54 Tryd.sizeOf5 rfl rfl (by omega) (by omega) rfl rfl (fun q2 hq3 hl4 => ?_)
    refine At.storeRowB (i := 0) (c := c) Tryd.sizeOf5 rfl rfl rfl (by omega) ?_
    simp only [List.set_cons_zero, List.set_cons_succ]
    refine At.nil ?_
    refine At.blkN ?_
    refine At.thenN ?_
    refine At.region ?_
    refine At.val (Val.move rfl) rfl rfl rfl ?_
    first | refine At.val (Val.addI rfl rfl (by omega) (by omega)) rfl rfl rfl ?_ | refine At.val (Val.bin rfl rfl rfl) rfl rfl rfl ?_
    refine At.val (Val.assign rfl) rfl rfl rfl ?_
    refine At.nil ?_
    refine At.thenN ?_
    exact At.again (k + 1, m.set (k : Int).toNat c) ⟨(show k + 1 ≤ _ by omega), by rw [List.length_set]; exact hs.2⟩ (by dsimp only; omega) (Sub.cons rfl (Sub.cons rfl (Sub.cons (congrArg (fun z => some (Value.int IntKind.i64 z)) (by omega)) Sub.nil))) (List.Perm.refl _)
  · skip
    try simp only [vN_T, vN_F, nmE_T, nmE_F, wI_T, wI_F, data_T, data_F, ino_T, ino_F, notT, notF, bneT, bneF, beqT, beqF, decT, decF] at h1
    refine At.exitC ?_
    refine At.thenX ?_
    refine At.thenX ?_
    refine At.blkX ?_
    refine At.thenN ?_
    refine At.seq ?_
    refine At.region ?_
    refine At.val (Val.move rfl) rfl rfl rfl ?_
    refine At.val (Val.move rfl) rfl rfl rfl ?_
    refine At.val (Val.move rfl) rfl rfl rfl ?_
    refine At.val (Val.move rfl) rfl rfl rfl ?_
    refine At.buildSl (fun a ha => by simp only [List.map_toArray, List.map_cons, List.map_nil, ha.eval (x := (.tmp 18)) rfl, ha.eval (x := (.tmp 19)) rfl, ha.eval (x := (.tmp 20)) rfl]; try rfl) (bs_54_3 _ _ _ ) rfl (fun b5 => ?_)
    refine At.appendBlkB (i := 1) (j := 0) (m := [c, c, c]) (by_ := 1) Tryd.underlying54 info_5 rfl rfl rfl rfl rfl rfl rfl rfl rfl (by omega) (by omega) rfl (fun v6 => ?_)
    simp only [List.set_cons_zero, List.set_cons_succ]
    refine At.val (Val.assign rfl) rfl rfl rfl ?_
    refine At.nil ?_
    generalize hm' : m ++ [c, c, c] = m'
    have hml : m'.length ≤ 1000003 := by rw [← hm', List.length_append]; simp; omega
    refine At.thenN ?_
    refine At.seq ?_
    refine At.region ?_
    refine At.val (Val.assign rfl) rfl rfl rfl ?_
    refine At.nil ?_
    refine At.thenN ?_
    refine At.block ?_
    skip
    refine At.drop 0 ?_
    simp only [List.eraseIdx_cons_zero, List.eraseIdx_cons_succ]
    refine At.loop (σ := Nat × List UInt8) (fun s => s.1 ≤ m'.length ∧ s.2.length = m'.length) (fun s => [(1, bv c), (5, v6), (6, .int .i64 (s.1 : Int))]) (fun s => [brow 5 v6 s.2]) (fun s => m'.length - s.1) (0, m') ⟨Nat.zero_le _, rfl⟩ (Sub.cons rfl (Sub.cons rfl (Sub.cons rfl Sub.nil))) (List.Perm.refl _) ?_
    intro s hs
    obtain ⟨k, m⟩ := s
    dsimp only at hs ⊢
    refine At.seq ?_
    refine At.seq ?_
    refine At.region ?_
    refine At.val (Val.move rfl) rfl rfl rfl ?_
    refine At.val (Val.move rfl) rfl rfl rfl ?_
    refine At.val (Val.lenRow (i := 0) Tryd.underlying54 rfl rfl) rfl rfl rfl ?_
    refine At.val (Val.bin rfl rfl rfl) rfl rfl rfl ?_
    refine At.nil ?_
    refine At.thenN ?_
    refine At.cond rfl (fun h7 => ?_) (fun h7 => ?_)
    · skip
      try simp only [vN_T, vN_F, nmE_T, nmE_F, wI_T, wI_F, data_T, data_F, ino_T, ino_F, notT, notF, bneT, bneF, beqT, beqF, decT, decF] at h7
      have hk : k < m'.length := by omega
      refine At.skipC ?_
      refine At.thenN ?_
      refine At.seq ?_
      refine At.block ?_
      refine At.region ?_
      refine At.val (Val.move rfl) rfl rfl rfl ?_
      refine At.val (Val.move rfl) rfl rfl rfl ?_
      refine At.val (Val.move rfl) rfl rfl rfl ?_
      refine At.idxRowB (i := 0) rfl Tryd.underlying54 Tryd.sizeOf5 rfl rfl (by omega) (by omega) rfl rfl (fun q8 hq9 hl10 => ?_)
      refine At.storeRowB (i := 0) (c := c) Tryd.sizeOf5 rfl rfl rfl (by omega) ?_
      simp only [List.set_cons_zero, List.set_cons_succ]
      refine At.nil ?_
      refine At.blkN ?_
      refine At.thenN ?_
      refine At.region ?_
      refine At.val (Val.move rfl) rfl rfl rfl ?_
      first | refine At.val (Val.addI rfl rfl (by omega) (by omega)) rfl rfl rfl ?_ | refine At.val (Val.bin rfl rfl rfl) rfl rfl rfl ?_
      refine At.val (Val.assign rfl) rfl rfl rfl ?_
      refine At.nil ?_
      refine At.thenN ?_
      exact At.again (k + 1, m.set (k : Int).toNat c) ⟨(show k + 1 ≤ _ by omega), by rw [List.length_set]; exact hs.2⟩ (by dsimp only; omega) (Sub.cons rfl (Sub.cons rfl (Sub.cons (congrArg (fun z => some (Value.int IntKind.i64 z)) (by omega)) Sub.nil))) (List.Perm.refl _)
    · skip
      try simp only [vN_T, vN_F, nmE_T, nmE_F, wI_T, wI_F, data_T, data_F, ino_T, ino_F, notT, notF, bneT, bneF, beqT, beqF, decT, decF] at h7
      refine At.exitC ?_
      refine At.thenX ?_
      refine At.thenX ?_
      refine At.blkX ?_
      refine At.ret0 (.inr rfl) rfl rfl  (fun w hw => ?_)
      exact ⟨rfl, hw.drop (List.nil_sublist _)⟩

theorem undos_x (v : Value) (L : List (Int × BitVec 64)) (n : Nat) (w : World) (hv : RdP w v L) (hlen : L.length ≤ 8796093022144) (hn1 : 1 ≤ n) (hn8 : n ≤ 8) :
    SomeRow Tryd.prog 65 [.int .i64 (n : Int), v] 111 2 (fun nn xs => ∃ U : List (Int × BitVec 64), nn = U.length ∧ xs = prC U ∧ U.length = n ∧ GoodUn U) w := by
  refine enter0 Tryd.func65 rfl Tryd.ntmps65 rfl ?_
  simp only [envOf]
  refine At.seq ?_
  refine At.region ?_
  refine At.val (Val.assign rfl) rfl rfl rfl ?_
  refine At.nil ?_
  refine At.thenN ?_
  refine At.seq ?_
  refine At.region ?_
  refine At.val (Val.assign rfl) rfl rfl rfl ?_
  refine At.nil ?_
  refine At.rowNilP 111 ?_
  refine At.thenN ?_
  refine At.seq ?_
  refine At.region ?_
  refine At.alloc zero_174 zc_174 rfl (fun b1 => ?_)
  refine At.nil ?_
  rw [flags_nil]
  refine At.thenN ?_
  refine At.seq ?_
  refine At.seq ?_
  refine At.region ?_
  refine At.val (Val.assign rfl) rfl rfl rfl ?_
  refine At.nil ?_
  refine At.thenN ?_
  refine At.block ?_
  skip
  refine At.loop (σ := Nat × List Nat × List (Int × BitVec 64) × Value) (fun s => s.1 ≤ n ∧ UInv s.1 s.2.1 s.2.2.1) (fun s => [(0, .int .i64 (n : Int)), (1, v), (5, s.2.2.2), (6, .pointer (some ⟨b1, 0, none⟩)), (7, .int .i64 (s.1 : Int))]) (fun s => [blk b1 174 (flags s.2.1), prow 111 s.2.2.2 s.2.2.1]) (fun s => n - s.1) (0, [], [], .slice none 0 0) ⟨Nat.zero_le _, uinv_0⟩ (Sub.cons rfl (Sub.cons rfl (Sub.cons rfl (Sub.cons rfl (Sub.cons rfl Sub.nil))))) (List.Perm.refl _) ?_
  intro s hs
  obtain ⟨k, ms, U, vk⟩ := s
  dsimp only at hs ⊢
  refine At.seq ?_
  refine At.seq ?_
  refine At.region ?_
  refine At.val (Val.move rfl) rfl rfl rfl ?_
  refine At.val (Val.move rfl) rfl rfl rfl ?_
  refine At.val (Val.bin rfl rfl rfl) rfl rfl rfl ?_
  refine At.nil ?_
  refine At.thenN ?_
  refine At.cond rfl (fun h2 => ?_) (fun h2 => ?_)
  · skip
    try simp only [vN_T, vN_F, nmE_T, nmE_F, wI_T, wI_F, data_T, data_F, ino_T, ino_F, notT, notF, bneT, bneF, beqT, beqF, decT, decF] at h2
    have hk : k < n := by omega
    have hI := hs.2
    refine At.skipC ?_
    refine At.thenN ?_
    refine At.seq ?_
    refine At.block ?_
    refine At.seq ?_
    refine At.region ?_
    refine At.val (Val.move rfl) rfl rfl rfl ?_
    first | refine At.val (Val.mulI rfl rfl (by omega) (by omega)) rfl rfl rfl ?_ | refine At.val (Val.bin rfl rfl rfl) rfl rfl rfl ?_
    refine At.val (Val.build (fun a ha => by simp only [List.map_toArray, List.map_cons, List.map_nil, ha.eval (x := (.tmp 16)) rfl] <;> rfl) (bld_111_0 _ )) rfl rfl rfl ?_
    refine At.alloc Tryd.zeroValue111 rfl rfl (fun b3 => ?_)
    refine At.storeAll (i := 0) Tryd.sizeOf111 rfl rfl rfl (by simp [Value.oneCell']) rfl rfl ?_
    simp only [List.set_cons_zero, List.set_cons_succ]
    refine At.nil ?_
    refine At.thenN ?_
    refine At.join (σ := Int × BitVec 64) (fun c => True) (fun c => [(0, .int .i64 (n : Int)), (1, v), (5, vk), (6, .pointer (some ⟨b1, 0, none⟩)), (7, .int .i64 (k : Int)), (8, .pointer (some ⟨b3, 0, none⟩))]) (fun c => [blk b3 111 ([.int .i64 c.1, b64 c.2]), blk b1 174 (flags ms), rowR vk 111 2 ((U).length) (prC (U))]) ?_ ?_
    · skip
      refine At.seq ?_
      refine At.region ?_
      refine At.val (Val.move rfl) rfl rfl rfl ?_
      refine At.val (Val.move rfl) rfl rfl rfl ?_
      refine At.val (Val.lenRd hv Tryd.underlying102 rfl) rfl rfl rfl ?_
      refine At.val (Val.bin rfl rfl rfl) rfl rfl rfl ?_
      refine At.nil ?_
      refine At.thenN ?_
      refine At.cond rfl (fun h4 => ?_) (fun h4 => ?_)
      · skip
        try simp only [vN_T, vN_F, nmE_T, nmE_F, wI_T, wI_F, data_T, data_F, ino_T, ino_F, notT, notF, bneT, bneF, beqT, beqF, decT, decF] at h4
        have hkl : k < L.length := by omega
        refine At.region ?_
        refine At.val (Val.move rfl) rfl rfl rfl ?_
        refine At.val (Val.move rfl) rfl rfl rfl ?_
        refine At.idxP hv Tryd.underlying102 Tryd.sizeOf111 rfl rfl (by omega) (by omega) rfl rfl (fun b5 o6 q7 hq8 hc9 hd10 => ?_)
        refine At.val (Val.loadPair Tryd.isAgg111 Tryd.sizeOf111 rfl hc9 hd10 (fun h => h)) rfl rfl rfl ?_
        refine At.storeAll (i := 0) Tryd.sizeOf111 rfl rfl rfl (by simp [Value.oneCell']) rfl rfl ?_
        simp only [List.set_cons_zero, List.set_cons_succ]
        refine At.nil ?_
        refine At.thenN ?_
        exact At.meets (q7.1, q7.2) trivial (Sub.cons rfl (Sub.cons rfl (Sub.cons rfl (Sub.cons rfl (Sub.cons rfl (Sub.cons rfl Sub.nil)))))) (List.Perm.refl _)
      · skip
        try simp only [vN_T, vN_F, nmE_T, nmE_F, wI_T, wI_F, data_T, data_F, ino_T, ino_F, notT, notF, bneT, bneF, beqT, beqF, decT, decF] at h4
        refine At.skipC ?_
        refine At.thenN ?_
        exact At.meets (3 * (k : Int), 0) trivial (Sub.cons rfl (Sub.cons rfl (Sub.cons rfl (Sub.cons rfl (Sub.cons rfl (Sub.cons rfl Sub.nil)))))) (List.Perm.refl _)
    · skip
      intro c hs
      refine At.seq ?_
      refine At.region ?_
      refine At.val (Val.field 0 rfl fo_111_0 rfl) rfl rfl rfl ?_
      refine At.val (Val.load (i := 0) Tryd.isAgg3 rfl rfl rfl) rfl rfl rfl ?_
      refine At.callP (fun w hw => mod_p _ _ w (by decide) (by decide)) Tryd.call32 rfl rfl ?_
      refine At.val (Val.assign rfl) rfl rfl rfl ?_
      refine At.nil ?_
      obtain ⟨m, hm, hm7⟩ : ∃ m : Nat, c.1 % 768 = (m : Int) ∧ m < 768 := ⟨(c.1 % 768).toNat, by omega, by omega⟩
      rw [hm]
      obtain ⟨f, hf7, hf⟩ := free_idx k ms (by rw [hI.1]; exact Nat.le_refl _)
      refine At.thenN ?_
      refine At.seq ?_
      refine At.block ?_
      skip
      refine At.loop (σ := Nat) (fun m' => m' < 768) (fun m' => [(0, .int .i64 (n : Int)), (1, v), (5, vk), (6, .pointer (some ⟨b1, 0, none⟩)), (7, .int .i64 (k : Int)), (8, .pointer (some ⟨b3, 0, none⟩)), (9, .int .i64 (m' : Int))]) (fun m' => [blk b3 111 ([.int .i64 c.1, b64 c.2]), blk b1 174 (flags ms), rowR vk 111 2 ((U).length) (prC (U))]) (fun m' => (f + 768 - m') % 768) m hm7 (Sub.cons rfl (Sub.cons rfl (Sub.cons rfl (Sub.cons rfl (Sub.cons rfl (Sub.cons rfl (Sub.cons rfl Sub.nil))))))) (List.Perm.refl _) ?_
      intro m' hs'
      refine At.seq ?_
      refine At.seq ?_
      refine At.region ?_
      refine At.val (Val.move rfl) rfl rfl rfl ?_
      refine At.val (Val.indexArr m' (by omega) Tryd.underlying174 Tryd.sizeOf4 rfl rfl (by omega) (by omega)) rfl rfl rfl ?_
      refine At.val (Val.load (i := 1) (v := .bool (decide (m' ∈ ms))) Tryd.isAgg4 rfl rfl (flags_get hs')) rfl rfl rfl ?_
      refine At.nil ?_
      refine At.thenN ?_
      refine At.cond rfl (fun h11 => ?_) (fun h11 => ?_)
      · skip
        try simp only [vN_T, vN_F, nmE_T, nmE_F, wI_T, wI_F, data_T, data_F, ino_T, ino_F, notT, notF, bneT, bneF, beqT, beqF, decT, decF] at h11
        have hin : m' ∈ ms := by simpa using h11
        have hmf : ¬ m' = f := fun e => hf (e ▸ hin)
        refine At.skipC ?_
        refine At.thenN ?_
        refine At.block ?_
        refine At.region ?_
        refine At.val (Val.move rfl) rfl rfl rfl ?_
        first | refine At.val (Val.addI rfl rfl (by omega) (by omega)) rfl rfl rfl ?_ | refine At.val (Val.bin rfl rfl rfl) rfl rfl rfl ?_
        first | refine At.val (Val.remI rfl rfl (by omega) (by decide)) rfl rfl rfl ?_ | refine At.val (Val.rem rfl rfl (by decide)) rfl rfl rfl ?_
        refine At.val (Val.assign rfl) rfl rfl rfl ?_
        refine At.nil ?_
        refine At.blkN ?_
        refine At.thenN ?_
        exact At.again ((m' + 1) % 768) (by omega) (by omega) (Sub.cons rfl (Sub.cons rfl (Sub.cons rfl (Sub.cons rfl (Sub.cons rfl (Sub.cons rfl (Sub.cons (congrArg (fun z => some (Value.int IntKind.i64 z)) (by omega)) Sub.nil))))))) (List.Perm.refl _)
      · skip
        try simp only [vN_T, vN_F, nmE_T, nmE_F, wI_T, wI_F, data_T, data_F, ino_T, ino_F, notT, notF, bneT, bneF, beqT, beqF, decT, decF] at h11
        have hout : m' ∉ ms := by simpa using h11
        refine At.exitC ?_
        refine At.thenX ?_
        refine At.thenX ?_
        refine At.blkX ?_
        refine At.thenN ?_
        refine At.seq ?_
        refine At.region ?_
        refine At.val (Val.move rfl) rfl rfl rfl ?_
        refine At.val (Val.indexArr m' (by omega) Tryd.underlying174 Tryd.sizeOf4 rfl rfl (by omega) (by omega)) rfl rfl rfl ?_
        refine At.store (i := 1) (v := .bool true) Tryd.sizeOf4 rfl rfl rfl rfl (by rw [flags_length]; exact hs') ?_
        simp only [List.set_cons_zero, List.set_cons_succ]
        rw [flags_set hs']
        refine At.nil ?_
        refine At.thenN ?_
        refine At.region ?_
        refine At.val (Val.move rfl) rfl rfl rfl ?_
        refine At.val (Val.move rfl) rfl rfl rfl ?_
        first | refine At.val (Val.quoI rfl rfl (by omega) (by omega) (by decide)) rfl rfl rfl ?_ | refine At.val (Val.quo rfl rfl (by decide)) rfl rfl rfl ?_
        first | refine At.val (Val.mulI rfl rfl (by omega) (by omega)) rfl rfl rfl ?_ | refine At.val (Val.bin rfl rfl rfl) rfl rfl rfl ?_
        first | refine At.val (Val.addI rfl rfl (by omega) (by omega)) rfl rfl rfl ?_ | refine At.val (Val.bin rfl rfl rfl) rfl rfl rfl ?_
        refine At.val (Val.move rfl) rfl rfl rfl ?_
        first | refine At.val (Val.remI rfl rfl (by omega) (by decide)) rfl rfl rfl ?_ | refine At.val (Val.rem rfl rfl (by decide)) rfl rfl rfl ?_
        first | refine At.val (Val.mulI rfl rfl (by omega) (by omega)) rfl rfl rfl ?_ | refine At.val (Val.bin rfl rfl rfl) rfl rfl rfl ?_
        first | refine At.val (Val.addI rfl rfl (by omega) (by omega)) rfl rfl rfl ?_ | refine At.val (Val.bin rfl rfl rfl) rfl rfl rfl ?_
        refine At.val (Val.field 1 rfl fo_111_1 rfl) rfl rfl rfl ?_
        refine At.val (Val.load (i := 0) Tryd.isAgg40 rfl rfl rfl) rfl rfl rfl ?_
        refine At.val (Val.build (fun a ha => by simp only [List.map_toArray, List.map_cons, List.map_nil, ha.eval (x := (.tmp 45)) rfl, ha.eval (x := (.tmp 47)) rfl] <;> rfl) (bld_111_0_1 _ _ )) rfl rfl rfl ?_
        refine At.buildSl (fun a ha => by simp only [List.map_toArray, List.map_cons, List.map_nil, ha.eval (x := (.tmp 48)) rfl]; try rfl) (bs_102_1 _ _ ) rfl (fun b12 => ?_)
        refine At.appendP1 (i := 3) (j := 0) (by_ := 16) Tryd.underlying102 info_111 rfl rfl rfl rfl rfl rfl rfl rfl (by rw [hI.2.2.1]; omega) (by rw [hI.2.2.1]; omega) rfl (fun v13 => ?_)
        simp only [List.set_cons_zero, List.set_cons_succ]
        refine At.drop 0 ?_
        simp only [List.eraseIdx_cons_zero, List.eraseIdx_cons_succ]
        refine At.val (Val.assign rfl) rfl rfl rfl ?_
        refine At.nil ?_
        refine At.blkN ?_
        refine At.thenN ?_
        refine At.region ?_
        refine At.val (Val.move rfl) rfl rfl rfl ?_
        first | refine At.val (Val.addI rfl rfl (by omega) (by omega)) rfl rfl rfl ?_ | refine At.val (Val.bin rfl rfl rfl) rfl rfl rfl ?_
        refine At.val (Val.assign rfl) rfl rfl rfl ?_
        refine At.nil ?_
        refine At.thenN ?_
        refine At.drop 0 ?_
        simp only [List.eraseIdx_cons_zero, List.eraseIdx_cons_succ]
        exact At.again (k + 1, m' :: ms, U ++ [(adr m', c.2)], v13) ⟨(show k + 1 ≤ n by omega), uinv_step hI hs' hout⟩ (by dsimp only; omega) (Sub.cons rfl (Sub.cons rfl (Sub.cons rfl (Sub.cons rfl (Sub.cons (congrArg (fun z => some (Value.int IntKind.i64 z)) (by omega)) Sub.nil))))) (List.Perm.refl _)
  · skip
    try simp only [vN_T, vN_F, nmE_T, nmE_F, wI_T, wI_F, data_T, data_F, ino_T, ino_F, notT, notF, bneT, bneF, beqT, beqF, decT, decF] at h2
    obtain rfl : k = n := by omega
    refine At.exitC ?_
    refine At.thenX ?_
    refine At.thenX ?_
    refine At.blkX ?_
    refine At.thenN ?_
    refine At.seq ?_
    refine At.region ?_
    refine At.val (Val.move rfl) rfl rfl rfl ?_
    refine At.val (Val.assign rfl) rfl rfl rfl ?_
    refine At.nil ?_
    refine At.thenN ?_
    refine At.retC ?_
    refine At.ret1 (.inl rfl) rfl rfl rfl (fun w hw => ?_)
    exact ⟨vk, _, _, ⟨U, rfl, rfl, hs.2.2.2.1, uinv_good hs.2 hn1 hn8⟩, rfl, (hw.drop (List.singleton_sublist.2 (List.mem_of_getElem? (i := 1) rfl))).f0⟩

end Go.Proofs.YtoiebgnmknbkjaaDoor
