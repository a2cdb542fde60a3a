/- PmemApart: marks. -/
import Derived.Test.YtgighokkflchmaaA1
set_option linter.unusedVariables false
set_option linter.unusedSimpArgs false
namespace Go.Proofs.Ytgighokkflchmaa
open Go Go.Wk

def nmk (m k j : Nat) : BitVec 64 := BitVec.ofNat 64 (1000000 * m + 1000 * k + j)
theorem nmk_int {m k j : Nat} (hm : m ≤ 1000) (hk : k ≤ 100000) (hj : j ≤ 1000000) : ((nmk m k j).toNat : Int) = 1000000 * (m : Int) + 1000 * (k : Int) + (j : Int) := by
  unfold nmk; rw [BitVec.toNat_ofNat]; omega
theorem ofN_int {n : Nat} (h : n ≤ 1000000000) : ((BitVec.ofNat 64 n).toNat : Int) = (n : Int) := by rw [BitVec.toNat_ofNat]; omega
def mks (m k j : Nat) : List (BitVec 64) := (List.range j).map (nmk m k)
theorem mks_len (m k j : Nat) : (mks m k j).length = j := by simp [mks]
theorem mks_at {m k j i : Nat} {q : BitVec 64} (h : (mks m k j)[i]? = some q) : q = nmk m k i := by
  unfold mks at h
  rw [List.getElem?_map] at h
  cases hi : (List.range j)[i]? with
  | none => rw [hi] at h; cases h
  | some z =>
    rw [hi] at h
    have hz : z = i := by
      have h1 := List.getElem?_eq_some_iff.1 hi
      obtain ⟨h2, h3⟩ := h1
      rw [List.getElem_range] at h3; exact h3.symm
    subst hz; exact (Option.some.inj h).symm
/-- News that are written over, so far. -/
def wrN (m k : Nat) (l : List (BitVec 64)) (q : Nat) : List (BitVec 64) := mks m k q ++ l.drop q
theorem wrN_0 (m k : Nat) (l : List (BitVec 64)) : wrN m k l 0 = l := by simp [wrN, mks]
theorem wrN_len {m k q : Nat} {l : List (BitVec 64)} (h : q ≤ l.length) : (wrN m k l q).length = l.length := by rw [wrN, List.length_append, mks_len, List.length_drop]; omega
theorem wrN_all {m k : Nat} {l : List (BitVec 64)} : wrN m k l l.length = mks m k l.length := by simp [wrN]
theorem wrN_set {m k q : Nat} {l : List (BitVec 64)} (h : q < l.length) : ((wrN m k l q).map b64).set q (b64 (nmk m k q)) = (wrN m k l (q + 1)).map b64 := by
  rw [← List.map_set]
  congr 1
  unfold wrN
  apply List.ext_getElem?
  intro j
  have hl : (mks m k q).length = q := mks_len m k q
  have hl' : (mks m k (q + 1)).length = q + 1 := mks_len m k (q + 1)
  rw [List.getElem?_set, List.length_append, hl, List.length_drop]
  rcases Nat.lt_trichotomy q j with h1 | h1 | h1
  · rw [if_neg (by omega), List.getElem?_append_right (by omega), List.getElem?_append_right (by omega), hl, hl', List.getElem?_drop, List.getElem?_drop]
    congr 1; omega
  · subst h1
    rw [if_pos rfl, if_pos (by omega), List.getElem?_append_left (by omega)]
    unfold mks
    rw [List.getElem?_map, List.getElem?_range (by omega)]; rfl
  · rw [if_neg (by omega), List.getElem?_append_left (by omega), List.getElem?_append_left (by omega)]
    unfold mks
    rw [List.getElem?_map, List.getElem?_map, List.getElem?_range h1, List.getElem?_range (by omega)]
/-- A list of doubts that was handed out and written full, with what append gave behind its parts. -/
structure Td where
  l : Value
  g : Value
  nn : Value
  aa : Value
  m : Nat
  Q : List Dq
  av : List Value
def tdC (t : Td) : List Value := [t.l, t.g, t.nn, t.aa, .int .i64 (t.m : Int)]
def ext (m : Nat) : List (BitVec 64) := [BitVec.ofNat 64 (7 + m), BitVec.ofNat 64 (8 + m), BitVec.ofNat 64 (9 + m)]
def oneM (m : Nat) : List Value := [.int .i64 (0 - (m : Int) - 1), b64 (BitVec.ofNat 64 m), .slice none 0 0]
def moreM (m k : Nat) : List Value := (List.replicate k (oneM m)).flatten
def fN (x : Dq) : RdF := ⟨x.2, 1, x.1.2.2.length, x.1.2.2.map b64⟩
def fA (m : Nat) (x : Dq) (a : Value) : RdF := ⟨a, 1, x.1.2.2.length + 3, (x.1.2.2 ++ ext m).map b64⟩
def MkD (m k : Nat) (x : Dq) : Prop := x.1.1 = -1000 * (m : Int) - (k : Int) - 1 ∧ x.1.2.1 = BitVec.ofNat 64 (1000 * m + k) ∧ x.1.2.2 = mks m k x.1.2.2.length ∧ x.1.2.2.length ≤ 1000000
structure TdOk (t : Td) (F : List RdF) : Prop where
  m : t.m ≤ 1000
  K : t.Q.length ≤ 65536
  av : t.av.length = t.Q.length
  mark : ∀ k x, t.Q[k]? = some x → MkD t.m k x
  fl : (⟨t.l, 3, t.Q.length, dC t.Q⟩ : RdF) ∈ F
  fg : (⟨t.g, 3, t.Q.length + 3, dC t.Q ++ moreM t.m 3⟩ : RdF) ∈ F
  fnn : (⟨t.nn, 1, t.Q.length, t.Q.map Prod.snd⟩ : RdF) ∈ F
  faa : (⟨t.aa, 1, t.Q.length, t.av⟩ : RdF) ∈ F
  fn : ∀ x ∈ t.Q, fN x ∈ F
  fa : ∀ (k : Nat) (x : Dq) (a : Value), t.Q[k]? = some x → t.av[k]? = some a → fA t.m x a ∈ F
theorem TdOk.mono {t : Td} {F G : List RdF} (h : TdOk t F) (hs : ∀ f ∈ F, f ∈ G) : TdOk t G :=
  ⟨h.m, h.K, h.av, h.mark, hs _ h.fl, hs _ h.fg, hs _ h.fnn, hs _ h.faa, fun x hx => hs _ (h.fn x hx), fun k x a h1 h2 => hs _ (h.fa k x a h1 h2)⟩
theorem dC_set0 {D T : List Dq} {x : Dq} {a : Int} {i : Nat} (hi : D.length = i) : (dC (D ++ x :: T)).set (i * 3 + 0) (.int .i64 a) = dC (D ++ ((a, x.1.2), x.2) :: T) := by
  subst hi
  have := flat_set (f := fun x : Dq => ([.int .i64 x.1.1, b64 x.1.2.1, x.2] : List Value)) (n := 3) (fun _ => rfl) (X := D ++ x :: T) (i := D.length) (k := 0) (x := x) (x' := ((a, x.1.2), x.2)) (u := .int .i64 a) (by simp) (by decide) rfl
  unfold dC
  rw [this, List.set_append_right _ _ (Nat.le_refl _), Nat.sub_self, List.set_cons_zero]
theorem dC_set1 {D T : List Dq} {x : Dq} {a : BitVec 64} {i : Nat} (hi : D.length = i) : (dC (D ++ x :: T)).set (i * 3 + 1) (b64 a) = dC (D ++ ((x.1.1, a, x.1.2.2), x.2) :: T) := by
  subst hi
  have := flat_set (f := fun x : Dq => ([.int .i64 x.1.1, b64 x.1.2.1, x.2] : List Value)) (n := 3) (fun _ => rfl) (X := D ++ x :: T) (i := D.length) (k := 1) (x := x) (x' := ((x.1.1, a, x.1.2.2), x.2)) (u := b64 a) (by simp) (by decide) rfl
  unfold dC
  rw [this, List.set_append_right _ _ (Nat.le_refl _), Nat.sub_self, List.set_cons_zero]
theorem dC_news {D T : List Dq} {a : Int} {o : BitVec 64} {n n' : List (BitVec 64)} {v : Value} : dC (D ++ ((a, o, n), v) :: T) = dC (D ++ ((a, o, n'), v) :: T) := by simp [dC]
theorem more_snoc (m k : Nat) : moreM m k ++ oneM m = moreM m (k + 1) := by unfold moreM; rw [List.replicate_succ', List.flatten_append]; simp
theorem lenDT {i : Nat} {D T : List Dq} {Q : List Dq} (h : (D ++ T).length = Q.length) (hi : D.length = i) (hlt : i < Q.length) : ∃ x T', T = x :: T' := by
  cases T with
  | nil => rw [List.append_nil] at h; omega
  | cons x T' => exact ⟨x, T', rfl⟩

theorem newsMark_p (m k j : Nat) (w : World) (hm : m ≤ 1000) (hk : k ≤ 100000) (hj : j ≤ 1000000) :
    PureC Try.prog 28 [.int .i64 (m : Int), .int .i64 (k : Int), .int .i64 (j : Int)] (b64 (nmk m k j)) w := by
 refine enter0 Try.func28 rfl Try.ntmps28 rfl ?_
 simp only [envOf]
 refine tR ?_
 refine tA rfl rfl ?_
 refine tE ?_
 refine tR ?_
 refine tM rfl rfl ?_
 first | refine At.val (Val.mulI rfl rfl (by omega) (by omega)) rfl rfl rfl ?_ | refine At.val (Val.bin rfl rfl rfl) rfl rfl rfl ?_
 refine tM rfl rfl ?_
 first | refine At.val (Val.mulI rfl rfl (by omega) (by omega)) rfl rfl rfl ?_ | refine At.val (Val.bin rfl rfl rfl) rfl rfl rfl ?_
 first | refine At.val (Val.addI rfl rfl (by omega) (by omega)) rfl rfl rfl ?_ | refine At.val (Val.bin rfl rfl rfl) rfl rfl rfl ?_
 refine tM rfl rfl ?_
 first | refine At.val (Val.addI rfl rfl (by omega) (by omega)) rfl rfl rfl ?_ | refine At.val (Val.bin rfl rfl rfl) rfl rfl rfl ?_
 first | refine At.val (Val.toU Try.underlying3 Try.underlying32 rfl (by omega) (by omega)) rfl rfl rfl ?_ | refine At.val (Val.conv Try.underlying3 Try.underlying32 rfl) rfl rfl rfl ?_
 refine tA rfl rfl ?_
 refine tE ?_
 refine At.retC ?_
 refine At.ret1 (.inl rfl) rfl rfl rfl (fun w hw => ?_)
 exact ⟨by rw [b64, nmk_int hm hk hj], hw.mod⟩

theorem marked_p (v : Value) (m k j : Nat) (w : World) (hv : RdW w v (mks m k j)) (hm : m ≤ 1000) (hk : k ≤ 100000) (hj : j ≤ 1000000) :
    PureC Try.prog 31 [v, .int .i64 (m : Int), .int .i64 (k : Int)] (.bool true) w := by
 refine enter0 Try.func31 rfl Try.ntmps31 rfl ?_
 have hml := mks_len m k j
 simp only [envOf]
 refine tR ?_
 refine tA rfl rfl ?_
 refine tE ?_
 refine At.seq ?_
 refine tR ?_
 refine tA rfl rfl ?_
 refine tE ?_
 refine At.block ?_
 skip
 refine At.loop (σ := Nat) (fun i => i ≤ j) (fun i => [(0, v), (1, .int .i64 (m : Int)), (2, .int .i64 (k : Int)), (7, .int .i64 (i : Int))]) (fun i => []) (fun i => j - i) 0 (Nat.zero_le _) (Sub.cons rfl (Sub.cons rfl (Sub.cons rfl (Sub.cons rfl Sub.nil)))) (List.Perm.refl _) ?_
 intro i hs
 refine At.seq ?_
 refine tR ?_
 refine tM rfl rfl ?_
 refine tM rfl rfl ?_
 refine At.val (Val.lenRd hv Try.underlying66 rfl) rfl rfl rfl ?_
 refine At.val (Val.bin rfl rfl rfl) rfl rfl rfl ?_
 refine tE ?_
 refine At.cond rfl (fun h1 => ?_) (fun h1 => ?_)
 ·skip
  try simp only [hasB, isSizeB, Bool.not_eq_true', Bool.not_eq_false', bne_iff_ne, ne_eq, bne_eq_false_iff_eq, beq_iff_eq, beq_eq_false_iff_ne, decide_eq_true_eq, decide_eq_false_iff_not, gt_iff_lt, ge_iff_le] at h1
  refine At.skipC ?_
  refine At.thenN ?_
  refine At.seq ?_
  refine At.block ?_
  refine At.seq ?_
  refine At.quiet rfl (by decide +kernel) ?_
  refine qM rfl rfl ?_
  refine qM rfl rfl ?_
  refine QAt.idxF hv Try.underlying66 Try.sizeOf32 rfl rfl (by omega) (by omega) rfl rfl (fun b2 o3 q4 hq5 hc6 => ?_)
  refine QAt.val (Val.loadOld Try.isAgg32 rfl hc6 (fun h => h)) rfl rfl rfl ?_
  obtain rfl := mks_at hq5
  ·skip
   refine qM rfl rfl ?_
   refine qM rfl rfl ?_
   refine qM rfl rfl ?_
   refine QAt.callP (fun w hw => newsMark_p m k i w hm hk (by omega)) Try.call28 rfl rfl ?_
   refine QAt.val (Val.bin rfl rfl rfl) rfl rfl rfl ?_
   simp only [Int.toNat_natCast]
   rw [bne_self_eq_false]
   refine QAt.fin ?_
   refine At.thenN ?_
   refine At.condF rfl ?_
   refine At.skipC ?_
   refine At.blkN ?_
   refine At.thenN ?_
   refine At.region ?_
   refine tM rfl rfl ?_
   first | refine At.val (Val.addI rfl rfl (by omega) (by omega)) rfl rfl rfl ?_ | refine At.val (Val.bin rfl rfl rfl) rfl rfl rfl ?_
   refine tA rfl rfl ?_
   refine tE ?_
   exact At.again (i + 1) (show i + 1 ≤ _ by omega) (by omega) (Sub.cons rfl (Sub.cons rfl (Sub.cons rfl (Sub.cons (congrArg (fun z => some (Value.int IntKind.i64 z)) (by omega)) Sub.nil)))) (List.Perm.refl _)
 ·skip
  try simp only [hasB, isSizeB, Bool.not_eq_true', Bool.not_eq_false', bne_iff_ne, ne_eq, bne_eq_false_iff_eq, beq_iff_eq, beq_eq_false_iff_ne, decide_eq_true_eq, decide_eq_false_iff_not, gt_iff_lt, ge_iff_le] at h1
  refine At.exitC ?_
  refine At.thenX ?_
  refine At.thenX ?_
  refine At.blkX ?_
  refine At.thenN ?_
  refine tR ?_
  refine tA rfl rfl ?_
  refine tE ?_
  refine At.retC ?_
  refine At.ret1 (.inl rfl) rfl rfl rfl (fun w hw => ?_)
  exact ⟨rfl, hw.mod⟩

end Go.Proofs.Ytgighokkflchmaa
