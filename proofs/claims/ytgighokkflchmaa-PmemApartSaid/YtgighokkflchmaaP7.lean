/- The places in doubt. -/
import Derived.Test.YtgighokkflchmaaP2
import Derived.Test.YtgighokkflchmaaSo
import Derived.Sort.OwnSortedInts
set_option linter.unusedVariables false
set_option linter.unusedSimpArgs false
namespace Go.Proofs.Ytgighokkflchmaa
open Go Go.Wk

abbrev irow (e : Nat) (v : Value) (l : List Int) : Res := rowR v e 1 l.length (l.map (Value.int .i64))
theorem At.rowNilI {Γ : Ctx} {E : Env} {H : List Res} (e : Nat) {φ : Act → World → Prop} (k : At Γ E (irow e (.slice none 0 0) [] :: H) φ) : At Γ E H φ := At.rowNil e 1 k
theorem At.appendI1 {P : Program} {Γ : Ctx} {E : Env} {H : List Res} {ops : Array Oper} {Q : Exit → Act → World → Prop} {rest : List Oper} {d : Nat} {ty : TypeId} {pos : String} {after : Array Edge} {x y : Operand} {v : Value} {i j t e by_ b U : Nat} {ti : TypeInfo} {z : Value} {l : List Int} {c : Int} (ht : P.underlying t = some (.slice e)) (hti : P.info? e = some ti) (hz : ti.zero = some z) (hsize : ti.size = 1) (hby : ti.bytes = by_) (hzs : z.cells.size = 1)
    (hx : ev E x = some v) (hy : ev E y = some (.slice (some ⟨b, 0, none⟩) 1 1)) (hi : H[i]? = some (irow e v l)) (hj : H[j]? = some (blk b U [.int .i64 c])) (h63 : (l.length + 1) * by_ ≤ 140737488355328) (h64 : l.length + 1 ≤ 140737488355328) (hn : Nat.blt d Γ.n = true)
    (k : ∀ v', At Γ ((d, v') :: E) (H.set i (irow e v' (l ++ [c]))) (wpList P ops Q rest)) :
    At Γ E H (wpList P ops Q ({ dst := some d, op := .call { callee := .builtin .append, args := #[x, y], argTypes := #[t, t] }, type := ty, pos, after, guard := none } :: rest)) :=
  At.append (i := i) (ys := [.int .i64 c]) ht hti hz hsize hby hzs rfl hx hy hi rfl (fun w hw j' u hj' => by rw [Nat.zero_add]; exact ((hw.blk hj).cell j').trans hj') (by simp [Value.oneCell']) h63 h64 hn fun v' => by
    have := k v'
    simpa only [irow, List.map_append, List.map_cons, List.map_nil, List.length_append, List.length_cons, List.length_nil, Nat.zero_add] using this
/-- The words in doubt, rising. -/
def inDoubt (w : Wd) : Bool := !w.news.isEmpty
def dk (ws : List Wd) : List Nat := (List.range ws.length).filter fun k => match ws[k]? with | some w => inDoubt w | none => false
def dkeys (ws : List Wd) : List Int := (dk ws).map fun (k : Nat) => 8 * (k : Int)
theorem mem_dk {ws : List Wd} {k : Nat} : k ∈ dk ws ↔ ∃ w, ws[k]? = some w ∧ w.news ≠ [] := by
  unfold dk
  rw [List.mem_filter, List.mem_range]
  constructor
  · rintro ⟨h1, h2⟩
    cases hk : ws[k]? with
    | none => rw [hk] at h2; cases h2
    | some w => rw [hk] at h2; exact ⟨w, rfl, by intro e; simp [inDoubt, e] at h2⟩
  · rintro ⟨w, h1, h2⟩
    refine ⟨(List.getElem?_eq_some_iff.1 h1).1, ?_⟩
    rw [h1]
    cases h : w.news with
    | nil => exact absurd h h2
    | cons a l => simp [inDoubt, h]
theorem dk_rising (ws : List Wd) : (dk ws).Pairwise (· < ·) := List.pairwise_lt_range.filter _
theorem dkeys_rising (ws : List Wd) : (dkeys ws).Pairwise (· < ·) := by
  unfold dkeys
  rw [List.pairwise_map]
  exact (dk_rising ws).imp fun h => by omega
theorem mem_dkeys {ws : List Wd} {g : Nat → Nat × Value} {x : Int} : x ∈ dkeys ws ↔ (mk ws g x).isSome = true := by
  unfold dkeys
  rw [List.mem_map]
  constructor
  · rintro ⟨k, hk, rfl⟩
    obtain ⟨w, h1, h2⟩ := mem_dk.1 hk
    rw [mk_at, mkN_some h1 h2]; rfl
  · intro h
    obtain ⟨v, hv⟩ := Option.isSome_iff_exists.1 h
    obtain ⟨k, w, rfl, h1, h2, _⟩ := mk_inv hv
    exact ⟨k, mem_dk.2 ⟨w, h1, h2⟩, rfl⟩
theorem rising_eq : ∀ {a b : List Int}, a.Pairwise (· < ·) → b.Pairwise (· < ·) → (∀ x, x ∈ a ↔ x ∈ b) → a = b
  | [], [], _, _, _ => rfl
  | [], y :: b, _, _, h => by have := (h y).2 (by simp); cases this
  | x :: a, [], _, _, h => by have := (h x).1 (by simp); cases this
  | x :: a, y :: b, ha, hb, h => by
    have ha' := List.pairwise_cons.1 ha
    have hb' := List.pairwise_cons.1 hb
    have hxy : x = y := by
      rcases List.mem_cons.1 ((h x).1 (by simp)) with e | e
      · exact e
      · rcases List.mem_cons.1 ((h y).2 (by simp)) with e' | e'
        · exact e'.symm
        · have := hb'.1 x e; have := ha'.1 y e'; omega
    subst hxy
    congr 1
    refine rising_eq ha'.2 hb'.2 fun z => ?_
    have hz := h z
    simp only [List.mem_cons] at hz
    constructor
    · intro hm
      have := ha'.1 z hm
      rcases hz.1 (.inr hm) with e | e
      · omega
      · exact e
    · intro hm
      have := hb'.1 z hm
      rcases hz.2 (.inr hm) with e | e
      · omega
      · exact e
theorem rising_len : ∀ {l : List Int} {a n : Nat}, l.Pairwise (· < ·) → (∀ x ∈ l, ∃ i : Nat, x = 8 * (i : Int) ∧ a ≤ i ∧ i < n) → l ≠ [] → l.length + a ≤ n
  | [], _, _, _, _, h => absurd rfl h
  | [x], a, n, _, h, _ => by obtain ⟨i, _, h1, h2⟩ := h x (by simp); simp; omega
  | x :: y :: l, a, n, hp, h, _ => by
    obtain ⟨i, rfl, h1, h2⟩ := h x (by simp)
    have hp' := List.pairwise_cons.1 hp
    have := rising_len (l := y :: l) (a := i + 1) (n := n) hp'.2 (fun z hz => by
      obtain ⟨q, rfl, h3, h4⟩ := h z (List.mem_cons_of_mem _ hz)
      have := hp'.1 _ hz
      exact ⟨q, rfl, by omega, h4⟩) (by simp)
    simp only [List.length_cons] at this ⊢
    omega
theorem sorted_rising {l : List Int} (hn : l.Nodup) : (l.mergeSort fun x y => decide (x ≤ y)).Pairwise (· < ·) := by
  have h1 := List.pairwise_mergeSort (le := fun (x y : Int) => decide (x ≤ y)) (fun a b c h1 h2 => by simp at *; omega) (fun a b => by simp; omega) l
  have h2 : (l.mergeSort fun x y => decide (x ≤ y)).Nodup := (List.mergeSort_perm l _).nodup_iff.2 hn
  exact (h1.and h2).imp fun ⟨h3, h4⟩ => by simp at h3; omega
/-- What has been met of a map's keys. -/
def Coll (ws : List Wd) (g : Nat → Nat × Value) (left : Int → Bool) (l : List Int) : Prop := l.Nodup ∧ ∀ x, x ∈ l ↔ ((mk ws g x).isSome = true ∧ left x = false)
theorem coll_start (ws : List Wd) (g : Nat → Nat × Value) : Coll ws g (fun k => (mk ws g k).isSome) [] := ⟨by simp, fun x => ⟨fun h => (by cases h), fun ⟨h1, h2⟩ => absurd (show (mk ws g x).isSome = false from h2) (by rw [h1]; simp)⟩⟩
theorem coll_step {ws : List Wd} {g : Nat → Nat × Value} {left : Int → Bool} {l : List Int} {x : Int} {v : Value} (h : Coll ws g left l) (hl : left x = true) (hf : mk ws g x = some v) : Coll ws g (fun q => left q && q != x) (l ++ [x]) := by
  have hx : x ∉ l := fun hm => by have := ((h.2 x).1 hm).2; rw [hl] at this; cases this
  refine ⟨List.nodup_append.2 ⟨h.1, by simp, fun a ha b hb => by rw [List.mem_singleton.1 hb]; intro e; exact hx (e ▸ ha)⟩, fun q => ?_⟩
  rw [List.mem_append, List.mem_singleton, h.2 q]
  constructor
  · rintro (⟨h1, h2⟩ | rfl)
    · exact ⟨h1, by show (left q && q != x) = false; rw [h2]; rfl⟩
    · exact ⟨by rw [hf]; rfl, by simp⟩
  · rintro ⟨h1, h2⟩
    by_cases e : q = x
    · exact .inr e
    · refine .inl ⟨h1, ?_⟩
      have : (q != x) = true := by simpa using e
      have h2 : (left q && q != x) = false := h2
      rw [this, Bool.and_true] at h2; exact h2
theorem coll_len {ws : List Wd} {g : Nat → Nat × Value} {left : Int → Bool} {l : List Int} (h : Coll ws g left l) : l.length ≤ ws.length := by
  by_cases e : l = []
  · subst e; simp
  · have hr := sorted_rising h.1
    have := rising_len (a := 0) (n := ws.length) hr (fun x hx => by
      have hx' := ((h.2 x).1 ((List.mergeSort_perm l _).mem_iff.1 hx)).1
      obtain ⟨v, hv⟩ := Option.isSome_iff_exists.1 hx'
      obtain ⟨k, w, rfl, h1, _, _⟩ := mk_inv hv
      exact ⟨k, rfl, Nat.zero_le _, (List.getElem?_eq_some_iff.1 h1).1⟩) (fun h0 => e (by have := congrArg List.length h0; rw [List.length_mergeSort] at this; exact List.eq_nil_of_length_eq_zero this))
    rw [List.length_mergeSort] at this
    omega
theorem coll_end {ws : List Wd} {g : Nat → Nat × Value} {left : Int → Bool} {l : List Int} (h : Coll ws g left l) (hl : ∀ k, left k = false) : l.mergeSort (fun x y => decide (x ≤ y)) = dkeys ws :=
  rising_eq (sorted_rising h.1) (dkeys_rising ws) fun x => by
    rw [(List.mergeSort_perm l _).mem_iff, h.2 x, hl x, mem_dkeys (g := g)]
    simp

theorem ins_nil (w : World) :
    PureC Try.prog 47 [.slice none 0 0, .int .i64 0, .int .i64 0] (.tuple #[]) w := by
 refine enter0 Try.func47 rfl Try.ntmps47 rfl ?_
 simp only [envOf]
 refine tR ?_
 refine tM rfl rfl ?_
 first | refine At.val (Val.addI rfl rfl (by omega) (by omega)) rfl rfl rfl ?_ | refine At.val (Val.bin rfl rfl rfl) rfl rfl rfl ?_
 refine tA rfl rfl ?_
 refine tE ?_
 refine At.block ?_
 skip
 refine At.loop (σ := Unit) (fun u => True) (fun u => [(2, .int .i64 0), (6, .int .i64 1)]) (fun u => []) (fun u => 0) () trivial (Sub.cons rfl (Sub.cons rfl Sub.nil)) (List.Perm.refl _) ?_
 intro u hs
 refine At.seq ?_
 refine tR ?_
 refine tM rfl rfl ?_
 refine tM rfl rfl ?_
 refine At.val (Val.bin rfl rfl rfl) rfl rfl rfl ?_
 refine tE ?_
 refine At.cond rfl (fun h1 => ?_) (fun h1 => ?_)
 ·skip
  try simp only [hasB, isSizeB, Bool.not_eq_true', Bool.not_eq_false', bne_iff_ne, ne_eq, bne_eq_false_iff_eq, beq_iff_eq, beq_eq_false_iff_ne, decide_eq_true_eq, decide_eq_false_iff_not, gt_iff_lt, ge_iff_le] at h1
  omega
 ·skip
  try simp only [hasB, isSizeB, Bool.not_eq_true', Bool.not_eq_false', bne_iff_ne, ne_eq, bne_eq_false_iff_eq, beq_iff_eq, beq_eq_false_iff_ne, decide_eq_true_eq, decide_eq_false_iff_not, gt_iff_lt, ge_iff_le] at h1
  refine At.exitC ?_
  refine At.thenX ?_
  refine At.thenX ?_
  refine At.blkX ?_
  refine At.ret0 (.inr rfl) rfl rfl  (fun w hw => ?_)
  exact ⟨rfl, hw.mod⟩

theorem pdq_nil (k : Int) (w : World) :
    PureC Try.prog 45 [.slice none 0 0, .int .i64 0, .int .i64 0, .int .i64 k] (.tuple #[]) w := by
 refine enter0 Try.func45 rfl Try.ntmps45 rfl ?_
 simp only [envOf]
 refine tR ?_
 refine tA rfl rfl ?_
 refine tE ?_
 refine tR ?_
 refine tA rfl rfl ?_
 refine tE ?_
 refine At.block ?_
 skip
 refine At.loop (σ := Unit) (fun u => True) (fun u => [(0, .slice none 0 0), (1, .int .i64 0), (2, .int .i64 0)]) (fun u => []) (fun u => 0) () trivial (Sub.cons rfl (Sub.cons rfl (Sub.cons rfl Sub.nil))) (List.Perm.refl _) ?_
 intro u hs
 refine At.block ?_
 refine tR ?_
 refine tM rfl rfl ?_
 refine tM rfl rfl ?_
 first | refine At.val (Val.subI rfl rfl (by omega) (by omega)) rfl rfl rfl ?_ | refine At.val (Val.bin rfl rfl rfl) rfl rfl rfl ?_
 refine tA rfl rfl ?_
 refine tE ?_
 refine At.seq ?_
 refine tR ?_
 refine tM rfl rfl ?_
 refine At.val (Val.bin rfl rfl rfl) rfl rfl rfl ?_
 refine tE ?_
 refine At.cond rfl (fun h1 => ?_) (fun h1 => ?_)
 ·skip
  try simp only [hasB, isSizeB, Bool.not_eq_true', Bool.not_eq_false', bne_iff_ne, ne_eq, bne_eq_false_iff_eq, beq_iff_eq, beq_eq_false_iff_ne, decide_eq_true_eq, decide_eq_false_iff_not, gt_iff_lt, ge_iff_le] at h1
  refine tR ?_
  refine tM rfl rfl ?_
  refine tM rfl rfl ?_
  refine tM rfl rfl ?_
  refine At.callP (fun w hw => ins_nil w) Try.call47 rfl rfl ?_
  refine tE ?_
  refine At.retC ?_
  refine At.thenR ?_
  refine At.blkR ?_
  refine At.thenR ?_
  refine At.blkR ?_
  refine At.ret0 (.inl rfl) rfl rfl  (fun w hw => ?_)
  exact ⟨rfl, hw.mod⟩
 ·skip
  try simp only [hasB, isSizeB, Bool.not_eq_true', Bool.not_eq_false', bne_iff_ne, ne_eq, bne_eq_false_iff_eq, beq_iff_eq, beq_eq_false_iff_ne, decide_eq_true_eq, decide_eq_false_iff_not, gt_iff_lt, ge_iff_le] at h1
  omega

theorem sort_nil (w : World) :
    PureC Try.prog 41 [.slice none 0 0] (.tuple #[]) w := by
 refine enter0 Try.func41 rfl Try.ntmps41 rfl ?_
 simp only [envOf]
 refine tR ?_
 refine tM rfl rfl ?_
 refine At.val (Val.len (bt := #[]) Try.underlying23 rfl) rfl rfl rfl ?_
 refine tA rfl rfl ?_
 refine tE ?_
 refine At.region ?_
 refine tM rfl rfl ?_
 refine tM rfl rfl ?_
 refine tM rfl rfl ?_
 refine At.val (Val.conv (P := Try.prog) (s := 3) (t := 92) Try.underlying3 Try.underlying92 rfl) rfl rfl rfl ?_
 rw [show IntKind.u64.wrap ((0 : Nat) : Int) = 0 from rfl]
 refine At.callP (fun w hw => (bits_len 0 w (by omega) (by omega)).mono fun e w' ⟨h1, h2⟩ => ⟨h1, by subst h2; exact Mod.refl _ _⟩) Try.call46 rfl rfl ?_
 refine At.callP (fun w hw => pdq_nil _ w) Try.call45 rfl rfl ?_
 refine At.nil ?_
 refine At.ret0 (.inr rfl) rfl rfl  (fun w hw => ?_)
 exact ⟨rfl, hw.mod⟩


theorem sort_u (v : Value) (l : List Int) (w : World) (h : (irow 3 v l).holds w) (hl : l.length < 4611686018427387904) : Upd Try.prog 41 [v] (irow 3 v l) (.tuple #[]) (irow 3 v (l.mergeSort fun x y => decide (x ≤ y))) w := by
  have hm : ∀ w', Mod (fun _ => False) w w' → Rep w (feet [irow 3 v l]) [irow 3 v l] w' := fun w' hm' => (Rep.one h).garbage hm'
  have h0 : w.ownsRow 0 3 1 v l.length (l.map (Value.int .i64)) := h
  rcases h0.2 with ⟨rfl, hn⟩ | ⟨g, cap, cur, rfl, hbase, hb, h1, h2, h3, h4⟩
  · have : l = [] := List.eq_nil_of_length_eq_zero hn
    subst this
    exact (sort_nil w).mono fun e w' ⟨he, hmod⟩ => ⟨he, by rw [List.mergeSort_nil]; exact hm w' hmod⟩
  · refine (sort_ints g 0 cap l w (holds_of_blockI hb (by simpa using h4)) (Array.getElem?_eq_some_iff.1 hb).1 hl).mono ?_
    rintro e w' ⟨rfl, n, os, rfl⟩
    refine ⟨rfl, ?_⟩
    have hg := grownBy_sortedI (w := w) (g := g) (n := n) (os := os) (l.mergeSort fun x y => decide (x ≤ y)).toArray
    have ho := ownsRow_sortedI (w := w) (base := 0) (n := n) (os := os) (ts := l.mergeSort fun x y => decide (x ≤ y)) (by simp) hbase hb h1 h2 h3
    exact Rep.change (i := 0) (r := irow 3 (.slice (some ⟨g, 0, none⟩) l.length cap) l) (r' := irow 3 (.slice (some ⟨g, 0, none⟩) l.length cap) (l.mergeSort fun x y => decide (x ≤ y))) rfl (Rep.one h) (grown_mod hg) (by
      show World.ownsRow _ 0 _ 1 _ _ _
      rw [List.length_mergeSort]; exact ho) (fun b hb => .inl hb)

theorem places_k (p : Nat) (γ : Gh) (σ : Ds) (w : World) (hd : (Dev p γ σ).holds w) :
    RowK Try.prog 29 [.pointer (some ⟨p, 0, none⟩)] (Dev p γ σ) 3 1 (dkeys σ.ws).length ((dkeys σ.ws).map (Value.int .i64)) w := by
 refine enterV hd Try.func29 rfl Try.ntmps29 rfl ?_
 unfold devL
 have hgd := Dev.good hd
 have hln := hgd.len
 simp only [envOf]
 refine tR ?_
 refine tA rfl rfl ?_
 refine tE ?_
 refine tR ?_
 refine tA rfl rfl ?_
 refine tE ?_
 refine At.seq ?_
 refine At.seq ?_
 refine At.rowNilI 3 ?_
 refine At.region ?_
 refine tM rfl rfl ?_
 refine At.val (Val.nilCheck rfl) rfl rfl rfl ?_
 refine At.val (Val.field 1 rfl fo_71_1 rfl) rfl rfl rfl ?_
 refine At.val (Val.load (i := 1) Try.isAgg69 rfl rfl rfl) rfl rfl rfl ?_
 refine At.range (i := 3) Try.underlying69 rfl rfl rfl (fun r1 cnt2 => ?_)
 simp only [sc0, scS]
 refine tE ?_
 refine At.block ?_
 skip
 refine At.loop (σ := (Int → Bool) × Option (Int × Value) × Nat × List Int × Value) (fun s => Coll σ.ws γ.g s.1 s.2.2.2.1) (fun s => [(0, .pointer (some ⟨p, 0, none⟩)), (3, s.2.2.2.2), (9, .pointer (some ⟨r1, 0, none⟩))]) (fun s => [irow 3 s.2.2.2.2 s.2.2.2.1, blk p tDv [γ.vo, .map (some γ.mb), .int .i64 (σ.steps : Int), .bool σ.armed, .int .i64 (σ.left : Int)], wrow tW γ.vo (olds σ.ws), iterR γ.mb r1 (mk σ.ws γ.g) s.1 s.2.1 s.2.2.1, fam (dI σ.ws γ.g), factR (Dgood σ)]) (fun s => s.2.2.1) ((fun k => (mk σ.ws γ.g k).isSome), none, cnt2, [], .slice none 0 0) (coll_start _ _) (Sub.cons rfl (Sub.cons rfl (Sub.cons rfl Sub.nil))) (List.Perm.refl _) ?_
 intro s hs
 obtain ⟨left, cur, cnt, l, vl⟩ := s
 dsimp only at hs ⊢
 have hcl := coll_len hs
 refine tR ?_
 refine At.next (i := 3) rfl rfl rfl (fun hl => ?_) (fun x v cn hl hf hcn => ?_)
 skip
 ·skip
  refine At.val (Val.extract rfl rfl) rfl rfl rfl ?_
  refine tE ?_
  refine At.seq ?_
  refine At.condF rfl ?_
  refine At.exitC ?_
  refine At.thenX ?_
  refine At.thenX ?_
  refine At.blkX ?_
  refine At.thenN ?_
  refine At.seq ?_
  refine At.iterEnd 3 rfl ?_
  simp only [sc0, scS]
  refine At.region ?_
  refine tM rfl rfl ?_
  refine At.call1 0 rfl (fun w hw hr => sort_u _ _ w hr (by omega)) Try.call41 rfl rfl ?_
  simp only [sc0, scS]
  refine tE ?_
  refine tR ?_
  refine tM rfl rfl ?_
  refine tA rfl rfl ?_
  refine tE ?_
  refine At.retC ?_
  refine At.ret1 (.inl rfl) rfl rfl rfl (fun w hw => ?_)
  rw [coll_end hs hl] at hw
  exact ⟨_, rfl, retRK (F := []) hw⟩
 ·skip
  simp only [sc0, scS]
  refine At.val (Val.extract rfl rfl) rfl rfl rfl ?_
  refine tE ?_
  refine At.seq ?_
  refine At.condT rfl ?_
  refine At.skipC ?_
  refine At.thenN ?_
  refine At.block ?_
  refine tR ?_
  refine At.val (Val.entry (i := 3) rfl rfl) rfl rfl rfl ?_
  refine At.val (Val.extract rfl rfl) rfl rfl rfl ?_
  refine tA rfl rfl ?_
  refine tE ?_
  refine At.region ?_
  refine tM rfl rfl ?_
  refine tM rfl rfl ?_
  refine At.buildSl (fun a ha => by simp only [List.map_toArray, List.map_cons, List.map_nil, ha.eval (x := (.tmp 15)) rfl]; try rfl) (bs_23_1 _ ) rfl (fun b3 => ?_)
  refine At.appendI1 (i := 1) (j := 0) (by_ := 8) Try.underlying23 info_3 rfl rfl rfl rfl rfl rfl rfl rfl (by omega) (by omega) rfl (fun v4 => ?_)
  simp only [sc0, scS]
  refine At.drop 0 ?_
  simp only [ec0, ecS]
  refine tA rfl rfl ?_
  refine At.nil ?_
  refine At.blkN ?_
  refine At.thenN ?_
  exact At.again ((fun q => left q && q != x), some (x, v), cn, l ++ [x], v4) (coll_step hs hl hf) (show cn < cnt by omega) (Sub.cons rfl (Sub.cons rfl (Sub.cons rfl Sub.nil))) (List.Perm.refl _)

end Go.Proofs.Ytgighokkflchmaa
