/- Parts of the proof, joined: see the law's text. -/
import Derived.Test.YthhkbbodhghmcaaGreatDoorY3
import Derived.Sort.OwnSortedInts
import Derived.Test.YthhkbbodhghmcaaGreatDoorY1
import Derived.Lib.BufferMore
set_option linter.unusedVariables false
set_option linter.unusedSimpArgs false
namespace Go.Proofs.YthhkbbodhghmcaaGreatDoor
open Go Go.Wk
abbrev irow (e : Nat) (v : Value) (l : List Int) : Res := rowR v e 1 l.length (l.map (Value.int .i64))
theorem At.rowNilI {Γ : Ctx} {E : Env} {H : List Res} (e : Nat) {φ : Act → World → Prop} (k : At Γ E (irow e (.slice none 0 0) [] :: H) φ) : At Γ E H φ := At.rowNil e 1 k
theorem At.appendI1 {P : Program} {Γ : Ctx} {E : Env} {H : List Res} {ops : Array Oper} {Q : Exit → Act → World → Prop} {rest : List Oper} {d : Nat} {ty : TypeId} {pos : String} {after : Array Edge} {x y : Operand} {v : Value} {i j t e by_ b U : Nat} {ti : TypeInfo} {z : Value} {l : List Int} {c : Int} (ht : P.underlying t = some (.slice e)) (hti : P.info? e = some ti) (hz : ti.zero = some z) (hsize : ti.size = 1) (hby : ti.bytes = by_) (hzs : z.cells.size = 1)
    (hx : ev E x = some v) (hy : ev E y = some (.slice (some ⟨b, 0, none⟩) 1 1)) (hi : H[i]? = some (irow e v l)) (hj : H[j]? = some (blk b U [.int .i64 c])) (h63 : (l.length + 1) * by_ ≤ 140737488355328) (h64 : l.length + 1 ≤ 140737488355328) (hn : Nat.blt d Γ.n = true)
    (k : ∀ v', At Γ ((d, v') :: E) (H.set i (irow e v' (l ++ [c]))) (wpList P ops Q rest)) :
    At Γ E H (wpList P ops Q ({ dst := some d, op := .call { callee := .builtin .append, args := #[x, y], argTypes := #[t, t] }, type := ty, pos, after, guard := none } :: rest)) :=
  At.append (i := i) (ys := [.int .i64 c]) ht hti hz hsize hby hzs rfl hx hy hi rfl (fun w hw j' u hj' => by rw [Nat.zero_add]; exact ((hw.blk hj).cell j').trans hj') (by simp [Value.oneCell']) h63 h64 hn fun v' => by
    have := k v'
    simpa only [irow, List.map_append, List.map_cons, List.map_nil, List.length_append, List.length_cons, List.length_nil, Nat.zero_add] using this
/-- The words in doubt, rising. -/
def inDoubt (w : Wd) : Bool := !w.news.isEmpty
def dk (ws : List Wd) : List Nat := (List.range ws.length).filter fun k => match ws[k]? with | some w => inDoubt w | none => false
def dkeys (ws : List Wd) : List Int := (dk ws).map fun (k : Nat) => 8 * (k : Int)
theorem mem_dk {ws : List Wd} {k : Nat} : k ∈ dk ws ↔ ∃ w, ws[k]? = some w ∧ w.news ≠ [] := by
  unfold dk
  rw [List.mem_filter, List.mem_range]
  constructor
  · rintro ⟨h1, h2⟩
    cases hk : ws[k]? with
    | none => rw [hk] at h2; cases h2
    | some w => rw [hk] at h2; exact ⟨w, rfl, by intro e; simp [inDoubt, e] at h2⟩
  · rintro ⟨w, h1, h2⟩
    refine ⟨(List.getElem?_eq_some_iff.1 h1).1, ?_⟩
    rw [h1]
    cases h : w.news with
    | nil => exact absurd h h2
    | cons a l => simp [inDoubt, h]
theorem dk_rising (ws : List Wd) : (dk ws).Pairwise (· < ·) := List.pairwise_lt_range.filter _
theorem dkeys_rising (ws : List Wd) : (dkeys ws).Pairwise (· < ·) := by
  unfold dkeys
  rw [List.pairwise_map]
  exact (dk_rising ws).imp fun h => by omega
theorem mem_dkeys {ws : List Wd} {g : Nat → Nat × Value} {x : Int} : x ∈ dkeys ws ↔ (mk ws g x).isSome = true := by
  unfold dkeys
  rw [List.mem_map]
  constructor
  · rintro ⟨k, hk, rfl⟩
    obtain ⟨w, h1, h2⟩ := mem_dk.1 hk
    rw [mk_at, mkN_some h1 h2]; rfl
  · intro h
    obtain ⟨v, hv⟩ := Option.isSome_iff_exists.1 h
    obtain ⟨k, w, rfl, h1, h2, _⟩ := mk_inv hv
    exact ⟨k, mem_dk.2 ⟨w, h1, h2⟩, rfl⟩
theorem rising_eq : ∀ {a b : List Int}, a.Pairwise (· < ·) → b.Pairwise (· < ·) → (∀ x, x ∈ a ↔ x ∈ b) → a = b
  | [], [], _, _, _ => rfl
  | [], y :: b, _, _, h => by have := (h y).2 (by simp); cases this
  | x :: a, [], _, _, h => by have := (h x).1 (by simp); cases this
  | x :: a, y :: b, ha, hb, h => by
    have ha' := List.pairwise_cons.1 ha
    have hb' := List.pairwise_cons.1 hb
    have hxy : x = y := by
      rcases List.mem_cons.1 ((h x).1 (by simp)) with e | e
      · exact e
      · rcases List.mem_cons.1 ((h y).2 (by simp)) with e' | e'
        · exact e'.symm
        · have := hb'.1 x e; have := ha'.1 y e'; omega
    subst hxy
    congr 1
    refine rising_eq ha'.2 hb'.2 fun z => ?_
    have hz := h z
    simp only [List.mem_cons] at hz
    constructor
    · intro hm
      have := ha'.1 z hm
      rcases hz.1 (.inr hm) with e | e
      · omega
      · exact e
    · intro hm
      have := hb'.1 z hm
      rcases hz.2 (.inr hm) with e | e
      · omega
      · exact e
theorem rising_len : ∀ {l : List Int} {a n : Nat}, l.Pairwise (· < ·) → (∀ x ∈ l, ∃ i : Nat, x = 8 * (i : Int) ∧ a ≤ i ∧ i < n) → l ≠ [] → l.length + a ≤ n
  | [], _, _, _, _, h => absurd rfl h
  | [x], a, n, _, h, _ => by obtain ⟨i, _, h1, h2⟩ := h x (by simp); simp; omega
  | x :: y :: l, a, n, hp, h, _ => by
    obtain ⟨i, rfl, h1, h2⟩ := h x (by simp)
    have hp' := List.pairwise_cons.1 hp
    have := rising_len (l := y :: l) (a := i + 1) (n := n) hp'.2 (fun z hz => by
      obtain ⟨q, rfl, h3, h4⟩ := h z (List.mem_cons_of_mem _ hz)
      have := hp'.1 _ hz
      exact ⟨q, rfl, by omega, h4⟩) (by simp)
    simp only [List.length_cons] at this ⊢
    omega
theorem sorted_rising {l : List Int} (hn : l.Nodup) : (l.mergeSort fun x y => decide (x ≤ y)).Pairwise (· < ·) := by
  have h1 := List.pairwise_mergeSort (le := fun (x y : Int) => decide (x ≤ y)) (fun a b c h1 h2 => by simp at *; omega) (fun a b => by simp; omega) l
  have h2 : (l.mergeSort fun x y => decide (x ≤ y)).Nodup := (List.mergeSort_perm l _).nodup_iff.2 hn
  exact (h1.and h2).imp fun ⟨h3, h4⟩ => by simp at h3; omega
/-- What has been met of a map's keys. -/
def Coll (ws : List Wd) (g : Nat → Nat × Value) (left : Int → Bool) (l : List Int) : Prop := l.Nodup ∧ ∀ x, x ∈ l ↔ ((mk ws g x).isSome = true ∧ left x = false)
theorem coll_start (ws : List Wd) (g : Nat → Nat × Value) : Coll ws g (fun k => (mk ws g k).isSome) [] := ⟨by simp, fun x => ⟨fun h => (by cases h), fun ⟨h1, h2⟩ => absurd (show (mk ws g x).isSome = false from h2) (by rw [h1]; simp)⟩⟩
theorem coll_step {ws : List Wd} {g : Nat → Nat × Value} {left : Int → Bool} {l : List Int} {x : Int} {v : Value} (h : Coll ws g left l) (hl : left x = true) (hf : mk ws g x = some v) : Coll ws g (fun q => left q && q != x) (l ++ [x]) := by
  have hx : x ∉ l := fun hm => by have := ((h.2 x).1 hm).2; rw [hl] at this; cases this
  refine ⟨List.nodup_append.2 ⟨h.1, by simp, fun a ha b hb => by rw [List.mem_singleton.1 hb]; intro e; exact hx (e ▸ ha)⟩, fun q => ?_⟩
  rw [List.mem_append, List.mem_singleton, h.2 q]
  constructor
  · rintro (⟨h1, h2⟩ | rfl)
    · exact ⟨h1, by show (left q && q != x) = false; rw [h2]; rfl⟩
    · exact ⟨by rw [hf]; rfl, by simp⟩
  · rintro ⟨h1, h2⟩
    by_cases e : q = x
    · exact .inr e
    · refine .inl ⟨h1, ?_⟩
      have : (q != x) = true := by simpa using e
      have h2 : (left q && q != x) = false := h2
      rw [this, Bool.and_true] at h2; exact h2
theorem coll_len {ws : List Wd} {g : Nat → Nat × Value} {left : Int → Bool} {l : List Int} (h : Coll ws g left l) : l.length ≤ ws.length := by
  by_cases e : l = []
  · subst e; simp
  · have hr := sorted_rising h.1
    have := rising_len (a := 0) (n := ws.length) hr (fun x hx => by
      have hx' := ((h.2 x).1 ((List.mergeSort_perm l _).mem_iff.1 hx)).1
      obtain ⟨v, hv⟩ := Option.isSome_iff_exists.1 hx'
      obtain ⟨k, w, rfl, h1, _, _⟩ := mk_inv hv
      exact ⟨k, rfl, Nat.zero_le _, (List.getElem?_eq_some_iff.1 h1).1⟩) (fun h0 => e (by have := congrArg List.length h0; rw [List.length_mergeSort] at this; exact List.eq_nil_of_length_eq_zero this))
    rw [List.length_mergeSort] at this
    omega
theorem coll_end {ws : List Wd} {g : Nat → Nat × Value} {left : Int → Bool} {l : List Int} (h : Coll ws g left l) (hl : ∀ k, left k = false) : l.mergeSort (fun x y => decide (x ≤ y)) = dkeys ws :=
  rising_eq (sorted_rising h.1) (dkeys_rising ws) fun x => by
    rw [(List.mergeSort_perm l _).mem_iff, h.2 x, hl x, mem_dkeys (g := g)]
    simp
theorem ins_nil (w : World) :
    PureC Tryz.prog 125 [.slice none 0 0, .int .i64 0, .int .i64 0] (.tuple #[]) w := by
 refine enter0 Tryz.func125 rfl Tryz.ntmps125 rfl ?_
 simp only [envOf]
 refine tR ?_
 refine tM rfl rfl ?_
 first | refine At.val (Val.addI rfl rfl (by omega) (by omega)) rfl rfl rfl ?_ | refine At.val (Val.bin rfl rfl rfl) rfl rfl rfl ?_
 refine tA rfl rfl ?_
 refine tE ?_
 refine At.block ?_
 skip
 refine At.loop (σ := Unit) (fun u => True) (fun u => [(2, .int .i64 0), (6, .int .i64 1)]) (fun u => []) (fun u => 0) () trivial (Sub.cons rfl (Sub.cons rfl Sub.nil)) (List.Perm.refl _) ?_
 intro u hs
 refine At.seq ?_
 refine tR ?_
 refine tM rfl rfl ?_
 refine tM rfl rfl ?_
 refine At.val (Val.bin rfl rfl rfl) rfl rfl rfl ?_
 refine tE ?_
 refine At.cond rfl (fun h1 => ?_) (fun h1 => ?_)
 ·skip
  try simp only [hasB, isSizeB, Bool.not_eq_true', Bool.not_eq_false', bne_iff_ne, ne_eq, bne_eq_false_iff_eq, beq_iff_eq, beq_eq_false_iff_ne, decide_eq_true_eq, decide_eq_false_iff_not, gt_iff_lt, ge_iff_le] at h1
  omega
 ·skip
  try simp only [hasB, isSizeB, Bool.not_eq_true', Bool.not_eq_false', bne_iff_ne, ne_eq, bne_eq_false_iff_eq, beq_iff_eq, beq_eq_false_iff_ne, decide_eq_true_eq, decide_eq_false_iff_not, gt_iff_lt, ge_iff_le] at h1
  refine At.exitC ?_
  refine At.thenX ?_
  refine At.thenX ?_
  refine At.blkX ?_
  refine At.ret0 (.inr rfl) rfl rfl  (fun w hw => ?_)
  exact ⟨rfl, hw.mod⟩
theorem pdq_nil (k : Int) (w : World) :
    PureC Tryz.prog 123 [.slice none 0 0, .int .i64 0, .int .i64 0, .int .i64 k] (.tuple #[]) w := by
 refine enter0 Tryz.func123 rfl Tryz.ntmps123 rfl ?_
 simp only [envOf]
 refine tR ?_
 refine tA rfl rfl ?_
 refine tE ?_
 refine tR ?_
 refine tA rfl rfl ?_
 refine tE ?_
 refine At.block ?_
 skip
 refine At.loop (σ := Unit) (fun u => True) (fun u => [(0, .slice none 0 0), (1, .int .i64 0), (2, .int .i64 0)]) (fun u => []) (fun u => 0) () trivial (Sub.cons rfl (Sub.cons rfl (Sub.cons rfl Sub.nil))) (List.Perm.refl _) ?_
 intro u hs
 refine At.block ?_
 refine tR ?_
 refine tM rfl rfl ?_
 refine tM rfl rfl ?_
 first | refine At.val (Val.subI rfl rfl (by omega) (by omega)) rfl rfl rfl ?_ | refine At.val (Val.bin rfl rfl rfl) rfl rfl rfl ?_
 refine tA rfl rfl ?_
 refine tE ?_
 refine At.seq ?_
 refine tR ?_
 refine tM rfl rfl ?_
 refine At.val (Val.bin rfl rfl rfl) rfl rfl rfl ?_
 refine tE ?_
 refine At.cond rfl (fun h1 => ?_) (fun h1 => ?_)
 ·skip
  try simp only [hasB, isSizeB, Bool.not_eq_true', Bool.not_eq_false', bne_iff_ne, ne_eq, bne_eq_false_iff_eq, beq_iff_eq, beq_eq_false_iff_ne, decide_eq_true_eq, decide_eq_false_iff_not, gt_iff_lt, ge_iff_le] at h1
  refine tR ?_
  refine tM rfl rfl ?_
  refine tM rfl rfl ?_
  refine tM rfl rfl ?_
  refine At.callP (fun w hw => ins_nil w) Tryz.call125 rfl rfl ?_
  refine tE ?_
  refine At.retC ?_
  refine At.thenR ?_
  refine At.blkR ?_
  refine At.thenR ?_
  refine At.blkR ?_
  refine At.ret0 (.inl rfl) rfl rfl  (fun w hw => ?_)
  exact ⟨rfl, hw.mod⟩
 ·skip
  try simp only [hasB, isSizeB, Bool.not_eq_true', Bool.not_eq_false', bne_iff_ne, ne_eq, bne_eq_false_iff_eq, beq_iff_eq, beq_eq_false_iff_ne, decide_eq_true_eq, decide_eq_false_iff_not, gt_iff_lt, ge_iff_le] at h1
  omega
theorem sort_nil (w : World) :
    PureC Tryz.prog 106 [.slice none 0 0] (.tuple #[]) w := by
 refine enter0 Tryz.func106 rfl Tryz.ntmps106 rfl ?_
 simp only [envOf]
 refine tR ?_
 refine tM rfl rfl ?_
 refine At.val (Val.len (bt := #[]) Tryz.underlying36 rfl) rfl rfl rfl ?_
 refine tA rfl rfl ?_
 refine tE ?_
 refine At.region ?_
 refine tM rfl rfl ?_
 refine tM rfl rfl ?_
 refine tM rfl rfl ?_
 refine At.val (Val.conv (P := Tryz.prog) (s := 3) (t := 123) Tryz.underlying3 Tryz.underlying123 rfl) rfl rfl rfl ?_
 rw [show IntKind.u64.wrap ((0 : Nat) : Int) = 0 from rfl]
 refine At.callP (fun w hw => (bits_len 0 w (by omega) (by omega)).mono fun e w' ⟨h1, h2⟩ => ⟨h1, by subst h2; exact Mod.refl _ _⟩) Tryz.call124 rfl rfl ?_
 refine At.callP (fun w hw => pdq_nil _ w) Tryz.call123 rfl rfl ?_
 refine At.nil ?_
 refine At.ret0 (.inr rfl) rfl rfl  (fun w hw => ?_)
 exact ⟨rfl, hw.mod⟩
theorem sort_u (v : Value) (l : List Int) (w : World) (h : (irow 3 v l).holds w) (hl : l.length < 4611686018427387904) : Upd Tryz.prog 106 [v] (irow 3 v l) (.tuple #[]) (irow 3 v (l.mergeSort fun x y => decide (x ≤ y))) w := by
  have hm : ∀ w', Mod (fun _ => False) w w' → Rep w (feet [irow 3 v l]) [irow 3 v l] w' := fun w' hm' => (Rep.one h).garbage hm'
  have h0 : w.ownsRow 0 3 1 v l.length (l.map (Value.int .i64)) := h
  rcases h0.2 with ⟨rfl, hn⟩ | ⟨g, cap, cur, rfl, hbase, hb, h1, h2, h3, h4⟩
  · have : l = [] := List.eq_nil_of_length_eq_zero hn
    subst this
    exact (sort_nil w).mono fun e w' ⟨he, hmod⟩ => ⟨he, by rw [List.mergeSort_nil]; exact hm w' hmod⟩
  · refine (sort_ints g 0 cap l w (holds_of_blockI hb (by simpa using h4)) (Array.getElem?_eq_some_iff.1 hb).1 hl).mono ?_
    rintro e w' ⟨rfl, n, os, rfl⟩
    refine ⟨rfl, ?_⟩
    have hg := grownBy_sortedI (w := w) (g := g) (n := n) (os := os) (l.mergeSort fun x y => decide (x ≤ y)).toArray
    have ho := ownsRow_sortedI (w := w) (base := 0) (n := n) (os := os) (ts := l.mergeSort fun x y => decide (x ≤ y)) (by simp) hbase hb h1 h2 h3
    exact Rep.change (i := 0) (r := irow 3 (.slice (some ⟨g, 0, none⟩) l.length cap) l) (r' := irow 3 (.slice (some ⟨g, 0, none⟩) l.length cap) (l.mergeSort fun x y => decide (x ≤ y))) rfl (Rep.one h) (grown_mod hg) (by
      show World.ownsRow _ 0 _ 1 _ _ _
      rw [List.length_mergeSort]; exact ho) (fun b hb => .inl hb)
theorem places_k (p : Nat) (γ : Gh) (σ : Ds) (w : World) (hd : (Dev p γ σ).holds w) :
    RowK Tryz.prog 83 [.pointer (some ⟨p, 0, none⟩)] (Dev p γ σ) 3 1 (dkeys σ.ws).length ((dkeys σ.ws).map (Value.int .i64)) w := by
 refine enterV hd Tryz.func83 rfl Tryz.ntmps83 rfl ?_
 unfold devL
 have hgd := Dev.good hd
 have hln := hgd.len
 simp only [envOf]
 refine tR ?_
 refine tA rfl rfl ?_
 refine tE ?_
 refine tR ?_
 refine tA rfl rfl ?_
 refine tE ?_
 refine At.seq ?_
 refine At.seq ?_
 refine At.rowNilI 3 ?_
 refine At.region ?_
 refine tM rfl rfl ?_
 refine At.val (Val.nilCheck rfl) rfl rfl rfl ?_
 refine At.val (Val.field 1 rfl fo_47_1 rfl) rfl rfl rfl ?_
 refine At.val (Val.load (i := 1) Tryz.isAgg45 rfl rfl rfl) rfl rfl rfl ?_
 refine At.range (i := 3) Tryz.underlying45 rfl rfl rfl (fun r1 cnt2 => ?_)
 simp only [sc0, scS]
 refine tE ?_
 refine At.block ?_
 skip
 refine At.loop (σ := (Int → Bool) × Option (Int × Value) × Nat × List Int × Value) (fun s => Coll σ.ws γ.g s.1 s.2.2.2.1) (fun s => [(0, .pointer (some ⟨p, 0, none⟩)), (3, s.2.2.2.2), (9, .pointer (some ⟨r1, 0, none⟩))]) (fun s => [irow 3 s.2.2.2.2 s.2.2.2.1, blk p tDv [γ.vo, .map (some γ.mb), .int .i64 (σ.steps : Int), .bool σ.armed, .int .i64 (σ.left : Int)], wrow tW γ.vo (olds σ.ws), iterR γ.mb r1 (mk σ.ws γ.g) s.1 s.2.1 s.2.2.1, fam (dI σ.ws γ.g), factR (Dgood σ)]) (fun s => s.2.2.1) ((fun k => (mk σ.ws γ.g k).isSome), none, cnt2, [], .slice none 0 0) (coll_start _ _) (Sub.cons rfl (Sub.cons rfl (Sub.cons rfl Sub.nil))) (List.Perm.refl _) ?_
 intro s hs
 obtain ⟨left, cur, cnt, l, vl⟩ := s
 dsimp only at hs ⊢
 have hcl := coll_len hs
 refine tR ?_
 refine At.next (i := 3) rfl rfl rfl (fun hl => ?_) (fun x v cn hl hf hcn => ?_)
 skip
 ·skip
  refine At.val (Val.extract rfl rfl) rfl rfl rfl ?_
  refine tE ?_
  refine At.seq ?_
  refine At.condF rfl ?_
  refine At.exitC ?_
  refine At.thenX ?_
  refine At.thenX ?_
  refine At.blkX ?_
  refine At.thenN ?_
  refine At.seq ?_
  refine At.iterEnd 3 rfl ?_
  simp only [sc0, scS]
  refine At.region ?_
  refine tM rfl rfl ?_
  refine At.call1 0 rfl (fun w hw hr => sort_u _ _ w hr (by omega)) Tryz.call106 rfl rfl ?_
  simp only [sc0, scS]
  refine tE ?_
  refine tR ?_
  refine tM rfl rfl ?_
  refine tA rfl rfl ?_
  refine tE ?_
  refine At.retC ?_
  refine At.ret1 (.inl rfl) rfl rfl rfl (fun w hw => ?_)
  rw [coll_end hs hl] at hw
  exact ⟨_, rfl, retRK (F := []) hw⟩
 ·skip
  simp only [sc0, scS]
  refine At.val (Val.extract rfl rfl) rfl rfl rfl ?_
  refine tE ?_
  refine At.seq ?_
  refine At.condT rfl ?_
  refine At.skipC ?_
  refine At.thenN ?_
  refine At.block ?_
  refine tR ?_
  refine At.val (Val.entry (i := 3) rfl rfl) rfl rfl rfl ?_
  refine At.val (Val.extract rfl rfl) rfl rfl rfl ?_
  refine tA rfl rfl ?_
  refine tE ?_
  refine At.region ?_
  refine tM rfl rfl ?_
  refine tM rfl rfl ?_
  refine At.buildSl (fun a ha => by simp only [List.map_toArray, List.map_cons, List.map_nil, ha.eval (x := (.tmp 15)) rfl]; try rfl) (bs_36_1 _ ) rfl (fun b3 => ?_)
  refine At.appendI1 (i := 1) (j := 0) (by_ := 8) Tryz.underlying36 info_3 rfl rfl rfl rfl rfl rfl rfl rfl (by omega) (by omega) rfl (fun v4 => ?_)
  simp only [sc0, scS]
  refine At.drop 0 ?_
  simp only [ec0, ecS]
  refine tA rfl rfl ?_
  refine At.nil ?_
  refine At.blkN ?_
  refine At.thenN ?_
  exact At.again ((fun q => left q && q != x), some (x, v), cn, l ++ [x], v4) (coll_step hs hl hf) (show cn < cnt by omega) (Sub.cons rfl (Sub.cons rfl (Sub.cons rfl Sub.nil))) (List.Perm.refl _)
end Go.Proofs.YthhkbbodhghmcaaGreatDoor
set_option linter.unusedVariables false
set_option linter.unusedSimpArgs false
namespace Go.Wk
open Go
def wbytes (xs : List (BitVec 64)) : List UInt8 := xs.flatMap le8
theorem wbytes_cons (x : BitVec 64) (xs : List (BitVec 64)) : wbytes (x :: xs) = le8 x ++ wbytes xs := rfl
theorem wbytes_append (a b : List (BitVec 64)) : wbytes (a ++ b) = wbytes a ++ wbytes b := by simp [wbytes]
theorem wbytes_length : ∀ xs : List (BitVec 64), (wbytes xs).length = 8 * xs.length
  | [] => rfl
  | x :: xs => by rw [wbytes_cons, List.length_append, wbytes_length xs, le_length, List.length_cons]; omega
theorem le8_zero : le8 0 = zs 8 := rfl
theorem wbytes_zero : ∀ n : Nat, wbytes (List.replicate n 0) = zs (8 * n)
  | 0 => rfl
  | n + 1 => by
    rw [List.replicate_succ, wbytes_cons, wbytes_zero n, le8_zero]
    unfold zs
    rw [List.replicate_append_replicate]; congr 1; omega
theorem put8_set {xs : List (BitVec 64)} {k : Nat} (x : BitVec 64) (h : k < xs.length) : put8 (wbytes xs) (8 * k) x = wbytes (xs.set k x) := by
  have e : xs = xs.take k ++ xs[k] :: xs.drop (k + 1) := by rw [← List.drop_eq_getElem_cons h, List.take_append_drop]
  have hl : (wbytes (xs.take k)).length = 8 * k := by rw [wbytes_length, List.length_take]; omega
  have e2 : wbytes xs = wbytes (xs.take k) ++ (le8 xs[k] ++ wbytes (xs.drop (k + 1))) := by conv => lhs; rw [e, wbytes_append, wbytes_cons]
  rw [List.set_eq_take_append_cons_drop, if_pos h, wbytes_append, wbytes_cons]
  unfold put8 putK
  rw [e2, List.take_left' hl, le_take_all, ← List.append_assoc (wbytes (xs.take k)) (le8 xs[k]), List.drop_left' (by rw [List.length_append, hl, le_length]), List.append_assoc]
theorem take_set_zero {xs : List (BitVec 64)} {k : Nat} {x : BitVec 64} (h : xs[k]? = some x) : (xs.take k ++ List.replicate (xs.length - k) 0).set k x = xs.take (k + 1) ++ List.replicate (xs.length - (k + 1)) 0 := by
  have hk := (List.getElem?_eq_some_iff.1 h).1
  rw [List.set_append_right _ _ (by rw [List.length_take]; omega), List.length_take, show min k xs.length = k by omega, Nat.sub_self]
  obtain ⟨m, hm⟩ : ∃ m, xs.length - k = m + 1 := ⟨xs.length - k - 1, by omega⟩
  rw [hm, List.replicate_succ, List.set_cons_zero, show xs.length - (k + 1) = m from by omega, List.take_add_one, h]
  simp
abbrev RdI (w : World) (v : Value) (l : List Int) : Prop := Rd w v 1 l.length (l.map (Value.int .i64))
section
variable {P : Program} {Γ : Ctx} {E : Env} {H L F : List Res} {ops : Array Oper} {Q : Exit → Act → World → Prop} {rest : List Oper} {w0 w w' : World} {S : Nat → Prop} {φ : Act → World → Prop} {ψ : Act → Prop}
  {d : Nat} {dst : Option Tmp} {gd : Option (Nat × Bool)} {ty : TypeId} {pos : String} {after : Array Edge} {x y z : Operand} {v u : Value}
theorem At.sink5 {a b c e f r : Res} (h : At Γ E (a :: b :: c :: e :: f :: r :: F) φ) : At Γ E (r :: a :: b :: c :: e :: f :: F) φ := fun q w ha hw => h q w ha (hw.perm (List.perm_middle (l₁ := [a, b, c, e, f])).symm)
theorem At.rowCapD {i e sz n c : Nat} {A : Option Addr} {xs : List Value} (hi : H[i]? = some (rowR (.slice A n c) e sz n xs)) (k : n ≤ c → At Γ E H φ) : At Γ E H φ := fun a w ha hw => by
  rcases (hw.row hi).2 with ⟨_, h⟩ | ⟨b, cap, cur, h, h1⟩
  · exact k (by omega) a w ha hw
  · simp only [Value.slice.injEq] at h
    obtain ⟨_, _, rfl⟩ := h
    exact k (by have := h1; omega) a w ha hw
end
end Go.Wk
set_option linter.unusedVariables false
set_option linter.unusedSimpArgs false
namespace Go.Proofs.YthhkbbodhghmcaaGreatDoor
open Go Go.Wk
def pickC (cs : List Int) (K : Nat) (w : Wd) : BitVec 64 :=
  let n : Int := (w.news.length : Int) + 1
  let c : Int := match cs[K]? with | some c => (if c.tmod n < 0 then c.tmod n + n else c.tmod n) | none => 0
  if c = 0 then w.old else (w.news[(c - 1).toNat]?).getD w.old
/-- The words, those in doubt as they are picked. -/
def pickK (ws : List Wd) (pk : Nat → Nat → BitVec 64) : Nat → List (BitVec 64)
  | 0 => olds ws
  | K + 1 => match (dk ws)[K]? with | some k => (pickK ws pk K).set k (pk K k) | none => pickK ws pk K
def picked (ws : List Wd) (pk : Nat → Nat → BitVec 64) : List (BitVec 64) := pickK ws pk (dk ws).length
theorem pickK_length (ws : List Wd) (pk : Nat → Nat → BitVec 64) : ∀ K, (pickK ws pk K).length = ws.length
  | 0 => olds_length ws
  | K + 1 => by unfold pickK; split <;> simp [pickK_length ws pk K]
theorem pickK_succ {ws : List Wd} {pk : Nat → Nat → BitVec 64} {K k : Nat} (h : (dk ws)[K]? = some k) : pickK ws pk (K + 1) = (pickK ws pk K).set k (pk K k) := by
  conv => lhs; unfold pickK
  rw [h]
def pkC (ws : List Wd) (cs : List Int) (K k : Nat) : BitVec 64 := match ws[k]? with | some w => pickC cs K w | none => 0
def pkV (ws : List Wd) (K k : Nat) : BitVec 64 := match ws[k]? with | some w => nowW w | none => 0
theorem pkC_at {ws : List Wd} {cs : List Int} {K k : Nat} {w : Wd} (h : ws[k]? = some w) : pkC ws cs K k = pickC cs K w := by unfold pkC; rw [h]
theorem pkV_at {ws : List Wd} {K k : Nat} {w : Wd} (h : ws[k]? = some w) : pkV ws K k = nowW w := by unfold pkV; rw [h]
theorem pick_old {cs : List Int} {K : Nat} {w : Wd} {c : Int} (hc : c = 0) (h : c = (match cs[K]? with | some c => (if c.tmod ((w.news.length : Int) + 1) < 0 then c.tmod ((w.news.length : Int) + 1) + ((w.news.length : Int) + 1) else c.tmod ((w.news.length : Int) + 1)) | none => 0)) : pickC cs K w = w.old := by
  unfold pickC; simp only; rw [← h, if_pos hc]
theorem pick_new {cs : List Int} {K : Nat} {w : Wd} {c : Int} {z : BitVec 64} (hc : c ≠ 0) (h : c = (match cs[K]? with | some c => (if c.tmod ((w.news.length : Int) + 1) < 0 then c.tmod ((w.news.length : Int) + 1) + ((w.news.length : Int) + 1) else c.tmod ((w.news.length : Int) + 1)) | none => 0)) (hz : w.news[(c - 1).toNat]? = some z) : pickC cs K w = z := by
  unfold pickC; simp only; rw [← h, if_neg hc, hz]; rfl
theorem viewCl_k (p : Nat) (γ : Gh) (σ : Ds) (k : Nat) (wd : Wd) (a b : Int) (w : World) (hk : σ.ws[k]? = some wd) (hn : wd.news ≠ []) (hd : (Dev p γ σ).holds w) :
    Upd Tryz.prog 86 [.int .i64 a, .int .i64 b, .pointer (some ⟨(γ.g k).1, 0, none⟩)] (Dev p γ σ) (b64 (nowW wd)) (Dev p γ σ) w := by
 refine enterV hd Tryz.func86 rfl Tryz.ntmps86 rfl ?_
 unfold devL
 have hgd := Dev.good hd
 have hst := hgd.steps
 have hwd := hgd.word wd (List.mem_of_getElem? hk)
 have hpos := List.length_pos_iff.2 hn
 simp only [envOf]
 refine tR ?_
 refine tA rfl rfl ?_
 refine tE ?_
 refine At.seq ?_
 refine At.dbtSome 3 rfl hk hn (fun b o c hv => ?_)
 refine At.quiet rfl (by decide +kernel) ?_
 refine qM rfl rfl ?_
 refine QAt.val (Val.nilCheck rfl) rfl rfl rfl ?_
 refine QAt.val (Val.field 0 rfl fo_113_0 rfl) rfl rfl rfl ?_
 refine QAt.val (Val.loadDbt (i := 3) Tryz.isAgg44 rfl rfl hk hn rfl) rfl rfl rfl ?_
 refine qM rfl rfl ?_
 refine QAt.val (Val.nilCheck rfl) rfl rfl rfl ?_
 refine QAt.val (Val.field 0 rfl fo_113_0 rfl) rfl rfl rfl ?_
 refine QAt.val (Val.loadDbt (i := 3) Tryz.isAgg44 rfl rfl hk hn rfl) rfl rfl rfl ?_
 refine QAt.val (Val.lenDbt (i := 3) rfl hk hn Tryz.underlying44 rfl) rfl rfl rfl ?_
 refine QAt.val (Val.subI rfl rfl (by omega) (by omega)) rfl rfl rfl ?_
 rw [hv]
 refine QAt.val (Val.indexSl (o + (wd.news.length - 1)) (by omega) Tryz.underlying44 Tryz.sizeOf32 rfl rfl (by omega) (by omega)) rfl rfl rfl ?_
 refine QAt.val (Val.loadNews (i := 3) Tryz.isAgg32 rfl rfl hk hn hv rfl (now_last hn (y := nowW wd) rfl)) rfl rfl rfl ?_
 refine QAt.val (Val.assign rfl) rfl rfl rfl ?_
 refine QAt.fin ?_
 refine At.thenN ?_
 refine At.retC ?_
 refine At.ret1 (.inl rfl) rfl rfl rfl (fun w hw => ?_)
 exact ⟨rfl, retK (F := []) hw⟩
end Go.Proofs.YthhkbbodhghmcaaGreatDoor
set_option linter.unusedVariables false
set_option linter.unusedSimpArgs false
namespace Go.Proofs.YthhkbbodhghmcaaGreatDoor
open Go Go.Wk
theorem bytes_k (p : Nat) (γ : Gh) (σ : Ds) (fid : FuncId) (caps : List Value) (pk : Nat → Nat → BitVec 64) (w : World) (hcall : ∀ args w, (callFunc fid args).run Tryz.prog w = .ok (.enter fid args) w) (hp : ∀ w', Mod (feet [Dev p γ σ]) w w' → (Dev p γ σ).holds w' → ∀ (K k : Nat) (wd : Wd), (dk σ.ws)[K]? = some k → σ.ws[k]? = some wd → wd.news ≠ [] → Upd Tryz.prog fid ([.int .i64 (K : Int), .int .i64 (8 * (k : Int)), .pointer (some ⟨(γ.g k).1, 0, none⟩)] ++ caps) (Dev p γ σ) (b64 (pk K k)) (Dev p γ σ) w') (hd : (Dev p γ σ).holds w) :
    RowK Tryz.prog 85 [.pointer (some ⟨p, 0, none⟩), .func (.func fid) #[] caps.toArray] (Dev p γ σ) 5 1 (wbytes (picked σ.ws pk)).length ((wbytes (picked σ.ws pk)).map bv) w := by
 refine enterV hd Tryz.func85 rfl Tryz.ntmps85 rfl ?_
 unfold devL
 have hgd := Dev.good hd
 have hln := hgd.len
 have hps := hgd.pos
 have hdl : (dk σ.ws).length ≤ σ.ws.length := Nat.le_trans (List.length_filter_le _ _) (by rw [List.length_range]; exact Nat.le_refl _)
 simp only [envOf]
 refine tR ?_
 refine tA rfl rfl ?_
 refine tE ?_
 refine tR ?_
 refine tM rfl rfl ?_
 refine At.callKS (devL p γ σ) rfl (fun w hw hr => size_k _ _ _ w hr) Tryz.call28 rfl rfl ?_
 rw [show 8 * (σ.ws.length : Int) = (((8 * σ.ws.length : Nat)) : Int) from by omega]
 refine At.makeRowB (n := (8 * σ.ws.length)) Tryz.underlying59 info_5 rfl rfl rfl rfl rfl (by omega) rfl (fun v1 => ?_)
 rw [← wbytes_zero]
 refine At.rowSome (i := 0) rfl (by rw [wbytes_length, List.length_replicate]; omega) (fun b2 c3 hv4 => ?_)
 subst hv4
 refine At.rowCapD (i := 0) rfl (fun hcap => ?_)
 rw [wbytes_length, List.length_replicate] at hcap ⊢
 refine At.sink5 ?_
 refine tA rfl rfl ?_
 refine tE ?_
 refine At.seq ?_
 refine tR ?_
 refine tM rfl rfl ?_
 refine At.val (Val.nilCheck rfl) rfl rfl rfl ?_
 refine At.val (Val.field 0 rfl fo_47_0 rfl) rfl rfl rfl ?_
 refine At.val (Val.load (i := 0) Tryz.isAgg44 rfl rfl rfl) rfl rfl rfl ?_
 refine At.val (Val.lenRow (i := 1) Tryz.underlying44 rfl rfl) rfl rfl rfl ?_
 refine tM rfl rfl ?_
 refine tE ?_
 refine At.block ?_
 skip
 refine At.loop (σ := Nat) (fun k => k ≤ σ.ws.length) (fun k => [(0, .pointer (some ⟨p, 0, none⟩)), (1, .func (.func fid) #[] caps.toArray), (5, (.slice (some ⟨b2, 0, none⟩) ((8 * σ.ws.length)) c3)), (16, γ.vo), (17, .int .i64 (σ.ws.length : Int)), (18, .int .i64 (k : Int))]) (fun k => [blk p tDv [γ.vo, .map (some γ.mb), .int .i64 (σ.steps : Int), .bool σ.armed, .int .i64 (σ.left : Int)], wrow tW γ.vo (olds σ.ws), mapR γ.mb (mk σ.ws γ.g), fam (dI σ.ws γ.g), factR (Dgood σ), brow 5 (.slice (some ⟨b2, 0, none⟩) ((8 * σ.ws.length)) c3) (wbytes ((olds σ.ws).take k ++ List.replicate ((olds σ.ws).length - k) 0))]) (fun k => σ.ws.length - k) 0 (Nat.zero_le _) (Sub.cons rfl (Sub.cons rfl (Sub.cons rfl (Sub.cons rfl (Sub.cons (congrArg (fun z => some (Value.int IntKind.i64 z)) (by rw [olds_length])) (Sub.cons rfl Sub.nil)))))) (by rw [List.take_zero, List.nil_append, Nat.sub_zero, olds_length, brow, wbytes_length, List.length_replicate]) ?_
 intro k hs
 have hl1 : ((olds σ.ws).take k ++ List.replicate ((olds σ.ws).length - k) 0).length = σ.ws.length := by rw [List.length_append, List.length_take, List.length_replicate, olds_length]; omega
 refine tR ?_
 refine At.val (Val.bin rfl rfl rfl) rfl rfl rfl ?_
 refine tE ?_
 refine At.seq ?_
 refine At.cond rfl (fun h5 => ?_) (fun h5 => ?_)
 ·skip
  try simp only [hasB, isSizeB, Bool.not_eq_true', Bool.not_eq_false', bne_iff_ne, ne_eq, bne_eq_false_iff_eq, beq_iff_eq, beq_eq_false_iff_ne, decide_eq_true_eq, decide_eq_false_iff_not, gt_iff_lt, ge_iff_le] at h5
  have hk0 : k < σ.ws.length := by omega
  obtain ⟨wd, hk⟩ : ∃ wd, σ.ws[k]? = some wd := ⟨_, List.getElem?_eq_getElem hk0⟩
  refine At.skipC ?_
  refine At.thenN ?_
  refine At.seq ?_
  refine At.block ?_
  refine tR ?_
  refine tM rfl rfl ?_
  refine At.val (Val.indexRow (i := 1) k (by omega) Tryz.underlying44 Tryz.sizeOf32 rfl rfl rfl (by omega) (by rw [olds_length]; omega)) rfl rfl rfl ?_
  refine At.val (Val.loadRow (i := 1) Tryz.isAgg32 rfl rfl (by rw [List.getElem?_map, olds_at hk]; rfl)) rfl rfl rfl ?_
  refine tA rfl rfl ?_
  refine tA rfl rfl ?_
  refine tE ?_
  refine At.region ?_
  refine tM rfl rfl ?_
  refine tM rfl rfl ?_
  refine At.val (Val.mulI rfl rfl (by omega) (by omega)) rfl rfl rfl ?_
  refine At.val (Val.cutSl (8 * k) (8 * σ.ws.length) (8 * k) (8 * σ.ws.length - 8 * k) (c3 - 8 * k) Tryz.underlying59 Tryz.sizeOf5 rfl ⟨_, _, rfl, by omega, by omega⟩ rfl (by omega) hcap (by rw [if_neg (by omega)]; omega) rfl rfl) rfl rfl rfl ?_
  refine tM rfl rfl ?_
  refine At.call1 5 rfl (fun w hw hr => putW_r b2 (8 * k) (8 * σ.ws.length - 8 * k) (c3 - 8 * k) (8 * σ.ws.length) c3 (wbytes ((olds σ.ws).take k ++ List.replicate ((olds σ.ws).length - k) 0)) (wd.old) w (by omega) (by rw [wbytes_length, hl1]; omega) hr) Tryz.call107 rfl rfl ?_
  simp only [sc0, scS]
  refine At.nil ?_
  refine At.blkN ?_
  refine At.thenN ?_
  refine At.region ?_
  first | refine At.val (Val.addI rfl rfl (by omega) (by omega)) rfl rfl rfl ?_ | refine At.val (Val.bin rfl rfl rfl) rfl rfl rfl ?_
  refine tM rfl rfl ?_
  refine tE ?_
  exact At.again (k + 1) (show k + 1 ≤ _ by omega) (by omega) (Sub.cons rfl (Sub.cons rfl (Sub.cons rfl (Sub.cons rfl (Sub.cons rfl (Sub.cons (congrArg (fun z => some (Value.int IntKind.i64 z)) (by omega)) Sub.nil)))))) (by rw [put8_set _ (by omega), take_set_zero (olds_at hk)])
 ·skip
  try simp only [hasB, isSizeB, Bool.not_eq_true', Bool.not_eq_false', bne_iff_ne, ne_eq, bne_eq_false_iff_eq, beq_iff_eq, beq_eq_false_iff_ne, decide_eq_true_eq, decide_eq_false_iff_not, gt_iff_lt, ge_iff_le] at h5
  obtain rfl : k = σ.ws.length := by omega
  refine At.exitC ?_
  refine At.thenX ?_
  refine At.thenX ?_
  refine At.blkX ?_
  refine At.thenN ?_
  refine At.seq ?_
  refine tR ?_
  refine tM rfl rfl ?_
  refine At.callRKS (devL p γ σ) rfl (fun w hw hr => places_k p γ σ w hr) Tryz.call83 rfl rfl (fun v6 => ?_)
  refine At.sink5 ?_
  refine At.val (Val.lenRow (i := 5) Tryz.underlying36 rfl rfl) rfl rfl rfl ?_
  refine tM rfl rfl ?_
  refine tE ?_
  refine At.block ?_
  skip
  refine At.loop (σ := Nat) (fun K => K ≤ (dk σ.ws).length) (fun K => [(0, .pointer (some ⟨p, 0, none⟩)), (1, .func (.func fid) #[] caps.toArray), (5, (.slice (some ⟨b2, 0, none⟩) ((8 * σ.ws.length)) c3)), (31, v6), (32, .int .i64 ((dk σ.ws).length : Int)), (33, .int .i64 (K : Int))]) (fun K => [blk p tDv [γ.vo, .map (some γ.mb), .int .i64 (σ.steps : Int), .bool σ.armed, .int .i64 (σ.left : Int)], wrow tW γ.vo (olds σ.ws), mapR γ.mb (mk σ.ws γ.g), fam (dI σ.ws γ.g), factR (Dgood σ), rowR v6 3 1 (dkeys σ.ws).length ((dkeys σ.ws).map (Value.int .i64)), brow 5 (.slice (some ⟨b2, 0, none⟩) ((8 * σ.ws.length)) c3) (wbytes (pickK σ.ws pk K))]) (fun K => (dk σ.ws).length - K) 0 (Nat.zero_le _) (Sub.cons rfl (Sub.cons rfl (Sub.cons rfl (Sub.cons rfl (Sub.cons (congrArg (fun z => some (Value.int IntKind.i64 z)) (by rw [dkeys, List.length_map])) (Sub.cons rfl Sub.nil)))))) (by rw [List.take_of_length_le (by rw [olds_length]; exact Nat.le_refl _), olds_length, Nat.sub_self, List.replicate_zero, List.append_nil]; exact List.Perm.refl _) ?_
  intro K hs
  refine tR ?_
  refine At.val (Val.bin rfl rfl rfl) rfl rfl rfl ?_
  refine tE ?_
  refine At.seq ?_
  refine At.cond rfl (fun h7 => ?_) (fun h7 => ?_)
  ·skip
   try simp only [hasB, isSizeB, Bool.not_eq_true', Bool.not_eq_false', bne_iff_ne, ne_eq, bne_eq_false_iff_eq, beq_iff_eq, beq_eq_false_iff_ne, decide_eq_true_eq, decide_eq_false_iff_not, gt_iff_lt, ge_iff_le] at h7
   have hK : K < (dk σ.ws).length := by omega
   obtain ⟨k, hkK⟩ : ∃ k, (dk σ.ws)[K]? = some k := ⟨_, List.getElem?_eq_getElem hK⟩
   obtain ⟨wd, hk, hn⟩ := mem_dk.1 (List.mem_of_getElem? hkK)
   have hk0 := (List.getElem?_eq_some_iff.1 hk).1
   refine At.skipC ?_
   refine At.thenN ?_
   refine At.seq ?_
   refine At.block ?_
   refine tR ?_
   refine tM rfl rfl ?_
   refine At.val (Val.indexRow (i := 5) K (by omega) Tryz.underlying36 Tryz.sizeOf3 rfl rfl rfl (by omega) (by rw [dkeys, List.length_map]; omega)) rfl rfl rfl ?_
   refine At.val (Val.loadRow (i := 5) (u := .int .i64 (8 * (k : Int))) Tryz.isAgg3 rfl rfl (by rw [List.getElem?_map, dkeys, List.getElem?_map, hkK]; rfl)) rfl rfl rfl ?_
   refine tA rfl rfl ?_
   refine tA rfl rfl ?_
   refine tE ?_
   refine At.tail 13 rfl (by decide +kernel) ?_
   simp only [List.take_succ_cons, List.take_zero, List.drop_succ_cons, List.drop_zero]
   refine qM rfl rfl ?_
   refine qM rfl rfl ?_
   refine QAt.val (Val.cutSl (8 * k) (8 * σ.ws.length) (8 * k) (8 * σ.ws.length - 8 * k) (c3 - 8 * k) Tryz.underlying59 Tryz.sizeOf5 rfl ⟨_, _, rfl, by omega, by omega⟩ rfl (by omega) hcap (by rw [if_neg (by omega)]; omega) rfl rfl) rfl rfl rfl ?_
   refine qM rfl rfl ?_
   refine qM rfl rfl ?_
   refine qM rfl rfl ?_
   refine qM rfl rfl ?_
   refine QAt.val (Val.nilCheck rfl) rfl rfl rfl ?_
   refine QAt.val (Val.field 1 rfl fo_47_1 rfl) rfl rfl rfl ?_
   refine QAt.val (Val.load (i := 0) Tryz.isAgg45 rfl rfl rfl) rfl rfl rfl ?_
   refine qM rfl rfl ?_
   refine QAt.val (Val.look (i := 2) Tryz.underlying45 Tryz.underlying3 Tryz.zeroValue111 rfl rfl rfl) rfl rfl rfl ?_
   rw [mk_at, mkN_some hk hn]
   refine QAt.callVKS (devL p γ σ) (caps := caps) rfl rfl (fun w hw hr => hp w hw.mod hr K k wd hkK hk hn) hcall rfl rfl ?_
   refine QAt.fin ?_
   refine At.call1 6 rfl (fun w hw hr => putW_r b2 (8 * k) (8 * σ.ws.length - 8 * k) (c3 - 8 * k) (8 * σ.ws.length) c3 (wbytes (pickK σ.ws pk K)) (pk K k) w (by omega) (by rw [wbytes_length, pickK_length]; omega) hr) Tryz.call107 rfl rfl ?_
   simp only [sc0, scS]
   refine At.nil ?_
   refine At.blkN ?_
   refine At.thenN ?_
   refine At.region ?_
   first | refine At.val (Val.addI rfl rfl (by omega) (by omega)) rfl rfl rfl ?_ | refine At.val (Val.bin rfl rfl rfl) rfl rfl rfl ?_
   refine tM rfl rfl ?_
   refine tE ?_
   exact At.again (K + 1) (show K + 1 ≤ _ by omega) (by omega) (Sub.cons rfl (Sub.cons rfl (Sub.cons rfl (Sub.cons rfl (Sub.cons rfl (Sub.cons (congrArg (fun z => some (Value.int IntKind.i64 z)) (by omega)) Sub.nil)))))) (by rw [put8_set _ (by rw [pickK_length]; omega), pickK_succ hkK])
  ·skip
   try simp only [hasB, isSizeB, Bool.not_eq_true', Bool.not_eq_false', bne_iff_ne, ne_eq, bne_eq_false_iff_eq, beq_iff_eq, beq_eq_false_iff_ne, decide_eq_true_eq, decide_eq_false_iff_not, gt_iff_lt, ge_iff_le] at h7
   obtain rfl : K = (dk σ.ws).length := by omega
   refine At.exitC ?_
   refine At.thenX ?_
   refine At.thenX ?_
   refine At.blkX ?_
   refine At.thenN ?_
   refine tR ?_
   refine tM rfl rfl ?_
   refine tA rfl rfl ?_
   refine tE ?_
   refine At.retC ?_
   refine At.ret1 (.inl rfl) rfl rfl rfl (fun w hw => ?_)
   exact ⟨_, rfl, retRK (F := []) ((hw.drop ((List.Sublist.refl _).cons _ |>.cons_cons _ |>.cons_cons _ |>.cons_cons _ |>.cons_cons _ |>.cons_cons _)).perm (List.perm_middle (l₁ := [_, _, _, _, _]) (l₂ := [])))⟩
def viewWs (ws : List Wd) : List (BitVec 64) := ws.map nowW
theorem pickK_at {ws : List Wd} {pk : Nat → Nat → BitVec 64} {k : Nat} {w : Wd} (hk : ws[k]? = some w) : ∀ K, (∀ J, J < K → (dk ws)[J]? ≠ some k) → (pickK ws pk K)[k]? = some w.old
  | 0, _ => olds_at hk
  | K + 1, h => by
    cases hj : (dk ws)[K]? with
    | none => unfold pickK; rw [hj]; exact pickK_at hk K (fun J hJ => h J (by omega))
    | some j =>
      rw [pickK_succ hj]
      have hne : j ≠ k := fun e => h K (by omega) (e ▸ hj)
      rw [List.getElem?_set_ne hne]
      exact pickK_at hk K (fun J hJ => h J (by omega))
theorem dk_inj {ws : List Wd} {I J k : Nat} (h : (dk ws)[I]? = some k) (h' : (dk ws)[J]? = some k) : I = J := by
  have hr := dk_rising ws
  have h1 := List.getElem?_eq_some_iff.1 h
  have h2 := List.getElem?_eq_some_iff.1 h'
  rcases Nat.lt_trichotomy I J with hlt | hlt | hlt
  · have := List.pairwise_iff_getElem.1 hr I J h1.1 h2.1 hlt; rw [h1.2, h2.2] at this; omega
  · exact hlt
  · have := List.pairwise_iff_getElem.1 hr J I h2.1 h1.1 hlt; rw [h1.2, h2.2] at this; omega
theorem pickK_hit {ws : List Wd} {pk : Nat → Nat → BitVec 64} {K k : Nat} (hK : (dk ws)[K]? = some k) : ∀ n, K < n → n ≤ (dk ws).length → (pickK ws pk n)[k]? = some (pk K k)
  | 0, h, _ => by omega
  | n + 1, h, hn => by
    obtain ⟨j, hj⟩ : ∃ j, (dk ws)[n]? = some j := ⟨_, List.getElem?_eq_getElem (by omega)⟩
    rw [pickK_succ hj]
    by_cases e : n = K
    · subst e
      have : j = k := Option.some.inj (hj.symm.trans hK)
      subst this
      obtain ⟨w, hw, _⟩ := mem_dk.1 (List.mem_of_getElem? hj)
      rw [List.getElem?_set_self (by rw [pickK_length]; exact (List.getElem?_eq_some_iff.1 hw).1)]
    · have hne : j ≠ k := fun e2 => e (dk_inj (e2 ▸ hj) hK)
      rw [List.getElem?_set_ne hne]
      exact pickK_hit hK n (by omega) (by omega)
/-- Word by word: a word that isn't in doubt is its old one; the K-th in doubt is what is picked. -/
theorem picked_old {ws : List Wd} {pk : Nat → Nat → BitVec 64} {k : Nat} {w : Wd} (hk : ws[k]? = some w) (hn : w.news = []) : (picked ws pk)[k]? = some w.old :=
  pickK_at hk _ fun J _ h => by
    obtain ⟨u, hu, hun⟩ := mem_dk.1 (List.mem_of_getElem? h)
    rw [hk] at hu; cases hu; exact hun hn
theorem picked_new {ws : List Wd} {pk : Nat → Nat → BitVec 64} {K k : Nat} (hK : (dk ws)[K]? = some k) : (picked ws pk)[k]? = some (pk K k) := pickK_hit hK _ (List.getElem?_eq_some_iff.1 hK).1 (Nat.le_refl _)
theorem picked_length (ws : List Wd) (pk : Nat → Nat → BitVec 64) : (picked ws pk).length = ws.length := pickK_length ws pk _
theorem dk_of {ws : List Wd} {k : Nat} {w : Wd} (hk : ws[k]? = some w) (hn : w.news ≠ []) : ∃ K : Nat, (dk ws)[K]? = some k := List.getElem?_of_mem (mem_dk.2 ⟨w, hk, hn⟩)
theorem picked_view (ws : List Wd) : picked ws (pkV ws) = viewWs ws := by
  apply List.ext_getElem?
  intro k
  unfold viewWs
  rw [List.getElem?_map]
  cases hk : ws[k]? with
  | none => rw [List.getElem?_eq_none (by rw [picked_length]; exact List.getElem?_eq_none_iff.1 hk)]; rfl
  | some w =>
    by_cases hn : w.news = []
    · rw [picked_old hk hn]; show _ = some (nowW w); rw [now_old hn]
    · obtain ⟨K, hK⟩ := dk_of hk hn
      rw [picked_new hK, pkV_at hk]; rfl
theorem view_k (p : Nat) (γ : Gh) (σ : Ds) (w : World) (hd : (Dev p γ σ).holds w) :
    RowK Tryz.prog 46 [.pointer (some ⟨p, 0, none⟩)] (Dev p γ σ) 5 1 (wbytes (viewWs σ.ws)).length ((wbytes (viewWs σ.ws)).map bv) w := by
 refine enterVc hd Tryz.func46 rfl Tryz.ntmps46 rfl ?_
 have hgd := Dev.good hd
 simp only [envOf]
 refine tR ?_
 refine tA rfl rfl ?_
 refine tE ?_
 refine tR ?_
 refine tM rfl rfl ?_
 refine At.callRK 0 rfl (fun w hw hr => bytes_k p γ σ 86 [] (pkV σ.ws) w Tryz.call86 (fun w' _ hd' K k wd hK hk hn => by rw [pkV_at hk]; exact viewCl_k p γ σ k wd _ _ w' hk hn hd') hr) Tryz.call85 rfl rfl (fun v1 => ?_)
 refine tA rfl rfl ?_
 refine tE ?_
 refine At.retC ?_
 refine At.ret1 (.inl rfl) rfl rfl rfl (fun w hw => ?_)
 rw [picked_view] at hw
 exact ⟨_, rfl, hw⟩
end Go.Proofs.YthhkbbodhghmcaaGreatDoor
set_option linter.unusedVariables false
set_option linter.unusedSimpArgs false
namespace Go.Wk
open Go Go.ChangeShapes Go.WideShapes Go.ChangeAt Go.RowKit
abbrev Nt := Int × Int × BitVec 64
def nC (l : List Nt) : List Value := l.flatMap fun c => [.int .i64 c.1, .int .i64 c.2.1, b64 c.2.2]
theorem nC_at : ∀ {L : List Nt} {j : Nat} {c : Nt}, L[j]? = some c → (nC L)[j * 3]? = some (.int .i64 c.1) ∧ (nC L)[j * 3 + 1]? = some (.int .i64 c.2.1) ∧ (nC L)[j * 3 + 2]? = some (b64 c.2.2)
  | d :: L, 0, c, h => by
    have : d = c := by simpa using h
    subst this; exact ⟨rfl, rfl, rfl⟩
  | d :: L, j + 1, c, h => by
    have h' : L[j]? = some c := by simpa using h
    have := nC_at h'
    rw [show (j + 1) * 3 = j * 3 + 1 + 1 + 1 by omega]
    exact this
abbrev RdN (w : World) (v : Value) (l : List Nt) : Prop := Rd w v 3 l.length (nC l)
section
variable {P : Program} {Γ : Ctx} {E : Env} {H : List Res} {ops : Array Oper} {Q : Exit → Act → World → Prop} {rest : List Oper} {ψ : Act → Prop}
  {d : Nat} {dst : Option Tmp} {g : Option (Nat × Bool)} {ty : TypeId} {pos : String} {after : Array Edge} {x y z : Operand} {v u : Value}
theorem At.idxN {t el : Nat} {l : List Nt} {k : IntKind} {j : Int} (h : RdN Γ.w0 v l) (hu : P.underlying t = some (.slice el)) (hs : ∀ w, (sizeOf el).run P w = .ok 3 w) (hx : ev E x = some v) (hy : ev E y = some (.int k j)) (h0 : 0 ≤ j) (h1 : j < l.length)
    (hg : g = none) (hn : Nat.blt d Γ.n = true)
    (c : ∀ b o q, l[j.toNat]? = some q → Γ.w0.cell? ⟨b, o, none⟩ = some (.int .i64 q.1) → Γ.w0.cell? ⟨b, o + 1, none⟩ = some (.int .i64 q.2.1) → Γ.w0.cell? ⟨b, o + 2, none⟩ = some (b64 q.2.2) → (∀ S, Off v (nC l) S → ¬ S b) → At Γ ((d, .pointer (some ⟨b, o, none⟩)) :: E) H (wpList P ops Q rest)) :
    At Γ E H (wpList P ops Q ({ dst := some d, op := .indexAddr t x y, type := ty, pos, after, guard := g } :: rest)) :=
  by
    obtain ⟨b, o, cap, rfl, hc⟩ := h.at (j := j.toNat) (by omega)
    have hq : l[j.toNat]? = some (l[j.toNat]'(by omega)) := List.getElem?_eq_getElem _
    have hp := nC_at hq
    exact At.val (Val.indexSl _ rfl hu hs hx hy h0 h1) hg rfl hn (c b _ _ hq (hc 0 _ hp.1) (hc 1 _ hp.2.1) (hc 2 _ hp.2.2) (fun S ho => ho (fun e => by rw [e] at hp; cases hp.1) b o none _ _ rfl))
theorem QAt.idxN {t el : Nat} {l : List Nt} {k : IntKind} {j : Int} (h : RdN Γ.w0 v l) (hu : P.underlying t = some (.slice el)) (hs : ∀ w, (sizeOf el).run P w = .ok 3 w) (hx : ev E x = some v) (hy : ev E y = some (.int k j)) (h0 : 0 ≤ j) (h1 : j < l.length)
    (hg : g = none) (hn : Nat.blt d Γ.n = true)
    (c : ∀ b o q, l[j.toNat]? = some q → Γ.w0.cell? ⟨b, o, none⟩ = some (.int .i64 q.1) → Γ.w0.cell? ⟨b, o + 1, none⟩ = some (.int .i64 q.2.1) → Γ.w0.cell? ⟨b, o + 2, none⟩ = some (b64 q.2.2) → (∀ S, Off v (nC l) S → ¬ S b) → QAt P Γ ops ((d, .pointer (some ⟨b, o, none⟩)) :: E) H rest ψ) :
    QAt P Γ ops E H ({ dst := some d, op := .indexAddr t x y, type := ty, pos, after, guard := g } :: rest) ψ :=
  by
    obtain ⟨b, o, cap, rfl, hc⟩ := h.at (j := j.toNat) (by omega)
    have hq : l[j.toNat]? = some (l[j.toNat]'(by omega)) := List.getElem?_eq_getElem _
    have hp := nC_at hq
    exact QAt.val (Val.indexSl _ rfl hu hs hx hy h0 h1) hg rfl hn (c b _ _ hq (hc 0 _ hp.1) (hc 1 _ hp.2.1) (hc 2 _ hp.2.2) (fun S ho => ho (fun e => by rw [e] at hp; cases hp.1) b o none _ _ rfl))
theorem Rd.off {w : World} {sz n : Nat} {xs : List Value} (h : Rd w v sz n xs) {S : Nat → Prop} (hS : ∀ b, S b → w.heap.size ≤ b) : Off v xs S := fun hne b o s n' c hv hb => by
  obtain ⟨A, c', rfl, h2, _⟩ := h
  have hl : 0 < xs.length := List.length_pos_iff.2 hne
  obtain ⟨b', o', e, hc⟩ := h2 0 _ (List.getElem?_eq_getElem hl)
  simp only [Value.slice.injEq] at hv
  rw [hv.1] at e
  simp only [Option.some.injEq, Addr.mk.injEq] at e
  obtain ⟨rfl, _, _⟩ := e
  have := block_lt_of_cell hc
  have := hS _ hb
  simp only at *; omega
theorem Rep.newFoot {w0 w : World} {H : List Res} {r : Res} (hw : Rep w0 (fun _ => False) H w) (hr : r ∈ H) : ∀ b, feet [r] b → w0.heap.size ≤ b := fun b ⟨q, hq, hb⟩ => by
  rw [List.mem_singleton.1 hq] at hb
  exact (hw.mine r hr b hb).elim (fun h => h) (fun h => h.elim)
end
section
variable {H : Type} {enc : TypeId × Value → H} {P : Program} {W : World} {r : Reach} {base b0 : Nat} {sp : Nat → Bool} {held : Bool}
theorem choose_list' {α : Type} {Q : Nat → α → Prop} : ∀ n : Nat, (∀ j, j < n → ∃ z, Q j z) → ∃ zs : List α, zs.length = n ∧ ∀ j z, zs[j]? = some z → Q j z
  | 0, _ => ⟨[], rfl, fun j z h => by simp at h⟩
  | n + 1, h => by
    obtain ⟨zs, hl, hz⟩ := choose_list' n (fun j hj => h j (by omega))
    obtain ⟨z, hq⟩ := h n (by omega)
    refine ⟨zs ++ [z], by simp [hl], fun j y hy => ?_⟩
    rcases Nat.lt_or_ge j n with hj | hj
    · rw [List.getElem?_append_left (by omega)] at hy; exact hz j y hy
    · have hj' : j < (zs ++ [z]).length := (List.getElem?_eq_some_iff.1 hy).1
      rw [List.length_append, hl] at hj'
      obtain rfl : n = j := by simp at hj'; omega
      rw [List.getElem?_append_right (by omega), hl, Nat.sub_self] at hy
      obtain rfl := Option.some.inj hy
      exact hq
def Fits (z : Int) : Prop := -9223372036854775808 ≤ z ∧ z ≤ 9223372036854775807
theorem ints_of {t e : TypeId} {v : Value} {fuel : Nat} {x : DataW H × List MemPlace} (hu : P.underlying t = some (.slice e)) (he : P.underlying e = some (.int .i64)) (hc : P.cellsOf e = 1) (hby : P.bytesOf e = 8)
    (hok : v = .slice none 0 0 ∨ ∃ b o n c, v = .slice (some ⟨b, o, none⟩) n c ∧ n ≤ c) (hf : DataW.trod enc P W b0 sp held fuel t [v] = some x) (hw : (DataW.weights P t x.1).all (· ≤ reachBytes) = true) :
    ∃ L : List Int, RdI W v L ∧ L.length ≤ 17592186044416 ∧ ∀ z ∈ L, Fits z := by
  rcases hok with rfl | ⟨b, o, n, c, rfl, hnc⟩
  · exact ⟨[], Rd.nil W 1, by simp, by simp⟩
  · rcases open_ints hu he hc hf with ⟨h0, _⟩ | ⟨a, len, cap, zs, h0, _, hl, _, hz, hx, hcell, hwf⟩
    · simp at h0
    · simp only [List.cons.injEq, Value.slice.injEq, Option.some.injEq, and_true] at h0
      obtain ⟨rfl, rfl, rfl⟩ := h0
      have hlen : n ≤ zs.length := by rw [hz]; split <;> omega
      have hln : (zs.take n).length = n := by rw [List.length_take]; omega
      have hxe : x.1 = _ := congrArg Prod.fst hx
      have hdw : zs.length * 8 ≤ reachBytes := by
        have hall := List.all_eq_true.1 hw
        rw [hxe] at hall
        unfold DataW.weights at hall
        rw [hu] at hall
        have := hall _ (List.mem_cons_self ..)
        simp only [decide_eq_true_eq, hby, lits, List.length_map] at this
        rw [← List.length_append, List.take_append_drop] at this
        exact this
      refine ⟨zs.take n, ⟨some ⟨b, o, none⟩, c, by rw [hln], fun j u hj => ?_, by rw [List.length_map, Nat.mul_one], by rw [hln]; exact hnc, (fun h => by cases h), (fun _ a ha => by cases ha; rfl)⟩, ?_, fun z hm => ?_⟩
      · rw [List.getElem?_map, List.getElem?_take] at hj
        split at hj
        · rename_i hlt
          refine ⟨b, o, rfl, ?_⟩
          have h1 := hcell j (by omega)
          rw [Addr.add_off] at h1
          rw [h1]
          rw [List.getElem?_eq_getElem (show j < zs.length by omega)] at hj
          have hg : zs.getD j 0 = zs[j]'(by omega) := by simp [List.getD, show j < zs.length by omega]
          rw [hg]; exact hj
        · cases hj
      · rw [hln]; unfold reachBytes at hdw; omega
      · exact has64 (by simpa [Lit.wf, IntKind.has] using hwf z (List.mem_of_mem_take hm))
end
end Go.Wk
set_option linter.unusedVariables false
set_option linter.unusedSimpArgs false
namespace Go.Proofs.YthhkbbodhghmcaaGreatDoor
open Go Go.Wk
def wordI (a : Int) (N : Nat) : Nat := (a % (N : Int)).toNat
/-- A note's step on a device that isn't dead. -/
def noteD (N : Nat) (σ : Ds) (c : Nt) : Ds :=
  if c.1 = 1 then (match σ.ws[wordI c.2.1 N]? with | some w => setD (stepD σ) (wordI c.2.1 N) (pushW w c.2.2) | none => σ)
  else if c.1 = 2 then flushK (stepD σ) (8 * (wordI c.2.1 N / 8)) 8
  else fenceD (stepD σ)
def run (N : Nat) (σ : Ds) (L : List Nt) : Ds := L.foldl (noteD N) σ
theorem dead_of {σ : Ds} (h : σ.armed = false) : deadB σ = false := by unfold deadB; rw [h]; rfl
end Go.Proofs.YthhkbbodhghmcaaGreatDoor
set_option linter.unusedVariables false
set_option linter.unusedSimpArgs false
namespace Go.Proofs.YthhkbbodhghmcaaGreatDoor
open Go Go.Wk
theorem flushK_at {σ : Ds} {f k : Nat} {w : Wd} (h : σ.ws[k]? = some w) : ∀ j, ∃ m, (flushK σ f j).ws[k]? = some { w with mark := m } ∧ (f ≤ k → k < f + j → m = w.news.length) ∧ (¬ (f ≤ k ∧ k < f + j) → m = w.mark)
  | 0 => ⟨w.mark, h, fun h1 h2 => by omega, fun _ => rfl⟩
  | j + 1 => by
    obtain ⟨m, h1, h2, h3⟩ := flushK_at h j
    by_cases e : f + j = k
    · subst e
      rw [flushK_succ h1]
      exact ⟨w.news.length, by unfold setD; simp only; rw [List.getElem?_set_self (List.getElem?_eq_some_iff.1 h1).1]; rfl, fun _ _ => rfl, fun hn => absurd ⟨by omega, by omega⟩ hn⟩
    · cases hq : (flushK σ f j).ws[f + j]? with
      | none =>
        unfold flushK; rw [hq]
        exact ⟨m, h1, fun a b => h2 a (by omega), fun hn => h3 (fun ⟨a, b⟩ => hn ⟨a, by omega⟩)⟩
      | some u =>
        rw [flushK_succ hq]
        exact ⟨m, by unfold setD; simp only; rw [List.getElem?_set_ne e]; exact h1, fun a b => h2 a (by omega), fun hn => h3 (fun ⟨a, b⟩ => hn ⟨a, by omega⟩)⟩
theorem fenceD_at {σ : Ds} {k : Nat} {w : Wd} (h : σ.ws[k]? = some w) : (fenceD σ).ws[k]? = some (fenceW w) := by unfold fenceD; simp [h]
theorem setD_at {σ : Ds} {k j : Nat} {w u : Wd} (h : σ.ws[j]? = some w) (hne : k ≠ j) : (setD σ k u).ws[j]? = some w := by unfold setD; simp only; rw [List.getElem?_set_ne hne]; exact h
theorem setD_self {σ : Ds} {k : Nat} {w u : Wd} (h : σ.ws[k]? = some w) : (setD σ k u).ws[k]? = some u := by unfold setD; simp only; rw [List.getElem?_set_self (List.getElem?_eq_some_iff.1 h).1]
theorem take_succ_of_get {α : Type} {l : List α} {k : Nat} {x : α} (h : l[k]? = some x) : l.take (k + 1) = l.take k ++ [x] := by rw [List.take_add_one, h]; rfl
theorem loadWs_at {l : List UInt8} {K : Nat} (h : 8 * K + 8 ≤ l.length) : (loadD l).ws[K]? = some ⟨wdA l (8 * K), [], 0⟩ := by
  unfold loadD loadWs; simp only; rw [List.getElem?_map, List.getElem?_range (by omega)]; rfl
theorem zeroD_len (N : Nat) : (zeroD N).ws.length = N := by simp [zeroD, wz]
end Go.Proofs.YthhkbbodhghmcaaGreatDoor
set_option linter.unusedVariables false
set_option linter.unusedSimpArgs false
namespace Go.Proofs.YthhkbbodhghmcaaGreatDoor
open Go Go.Wk
def wordsL (l : List UInt8) (m : Nat) : List (BitVec 64) := (List.range m).map fun j => wdA l (8 * j)
theorem wordsL_length (l : List UInt8) (m : Nat) : (wordsL l m).length = m := by simp [wordsL]
theorem wordsL_at {l : List UInt8} {m j : Nat} (h : j < m) : (wordsL l m)[j]? = some (wdA l (8 * j)) := by unfold wordsL; rw [List.getElem?_map, List.getElem?_range h]; rfl
theorem wdA_cut {l : List UInt8} {a n : Nat} (h : a + 8 ≤ l.length) (hn : 8 ≤ n) : wdA ((l.drop a).take n) 0 = wdA l a := by unfold wdA num; rw [List.drop_zero, List.take_take, Nat.min_eq_left hn]
theorem write_d (p : Nat) (γ : Gh) (σ : Ds) (k m : Nat) (v : Value) (lb : List UInt8) (w : World) (hv : RdB w v lb) (ho : Off v (lb.map bv) (feet [Dev p γ σ])) (hm : lb.length = 8 * m) (hkl : k + m ≤ σ.ws.length) (hst : σ.steps + m ≤ 1099511627776) (hd : (Dev p γ σ).holds w) :
    DevU Tryz.prog 91 [.pointer (some ⟨p, 0, none⟩), .int .i64 (8 * (k : Int)), v] p γ σ (.int .i64 (storesE k σ (wordsL lb m)).1) (storesE k σ (wordsL lb m)).2 w := by
 obtain ⟨A, c, rfl⟩ : ∃ A c, v = .slice A lb.length c := by obtain ⟨A, c, h, _⟩ := hv; exact ⟨A, c, h⟩
 refine enterVc hd Tryz.func91 rfl Tryz.ntmps91 rfl ?_
 have hgd := Dev.good hd
 have hln := hgd.len
 simp only [envOf]
 refine tR ?_
 refine tA rfl rfl ?_
 refine tE ?_
 refine At.seq ?_
 refine tR ?_
 refine tM rfl rfl ?_
 refine tM rfl rfl ?_
 refine tM rfl rfl ?_
 refine At.val (Val.lenRd hv Tryz.underlying59 rfl) rfl rfl rfl ?_
 refine At.callK 0 rfl (fun w hw hr => has_k _ _ _ _ _ w hr) Tryz.call77 rfl rfl ?_
 refine At.val (Val.not rfl) rfl rfl rfl ?_
 refine tE ?_
 refine At.cond rfl (fun h1 => ?_) (fun h1 => ?_)
 ·skip
  try simp only [hasB, isSizeB, Bool.not_eq_true', Bool.not_eq_false', bne_iff_ne, ne_eq, bne_eq_false_iff_eq, beq_iff_eq, beq_eq_false_iff_ne, decide_eq_true_eq, decide_eq_false_iff_not, gt_iff_lt, ge_iff_le] at h1
  omega
 ·skip
  try simp only [hasB, isSizeB, Bool.not_eq_true', Bool.not_eq_false', bne_iff_ne, ne_eq, bne_eq_false_iff_eq, beq_iff_eq, beq_eq_false_iff_ne, decide_eq_true_eq, decide_eq_false_iff_not, gt_iff_lt, ge_iff_le] at h1
  refine At.skipC ?_
  refine At.thenN ?_
  refine At.seq ?_
  refine tR ?_
  refine tM rfl rfl ?_
  refine At.val (Val.remI rfl rfl (by omega) (by decide)) rfl rfl rfl ?_
  rw [show 8 * (k : Int) % 8 = 0 from by omega]
  refine At.val (Val.bin rfl rfl rfl) rfl rfl rfl ?_
  refine tM rfl rfl ?_
  refine At.yes rfl rfl ?_
  refine tM rfl rfl ?_
  refine At.yes rfl rfl ?_
  refine At.val (Val.lenRd hv Tryz.underlying59 rfl) rfl rfl rfl ?_
  refine At.yes rfl rfl ?_
  refine At.val (Val.remI rfl rfl (by omega) (by decide)) rfl rfl rfl ?_
  rw [show ((lb.length : Nat) : Int) % 8 = 0 from by omega]
  refine At.yes rfl rfl ?_
  refine At.val (Val.bin rfl rfl rfl) rfl rfl rfl ?_
  refine At.val (Val.pickF rfl rfl) rfl rfl rfl ?_
  refine tE ?_
  refine At.condF rfl ?_
  refine At.skipC ?_
  refine At.thenN ?_
  refine At.seq ?_
  refine tR ?_
  refine tA rfl rfl ?_
  refine tE ?_
  refine At.block ?_
  skip
  refine At.loop (σ := (Nat × Ds) × Gh) (fun s => s.1.1 ≤ m ∧ storesE k σ (wordsL lb m) = storesE (k + s.1.1) s.1.2 ((wordsL lb m).drop s.1.1) ∧ s.1.2.ws.length = σ.ws.length ∧ s.1.2.steps = σ.steps + s.1.1) (fun s => [(0, .pointer (some ⟨p, 0, none⟩)), (1, .int .i64 (8 * (k : Int))), (2, (.slice A lb.length c)), (7, .int .i64 (8 * (s.1.1 : Int)))]) (fun s => [Dev p s.2 s.1.2]) (fun s => m - s.1.1) ((0, σ), γ) ⟨Nat.zero_le _, rfl, rfl, rfl⟩ (Sub.cons rfl (Sub.cons rfl (Sub.cons rfl (Sub.cons rfl Sub.nil)))) (List.Perm.refl _) ?_
  intro s hs
  obtain ⟨⟨j, σ1⟩, γ1⟩ := s
  dsimp only at hs ⊢
  obtain ⟨hj, he, hl1, hs1⟩ := hs
  refine At.seq ?_
  refine tR ?_
  refine tM rfl rfl ?_
  refine tM rfl rfl ?_
  refine At.val (Val.lenRd hv Tryz.underlying59 rfl) rfl rfl rfl ?_
  refine At.val (Val.bin rfl rfl rfl) rfl rfl rfl ?_
  refine tE ?_
  refine At.cond rfl (fun h2 => ?_) (fun h2 => ?_)
  ·skip
   try simp only [hasB, isSizeB, Bool.not_eq_true', Bool.not_eq_false', bne_iff_ne, ne_eq, bne_eq_false_iff_eq, beq_iff_eq, beq_eq_false_iff_ne, decide_eq_true_eq, decide_eq_false_iff_not, gt_iff_lt, ge_iff_le] at h2
   have hjm : j < m := by omega
   refine At.skipC ?_
   refine At.thenN ?_
   refine At.seq ?_
   refine At.block ?_
   refine tR ?_
   refine tM rfl rfl ?_
   refine tM rfl rfl ?_
   refine tM rfl rfl ?_
   first | refine At.val (Val.addI rfl rfl (by omega) (by omega)) rfl rfl rfl ?_ | refine At.val (Val.bin rfl rfl rfl) rfl rfl rfl ?_
   refine tM rfl rfl ?_
   refine tM rfl rfl ?_
   refine At.val (Val.cutRd (l := 8 * j) (h := lb.length) hv Tryz.underlying59 Tryz.sizeOf5 rfl ⟨_, _, rfl, by omega, by omega⟩ rfl (by omega) (by omega)) rfl rfl rfl ?_
   refine At.callP (fun w hw => (by have h0 := wordOf_p _ _ w (RdB.cut (l := 8 * j) (h := lb.length) (hv.keep hw ho) (by omega) (by omega)) (by rw [List.length_take, List.length_drop]; omega); rwa [wdA_cut (by omega) (by omega)] at h0)) Tryz.call81 rfl rfl ?_
   obtain ⟨x, hx⟩ : ∃ x, x = wdA lb (8 * j) := ⟨_, rfl⟩
   rw [← hx]
   have hx : (wordsL lb m)[j]? = some x := by rw [hx]; exact wordsL_at hjm
   obtain ⟨wd, hwd⟩ : ∃ wd, σ1.ws[k + j]? = some wd := ⟨_, List.getElem?_eq_getElem (by omega)⟩
   cases hdb : deadB σ1
   ·skip
    rw [show 8 * (k : Int) + 8 * (j : Int) = 8 * ((k + j : Nat) : Int) from by omega]
    refine At.callD 0 rfl (fun w hw hr => (storeD_some (x := x) hwd) ▸ store_d _ _ _ (k + j) wd x w hwd (by omega) hdb hr) Tryz.call25 rfl rfl (fun y3 => ?_)
    simp only [sc0, scS]
    refine tA rfl rfl ?_
    refine tE ?_
    refine tR ?_
    refine tM rfl rfl ?_
    refine At.val (Val.bin rfl rfl rfl) rfl rfl rfl ?_
    refine tE ?_
    refine At.condF rfl ?_
    refine At.skipC ?_
    refine At.blkN ?_
    refine At.thenN ?_
    refine At.region ?_
    refine tM rfl rfl ?_
    first | refine At.val (Val.addI rfl rfl (by omega) (by omega)) rfl rfl rfl ?_ | refine At.val (Val.bin rfl rfl rfl) rfl rfl rfl ?_
    refine tA rfl rfl ?_
    refine tE ?_
    exact At.again ((j + 1, storeD σ1 (k + j) x), y3) ⟨(show j + 1 ≤ m by omega), (by rw [he, drop_cons hx, storesE_live hdb]; rfl), (storeD_rest x (show k + j < σ1.ws.length by omega)).2.2.trans hl1, (show (storeD σ1 (k + j) x).steps = σ.steps + (j + 1) by have := (storeD_rest x (show k + j < σ1.ws.length by omega)).1; omega)⟩ (by dsimp only; omega) (Sub.cons rfl (Sub.cons rfl (Sub.cons rfl (Sub.cons (congrArg (fun z => some (Value.int IntKind.i64 z)) (by first | omega | (dsimp only; omega))) Sub.nil)))) (List.Perm.refl _)
   ·skip
    refine At.callK 0 rfl (fun w hw hr => store_0 _ _ _ _ _ w (place_at' (by omega) (by omega) (by omega)) hdb hr) Tryz.call25 rfl rfl ?_
    refine tA rfl rfl ?_
    refine tE ?_
    refine tR ?_
    refine tM rfl rfl ?_
    refine At.val (Val.bin rfl rfl rfl) rfl rfl rfl ?_
    refine tE ?_
    refine At.condT rfl ?_
    refine tR ?_
    refine tM rfl rfl ?_
    refine tA rfl rfl ?_
    refine tE ?_
    refine At.retC ?_
    refine At.blkR ?_
    refine At.thenR ?_
    refine At.thenR ?_
    refine At.blkR ?_
    refine At.thenR ?_
    refine At.ret1 (.inl rfl) rfl rfl rfl (fun w hw => ?_)
    rw [he, drop_cons hx, storesE_dead hdb]
    exact ⟨_, rfl, hw⟩
  ·skip
   try simp only [hasB, isSizeB, Bool.not_eq_true', Bool.not_eq_false', bne_iff_ne, ne_eq, bne_eq_false_iff_eq, beq_iff_eq, beq_eq_false_iff_ne, decide_eq_true_eq, decide_eq_false_iff_not, gt_iff_lt, ge_iff_le] at h2
   refine At.exitC ?_
   refine At.thenX ?_
   refine At.thenX ?_
   refine At.blkX ?_
   refine At.thenN ?_
   refine tR ?_
   refine tA rfl rfl ?_
   refine tE ?_
   refine At.retC ?_
   refine At.ret1 (.inl rfl) rfl rfl rfl (fun w hw => ?_)
   rw [he, List.drop_of_length_le (by rw [wordsL_length]; omega)]
   exact ⟨_, rfl, hw⟩
end Go.Proofs.YthhkbbodhghmcaaGreatDoor
set_option linter.unusedVariables false
set_option linter.unusedSimpArgs false
namespace Go.Proofs.YthhkbbodhghmcaaGreatDoor
open Go Go.Wk
/-- One step of a device: a store in the word k, the flush of the line l, a fence. -/
inductive Ac where
  | st (k : Nat) (x : BitVec 64)
  | fl (l : Nat)
  | fe
def stepA (σ : Ds) : Ac → Ds
  | .st k x => storeD σ k x
  | .fl l => lineD σ l
  | .fe => fenceD (stepD σ)
/-- The steps up to the first that is refused. -/
def actsE : Ds → List Ac → Int × Ds
  | σ, [] => (0, σ)
  | σ, a :: l => if deadB σ = true then (13, σ) else actsE (stepA σ a) l
theorem actsE_dead {σ : Ds} {a : Ac} {l : List Ac} (h : deadB σ = true) : actsE σ (a :: l) = (13, σ) := by unfold actsE; rw [if_pos h]
theorem actsE_live {σ : Ds} {a : Ac} {l : List Ac} (h : deadB σ = false) : actsE σ (a :: l) = actsE (stepA σ a) l := by
  show (if deadB σ = true then (13, σ) else actsE (stepA σ a) l) = _
  rw [if_neg (by rw [h]; simp)]
theorem actsE_01 : ∀ (l : List Ac) (σ : Ds), (actsE σ l).1 = 0 ∨ (actsE σ l).1 = 13
  | [], σ => Or.inl rfl
  | a :: l, σ => by
    cases h : deadB σ with
    | true => rw [actsE_dead h]; exact Or.inr rfl
    | false => rw [actsE_live h]; exact actsE_01 l _
theorem actsE_append : ∀ (a b : List Ac) (σ : Ds), actsE σ (a ++ b) = if (actsE σ a).1 = 0 then actsE (actsE σ a).2 b else actsE σ a
  | [], b, σ => rfl
  | x :: a, b, σ => by
    rw [List.cons_append]
    cases h : deadB σ with
    | true => rw [actsE_dead h, actsE_dead h]; rfl
    | false => rw [actsE_live h, actsE_live h]; exact actsE_append a b _
theorem actsE_go {a b : List Ac} {σ : Ds} (h : (actsE σ a).1 = 0) : actsE σ (a ++ b) = actsE (actsE σ a).2 b := by rw [actsE_append, if_pos h]
theorem actsE_stop {a b : List Ac} {σ : Ds} (h : (actsE σ a).1 = 13) : actsE σ (a ++ b) = actsE σ a := by rw [actsE_append, if_neg (by rw [h]; decide)]
def AcOk (n : Nat) : Ac → Prop
  | .st k _ => k < n
  | .fl l => 8 * l < n
  | .fe => True
theorem stepA_rest {σ : Ds} {a : Ac} (h : AcOk σ.ws.length a) : (stepA σ a).steps = σ.steps + 1 ∧ (stepA σ a).armed = σ.armed ∧ (stepA σ a).ws.length = σ.ws.length := by
  cases a with
  | st k x => exact storeD_rest x h
  | fl l => exact lineD_rest σ l
  | fe => exact ⟨rfl, rfl, by simp [stepA, fenceD, stepD]⟩
theorem actsE_rest : ∀ (l : List Ac) (σ : Ds), (∀ a ∈ l, AcOk σ.ws.length a) → (actsE σ l).2.ws.length = σ.ws.length ∧ (actsE σ l).2.steps ≤ σ.steps + l.length ∧ (actsE σ l).2.armed = σ.armed ∧ (σ.armed = false → (actsE σ l).1 = 0 ∧ (actsE σ l).2.steps = σ.steps + l.length)
  | [], σ, _ => ⟨rfl, Nat.le_refl _, rfl, fun _ => ⟨rfl, rfl⟩⟩
  | a :: l, σ, h => by
    cases hd : deadB σ with
    | true =>
      rw [actsE_dead hd]
      exact ⟨rfl, Nat.le_add_right _ _, rfl, fun ha => by rw [dead_of ha] at hd; cases hd⟩
    | false =>
      rw [actsE_live hd]
      obtain ⟨h1, h2, h3⟩ := stepA_rest (h a (List.mem_cons_self ..))
      obtain ⟨g1, g2, g3, g4⟩ := actsE_rest l (stepA σ a) (fun b hb => by rw [h3]; exact h b (List.mem_cons_of_mem _ hb))
      exact ⟨g1.trans h3, by rw [List.length_cons]; omega, g3.trans h2, fun ha => ⟨(g4 (h2.trans ha)).1, by rw [(g4 (h2.trans ha)).2, List.length_cons]; omega⟩⟩
def stA : Nat → List (BitVec 64) → List Ac
  | _, [] => []
  | k, x :: l => .st k x :: stA (k + 1) l
def flA : Nat → Nat → List Ac
  | _, 0 => []
  | l, c + 1 => .fl l :: flA (l + 1) c
theorem stA_len : ∀ (l : List (BitVec 64)) (k : Nat), (stA k l).length = l.length
  | [], _ => rfl
  | x :: l, k => by rw [stA, List.length_cons, stA_len l, List.length_cons]
theorem flA_len : ∀ (c l : Nat), (flA l c).length = c
  | 0, _ => rfl
  | c + 1, l => by rw [flA, List.length_cons, flA_len c]
theorem stA_ok {n : Nat} : ∀ (l : List (BitVec 64)) (k : Nat), k + l.length ≤ n → ∀ a ∈ stA k l, AcOk n a
  | [], _, _, a, h => by cases h
  | x :: l, k, hk, a, h => by
    rw [List.length_cons] at hk
    rcases List.mem_cons.1 h with rfl | h
    · show k < n; omega
    · exact stA_ok l (k + 1) (by omega) a h
theorem flA_ok {n : Nat} : ∀ (c l : Nat), 8 * (l + c) < n + 8 → ∀ a ∈ flA l c, AcOk n a
  | 0, _, _, a, h => by cases h
  | c + 1, l, hk, a, h => by
    rcases List.mem_cons.1 h with rfl | h
    · show 8 * l < n; omega
    · exact flA_ok c (l + 1) (by omega) a h
theorem storesE_acts : ∀ (l : List (BitVec 64)) (k : Nat) (σ : Ds), storesE k σ l = actsE σ (stA k l)
  | [], _, _ => rfl
  | x :: l, k, σ => by
    rw [stA]
    cases h : deadB σ with
    | true => rw [storesE_dead h, actsE_dead h]
    | false => rw [storesE_live h, actsE_live h]; exact storesE_acts l _ _
theorem linesE_acts : ∀ (c l : Nat) (σ : Ds), linesE l σ c = actsE σ (flA l c)
  | 0, _, _ => rfl
  | c + 1, l, σ => by
    rw [flA]
    cases h : deadB σ with
    | true => rw [linesE_dead h, actsE_dead h]
    | false => rw [linesE_live h, actsE_live h]; exact linesE_acts c _ _
end Go.Proofs.YthhkbbodhghmcaaGreatDoor
set_option linter.unusedVariables false
set_option linter.unusedSimpArgs false
namespace Go.Proofs.YthhkbbodhghmcaaGreatDoor
open Go Go.Wk
def area (l : List UInt8) : List UInt8 := (l.drop 1024).take 1024
theorem area_length {l : List UInt8} (h : 2048 ≤ l.length) : (area l).length = 1024 := by unfold area; rw [List.length_take, List.length_drop]; omega
/-- The stamp of the next record, the stamp of the clean word. -/
noncomputable def nextT (l : List UInt8) : BitVec 32 := if oE (area l) ≠ 0 ∨ (oT (area l)).toNat = 4294967295 then 1 else oT (area l) + 1
def cleanT (l : List UInt8) : BitVec 32 := if sealW (BitVec.ofInt 64 128) ((wdA l 128).setWidth 32) = wdA l 128 then (wdA l 128).setWidth 32 else 0
theorem nextT_0 (l : List UInt8) : (nextT l).toNat ≠ 0 := by
  unfold nextT
  split
  · decide
  · rename_i h
    have := (oT (area l)).isLt
    rw [BitVec.toNat_add]
    show ((oT (area l)).toNat + 1) % 4294967296 ≠ 0
    omega
theorem room_p (v : Value) (l : List UInt8) (a n : Int) (w : World) (hv : RdB w v l) (hlen : l.length ≤ 140737488355328) (hn : 0 ≤ n ∧ n ≤ 140737488355328) :
    PureC Tryz.prog 114 [v, .int .i64 a, .int .i64 n] (.bool (decide (0 ≤ a ∧ a ≤ l.length ∧ n ≤ l.length - a))) w := by
 refine enter0 Tryz.func114 rfl Tryz.ntmps114 rfl ?_
 simp only [envOf]
 refine tR ?_
 refine tA rfl rfl ?_
 refine tE ?_
 refine tR ?_
 refine tM rfl rfl ?_
 refine At.val (Val.bin rfl rfl rfl) rfl rfl rfl ?_
 refine tM rfl rfl ?_
 refine At.split (t := 9) rfl (fun h1 => ?_) (fun h1 => ?_)
 ·skip
  try simp only [hasB, isSizeB, Bool.not_eq_true', Bool.not_eq_false', bne_iff_ne, ne_eq, bne_eq_false_iff_eq, beq_iff_eq, beq_eq_false_iff_ne, decide_eq_true_eq, decide_eq_false_iff_not, gt_iff_lt, ge_iff_le] at h1
  refine At.yes rfl rfl ?_
  refine tM rfl rfl ?_
  refine At.yes rfl rfl ?_
  refine tM rfl rfl ?_
  refine At.yes rfl rfl ?_
  refine At.val (Val.lenRd hv Tryz.underlying59 rfl) rfl rfl rfl ?_
  refine At.yes rfl rfl ?_
  refine At.val (Val.bin rfl rfl rfl) rfl rfl rfl ?_
  refine At.val (Val.pickT rfl rfl) rfl rfl rfl ?_
  refine tM rfl rfl ?_
  refine At.split (t := 15) rfl (fun h2 => ?_) (fun h2 => ?_)
  ·skip
   try simp only [hasB, isSizeB, Bool.not_eq_true', Bool.not_eq_false', bne_iff_ne, ne_eq, bne_eq_false_iff_eq, beq_iff_eq, beq_eq_false_iff_ne, decide_eq_true_eq, decide_eq_false_iff_not, gt_iff_lt, ge_iff_le] at h2
   refine At.yes rfl rfl ?_
   refine tM rfl rfl ?_
   refine At.yes rfl rfl ?_
   refine At.val (Val.lenRd hv Tryz.underlying59 rfl) rfl rfl rfl ?_
   refine At.yes rfl rfl ?_
   refine tM rfl rfl ?_
   refine At.yes rfl rfl ?_
   first | refine At.val (Val.subI rfl rfl (by omega) (by omega)) rfl rfl rfl ?_ | refine At.val (Val.bin rfl rfl rfl) rfl rfl rfl ?_
   refine At.yes rfl rfl ?_
   refine tM rfl rfl ?_
   refine At.yes rfl rfl ?_
   refine At.val (Val.bin rfl rfl rfl) rfl rfl rfl ?_
   refine At.val (Val.pickT rfl rfl) rfl rfl rfl ?_
   refine tA rfl rfl ?_
   refine tE ?_
   refine At.retC ?_
   refine At.ret1 (.inl rfl) rfl rfl rfl (fun w hw => ?_)
   exact ⟨retB (by first | exact (decide_eq_true (by omega)).symm | exact (decide_eq_false (by omega)).symm | (apply Bool.eq_iff_iff.2; simp only [decide_eq_true_eq]; omega)), hw.mod⟩
  ·skip
   try simp only [hasB, isSizeB, Bool.not_eq_true', Bool.not_eq_false', bne_iff_ne, ne_eq, bne_eq_false_iff_eq, beq_iff_eq, beq_eq_false_iff_ne, decide_eq_true_eq, decide_eq_false_iff_not, gt_iff_lt, ge_iff_le] at h2
   refine At.no rfl rfl rfl rfl ?_
   refine At.no rfl rfl rfl rfl ?_
   refine At.no rfl rfl rfl rfl ?_
   refine At.no rfl rfl rfl rfl ?_
   refine At.no rfl rfl rfl rfl ?_
   refine At.no rfl rfl rfl rfl ?_
   refine At.val (Val.pickF rfl rfl) rfl rfl rfl ?_
   refine tA rfl rfl ?_
   refine tE ?_
   refine At.retC ?_
   refine At.ret1 (.inl rfl) rfl rfl rfl (fun w hw => ?_)
   exact ⟨retB (by first | exact (decide_eq_true (by omega)).symm | exact (decide_eq_false (by omega)).symm | (apply Bool.eq_iff_iff.2; simp only [decide_eq_true_eq]; omega)), hw.mod⟩
 ·skip
  try simp only [hasB, isSizeB, Bool.not_eq_true', Bool.not_eq_false', bne_iff_ne, ne_eq, bne_eq_false_iff_eq, beq_iff_eq, beq_eq_false_iff_ne, decide_eq_true_eq, decide_eq_false_iff_not, gt_iff_lt, ge_iff_le] at h1
  refine At.no rfl rfl rfl rfl ?_
  refine At.no rfl rfl rfl rfl ?_
  refine At.no rfl rfl rfl rfl ?_
  refine At.no rfl rfl rfl rfl ?_
  refine At.val (Val.pickF rfl rfl) rfl rfl rfl ?_
  refine tM rfl rfl ?_
  refine At.no rfl rfl rfl rfl ?_
  refine At.no rfl rfl rfl rfl ?_
  refine At.no rfl rfl rfl rfl ?_
  refine At.no rfl rfl rfl rfl ?_
  refine At.no rfl rfl rfl rfl ?_
  refine At.no rfl rfl rfl rfl ?_
  refine At.val (Val.pickF rfl rfl) rfl rfl rfl ?_
  refine tA rfl rfl ?_
  refine tE ?_
  refine At.retC ?_
  refine At.ret1 (.inl rfl) rfl rfl rfl (fun w hw => ?_)
  exact ⟨retB (by first | exact (decide_eq_true (by omega)).symm | exact (decide_eq_false (by omega)).symm | (apply Bool.eq_iff_iff.2; simp only [decide_eq_true_eq]; omega)), hw.mod⟩
theorem cword_p (v : Value) (l : List UInt8) (a : Nat) (w : World) (hv : RdB w v l) (hlen : l.length ≤ 140737488355328) (hn : a + 8 ≤ l.length) :
    PureC Tryz.prog 100 [v, .int .i64 (a : Int)] (.tuple #[b64 (wdA l a), .int .i64 0]) w := by
 refine enter0 Tryz.func100 rfl Tryz.ntmps100 rfl ?_
 simp only [envOf]
 refine tR ?_
 refine tA rfl rfl ?_
 refine tA rfl rfl ?_
 refine tE ?_
 refine At.seq ?_
 refine tR ?_
 refine tM rfl rfl ?_
 refine tM rfl rfl ?_
 refine At.callP (fun w hw => room_p v l a 8 w (hv.mod hw.mod) hlen (by omega)) Tryz.call114 rfl rfl ?_
 refine At.val (Val.not rfl) rfl rfl rfl ?_
 refine tE ?_
 refine At.cond rfl (fun h1 => ?_) (fun h1 => ?_)
 ·skip
  try simp only [hasB, isSizeB, Bool.not_eq_true', Bool.not_eq_false', bne_iff_ne, ne_eq, bne_eq_false_iff_eq, beq_iff_eq, beq_eq_false_iff_ne, decide_eq_true_eq, decide_eq_false_iff_not, gt_iff_lt, ge_iff_le] at h1
  omega
 ·skip
  try simp only [hasB, isSizeB, Bool.not_eq_true', Bool.not_eq_false', bne_iff_ne, ne_eq, bne_eq_false_iff_eq, beq_iff_eq, beq_eq_false_iff_ne, decide_eq_true_eq, decide_eq_false_iff_not, gt_iff_lt, ge_iff_le] at h1
  refine At.skipC ?_
  refine At.thenN ?_
  refine tR ?_
  refine tA rfl rfl ?_
  refine tE ?_
  refine At.seq ?_
  refine tR ?_
  refine tM rfl rfl ?_
  refine tE ?_
  refine At.block ?_
  skip
  refine At.loop (σ := Nat) (fun k => k ≤ 8) (fun k => [(0, v), (1, .int .i64 (a : Int)), (6, .int .u64 (num l a k : Nat)), (12, .int .i64 (k : Int))]) (fun k => []) (fun k => 8 - k) 0 (by decide) (Sub.cons rfl (Sub.cons rfl (Sub.cons (congrArg (fun z => some (Value.int IntKind.u64 z)) (by rw [num_zero]; rfl)) (Sub.cons rfl Sub.nil)))) (List.Perm.refl _) ?_
  intro k hs
  refine tR ?_
  refine At.val (Val.bin rfl rfl rfl) rfl rfl rfl ?_
  refine tE ?_
  refine At.seq ?_
  refine At.cond rfl (fun h2 => ?_) (fun h2 => ?_)
  ·skip
   try simp only [hasB, isSizeB, Bool.not_eq_true', Bool.not_eq_false', bne_iff_ne, ne_eq, bne_eq_false_iff_eq, beq_iff_eq, beq_eq_false_iff_ne, decide_eq_true_eq, decide_eq_false_iff_not, gt_iff_lt, ge_iff_le] at h2
   obtain ⟨u, hu⟩ : ∃ u, l[a + k]? = some u := ⟨_, List.getElem?_eq_getElem (by omega)⟩
   refine At.skipC ?_
   refine At.thenN ?_
   refine At.seq ?_
   refine At.block ?_
   refine tR ?_
   refine tM rfl rfl ?_
   refine tA rfl rfl ?_
   refine tE ?_
   refine At.region ?_
   refine tM rfl rfl ?_
   refine tM rfl rfl ?_
   refine tM rfl rfl ?_
   refine tM rfl rfl ?_
   first | refine At.val (Val.addI rfl rfl (by omega) (by omega)) rfl rfl rfl ?_ | refine At.val (Val.bin rfl rfl rfl) rfl rfl rfl ?_
   refine At.idxB hv Tryz.underlying59 Tryz.sizeOf5 rfl rfl (by omega) (by omega) rfl rfl (fun b3 o4 q5 hq6 hl7 hc8 => ?_)
   refine At.val (Val.loadOld Tryz.isAgg5 rfl hc8 (fun h => h)) rfl rfl rfl ?_
   refine At.val (Val.conv Tryz.underlying5 Tryz.underlying32 rfl) rfl rfl rfl ?_
   rw [wrap_u64 (n := (q5.toNat : Int)) (by omega) (by have := q5.toNat_lt; omega), show q5 = u from by have h1 := hq6; rw [show ((a : Int) + (k : Int)).toNat = a + k by omega, hu] at h1; exact (Option.some.inj h1).symm]
   refine tM rfl rfl ?_
   first | refine At.val (Val.mulI rfl rfl (by omega) (by omega)) rfl rfl rfl ?_ | refine At.val (Val.bin rfl rfl rfl) rfl rfl rfl ?_
   refine At.val (Val.shl rfl rfl (by omega)) rfl rfl rfl ?_
   refine At.val (Val.bin rfl rfl rfl) rfl rfl rfl ?_
   rw [num_or hu (by omega)]
   refine tA rfl rfl ?_
   refine At.nil ?_
   refine At.blkN ?_
   refine At.thenN ?_
   refine At.region ?_
   first | refine At.val (Val.addI rfl rfl (by omega) (by omega)) rfl rfl rfl ?_ | refine At.val (Val.bin rfl rfl rfl) rfl rfl rfl ?_
   refine tM rfl rfl ?_
   refine tE ?_
   exact At.again (k + 1) (by omega) (by omega) (Sub.cons rfl (Sub.cons rfl (Sub.cons rfl (Sub.cons (congrArg (fun z => some (Value.int IntKind.i64 z)) (by omega)) Sub.nil)))) (List.Perm.refl _)
  ·skip
   try simp only [hasB, isSizeB, Bool.not_eq_true', Bool.not_eq_false', bne_iff_ne, ne_eq, bne_eq_false_iff_eq, beq_iff_eq, beq_eq_false_iff_ne, decide_eq_true_eq, decide_eq_false_iff_not, gt_iff_lt, ge_iff_le] at h2
   obtain rfl : k = 8 := by omega
   refine At.exitC ?_
   refine At.thenX ?_
   refine At.thenX ?_
   refine At.blkX ?_
   refine At.thenN ?_
   refine tR ?_
   refine tM rfl rfl ?_
   refine tA rfl rfl ?_
   refine tA rfl rfl ?_
   refine tE ?_
   refine At.retC ?_
   refine At.ret2 (.inl rfl) rfl rfl rfl rfl (fun w hw => ?_)
   exact ⟨by rw [wdA_val], hw.mod⟩
theorem readSv_n (v : Value) (l : List UInt8) (w : World) (ht : Tab w) (hv : RdB w v l) (h0 : 2048 ≤ l.length) (hlen : l.length ≤ 140737488355328) :
    NewRowT Tryz.prog 68 [v] (fun v => .tuple #[.agg #[b32 (oT (area l)), v], .int .i64 (oE (area l))]) 100 2 (oL (area l)).length (prS (oL (area l))) w := by
 refine enter0 Tryz.func68 rfl Tryz.ntmps68 rfl ?_
 have hal := area_length h0
 simp only [envOf]
 refine tR ?_
 refine At.alloc Tryz.zeroValue90 rfl rfl (fun b1 => ?_)
 refine tA rfl rfl ?_
 refine tE ?_
 refine tR ?_
 refine At.makeRowB (n := 1024) Tryz.underlying59 info_5 rfl rfl rfl rfl rfl (by omega) rfl (fun v2 => ?_)
 refine tA rfl rfl ?_
 refine tE ?_
 refine tR ?_
 refine tM rfl rfl ?_
 refine tM rfl rfl ?_
 refine At.cutB (1024) (2048) hv Tryz.underlying59 Tryz.sizeOf5 rfl ⟨_, _, rfl, by omega, by omega⟩ ⟨_, _, rfl, by omega, by omega⟩ (by omega) (by omega) rfl rfl (fun v3 hv4 => ?_)
 refine At.copyWhole (i := 0) (sz := 1) (ys := (area l).map bv) Tryz.underlying59 Tryz.sizeOf5 rfl rfl rfl (by decide) (fun w hw => by rw [zs_length, ← hal]; exact (hv4.mod hw.mod : RdB w _ (area l))) (bv_one _) rfl ?_
 simp only [sc0, scS]
 rw [show (zs (1024)).length = (area l).length from by rw [zs_length, hal]]
 refine tE ?_
 refine tR ?_
 refine tM rfl rfl ?_
 refine At.callNT (g := (fun v => .tuple #[.agg #[b32 (oT (area l)), v], .int .i64 (oE (area l))])) (fun w hw => openSv_n _ (area l) w (ht.mod hw.mod) (row_rd (hw.row (i := 0) rfl) (by decide)) (by omega)) Tryz.call102 rfl rfl (fun v5 => ?_)
 refine At.val (Val.extract rfl rfl) rfl rfl rfl ?_
 refine At.val (Val.extract rfl rfl) rfl rfl rfl ?_
 refine At.rowOne (i := 0) rfl (fun ho6 => ?_)
 refine At.storeAll (i := 2) Tryz.sizeOf90 rfl rfl rfl (by intro u hu; simp only [List.mem_cons, List.not_mem_nil, or_false] at hu; rcases hu with rfl | rfl <;> first | rfl | assumption) rfl rfl ?_
 simp only [sc0, scS]
 refine tA rfl rfl ?_
 refine tE ?_
 refine At.retC ?_
 refine At.ret2 (.inl rfl) rfl rfl (ResOf.all (i := 2) Tryz.isAgg90 Tryz.sizeOf90 rfl rfl rfl) rfl (fun w hw => ?_)
 exact ⟨_, rfl, (hw.drop (List.singleton_sublist.2 (List.mem_of_getElem? (i := 0) rfl))).f0⟩
theorem nextSt_p (v : Value) (l : List UInt8) (w : World) (ht : Tab w) (hv : RdB w v l) (h0 : 2048 ≤ l.length) (hlen : l.length ≤ 140737488355328) :
    PureC Tryz.prog 48 [v] (b32 (nextT l)) w := by
 refine enter0 Tryz.func48 rfl Tryz.ntmps48 rfl ?_
 simp only [envOf]
 refine tR ?_
 refine tA rfl rfl ?_
 refine tE ?_
 refine tR ?_
 refine tM rfl rfl ?_
 refine At.callNT (g := (fun v => .tuple #[.agg #[b32 (oT (area l)), v], .int .i64 (oE (area l))])) (fun w hw => readSv_n v l w (ht.mod hw.mod) (hv.mod hw.mod) h0 hlen) Tryz.call68 rfl rfl (fun v1 => ?_)
 refine tM rfl rfl ?_
 refine At.val (Val.extract rfl rfl) rfl rfl rfl ?_
 refine At.val (Val.extract rfl rfl) rfl rfl rfl ?_
 refine At.alloc Tryz.zeroValue90 rfl rfl (fun b2 => ?_)
 refine At.rowOne (i := 1) rfl (fun ho3 => ?_)
 refine At.storeAll (i := 0) Tryz.sizeOf90 rfl rfl rfl (by intro u hu; simp only [List.mem_cons, List.not_mem_nil, or_false] at hu; rcases hu with rfl | rfl <;> first | rfl | assumption) rfl rfl ?_
 simp only [sc0, scS]
 refine tA rfl rfl ?_
 refine tE ?_
 refine At.seq ?_
 refine tR ?_
 refine tM rfl rfl ?_
 refine At.val (Val.bin rfl rfl rfl) rfl rfl rfl ?_
 refine At.weaken [(0, _), (2, _), (6, _), (7, _), (5, _), (8, _), (9, _), (3, _), (11, _)] (Sub.cons rfl (Sub.cons rfl (Sub.cons rfl (Sub.cons rfl (Sub.cons rfl (Sub.cons rfl (Sub.cons rfl (Sub.cons rfl (Sub.cons rfl Sub.nil))))))))) ?_
 refine At.boolMeet 5 16 (decide (oE (area l) ≠ 0 ∨ (oT (area l)).toNat = 4294967295)) ?_ ?_
 ·skip
  simp only [List.take_succ_cons, List.take_zero]
  refine tM rfl rfl ?_
  refine At.split (t := 12) rfl (fun h4 => ?_) (fun h4 => ?_)
  ·skip
   try simp only [hasB, isSizeB, Bool.not_eq_true', Bool.not_eq_false', bne_iff_ne, ne_eq, bne_eq_false_iff_eq, beq_iff_eq, beq_eq_false_iff_ne, decide_eq_true_eq, decide_eq_false_iff_not, gt_iff_lt, ge_iff_le] at h4
   refine At.no rfl rfl rfl rfl ?_
   refine At.no rfl rfl rfl rfl ?_
   refine At.no rfl rfl rfl rfl ?_
   refine At.val (Val.pickT rfl rfl) rfl rfl rfl ?_
   refine At.nil ?_
   exact At.boolEnd rfl (by apply Bool.eq_iff_iff.2; (simp only [decide_eq_true_eq, Bool.false_eq_true, false_iff, true_iff, ne_eq, beq_iff_eq, bne_iff_ne]) <;> omega) (by repeat (first | exact Sub.nil | refine Sub.cons rfl ?_))
  ·skip
   try simp only [hasB, isSizeB, Bool.not_eq_true', Bool.not_eq_false', bne_iff_ne, ne_eq, bne_eq_false_iff_eq, beq_iff_eq, beq_eq_false_iff_ne, decide_eq_true_eq, decide_eq_false_iff_not, gt_iff_lt, ge_iff_le] at h4
   refine At.yes rfl rfl ?_
   refine At.val (Val.field 0 rfl fo_90_0 rfl) rfl rfl rfl ?_
   refine At.yes rfl rfl ?_
   refine At.val (Val.load (i := 0) Tryz.isAgg76 rfl rfl rfl) rfl rfl rfl ?_
   refine At.yes rfl rfl ?_
   refine At.val (Val.bin rfl rfl rfl) rfl rfl rfl ?_
   refine At.val (Val.pickF rfl rfl) rfl rfl rfl ?_
   refine At.nil ?_
   exact At.boolEnd rfl (by apply Bool.eq_iff_iff.2; (simp only [decide_eq_true_eq, Bool.false_eq_true, false_iff, true_iff, ne_eq, beq_iff_eq, bne_iff_ne]) <;> omega) (by repeat (first | exact Sub.nil | refine Sub.cons rfl ?_))
 ·skip
  simp only [List.drop_succ_cons, List.drop_zero]
  refine tE ?_
  refine At.cond rfl (fun h5 => ?_) (fun h5 => ?_)
  ·skip
   try simp only [hasB, isSizeB, Bool.not_eq_true', Bool.not_eq_false', bne_iff_ne, ne_eq, bne_eq_false_iff_eq, beq_iff_eq, beq_eq_false_iff_ne, decide_eq_true_eq, decide_eq_false_iff_not, gt_iff_lt, ge_iff_le] at h5
   have hnx : oE (area l) ≠ 0 ∨ (oT (area l)).toNat = 4294967295 := by first | exact h5 | (simp only [ne_eq]; exact h5) | omega
   refine tR ?_
   refine tA rfl rfl ?_
   refine tE ?_
   refine At.retC ?_
   refine At.thenR ?_
   refine At.ret1 (.inl rfl) rfl rfl rfl (fun w hw => ?_)
   exact ⟨by unfold nextT; rw [if_pos hnx]; rfl, hw.mod⟩
  ·skip
   try simp only [hasB, isSizeB, Bool.not_eq_true', Bool.not_eq_false', bne_iff_ne, ne_eq, bne_eq_false_iff_eq, beq_iff_eq, beq_eq_false_iff_ne, decide_eq_true_eq, decide_eq_false_iff_not, gt_iff_lt, ge_iff_le] at h5
   have hnx : ¬ (oE (area l) ≠ 0 ∨ (oT (area l)).toNat = 4294967295) := by first | exact h5 | omega
   refine At.skipC ?_
   refine At.thenN ?_
   refine tR ?_
   refine At.val (Val.field 0 rfl fo_90_0 rfl) rfl rfl rfl ?_
   refine At.val (Val.load (i := 0) Tryz.isAgg76 rfl rfl rfl) rfl rfl rfl ?_
   refine At.val (Val.bin rfl rfl rfl) rfl rfl rfl ?_
   refine tA rfl rfl ?_
   refine tE ?_
   refine At.retC ?_
   refine At.ret1 (.inl rfl) rfl rfl rfl (fun w hw => ?_)
   have h4 := (oT (area l)).isLt
   exact ⟨by unfold nextT; rw [if_neg hnx]; unfold b32; rw [wrap_u32 (by omega) (by omega), BitVec.toNat_add, show (oT (area l)).toNat + (1 : BitVec 32).toNat = (oT (area l)).toNat + 1 from rfl, Nat.mod_eq_of_lt (by omega)]; rfl, hw.mod⟩
theorem cleanSt_p (v : Value) (l : List UInt8) (w : World) (ht : Tab w) (hv : RdB w v l) (h0 : 136 ≤ l.length) (hlen : l.length ≤ 140737488355328) :
    PureC Tryz.prog 67 [v] (b32 (cleanT l)) w := by
 refine enter0 Tryz.func67 rfl Tryz.ntmps67 rfl ?_
 simp only [envOf]
 refine tR ?_
 refine tA rfl rfl ?_
 refine tE ?_
 refine tR ?_
 refine tM rfl rfl ?_
 refine At.callP (fun w hw => cword_p v l 128 w (hv.mod hw.mod) hlen (by omega)) Tryz.call100 rfl rfl ?_
 refine tM rfl rfl ?_
 refine At.val (Val.extract rfl rfl) rfl rfl rfl ?_
 refine At.val (Val.extract rfl rfl) rfl rfl rfl ?_
 refine tA rfl rfl ?_
 refine tA rfl rfl ?_
 refine tE ?_
 refine At.seq ?_
 refine tR ?_
 refine tM rfl rfl ?_
 refine At.val (Val.bin rfl rfl rfl) rfl rfl rfl ?_
 refine tE ?_
 refine At.condF rfl ?_
 refine At.skipC ?_
 refine At.thenN ?_
 refine tR ?_
 refine tM rfl rfl ?_
 by_cases hs : sealW (BitVec.ofInt 64 128) ((wdA l 128).setWidth 32) = wdA l 128
 ·skip
  refine At.callP (fun w hw => (by have := unseal_p 128 (wdA l 128) w (ht.mod hw.mod); rwa [unseal_yes hs] at this)) Tryz.call101 rfl rfl ?_
  refine tM rfl rfl ?_
  refine At.val (Val.extract rfl rfl) rfl rfl rfl ?_
  refine At.val (Val.extract rfl rfl) rfl rfl rfl ?_
  refine tA rfl rfl ?_
  refine tA rfl rfl ?_
  refine tE ?_
  refine At.seq ?_
  refine tR ?_
  refine tM rfl rfl ?_
  refine At.val (Val.bin rfl rfl rfl) rfl rfl rfl ?_
  refine tE ?_
  refine At.condF rfl ?_
  refine At.skipC ?_
  refine At.thenN ?_
  refine tR ?_
  refine tM rfl rfl ?_
  refine tA rfl rfl ?_
  refine tE ?_
  refine At.retC ?_
  refine At.ret1 (.inl rfl) rfl rfl rfl (fun w hw => ?_)
  exact ⟨by unfold cleanT; rw [if_pos hs]; rfl, hw.mod⟩
 ·skip
  refine At.callP (fun w hw => (by have := unseal_p 128 (wdA l 128) w (ht.mod hw.mod); rwa [unseal_no hs] at this)) Tryz.call101 rfl rfl ?_
  refine tM rfl rfl ?_
  refine At.val (Val.extract rfl rfl) rfl rfl rfl ?_
  refine At.val (Val.extract rfl rfl) rfl rfl rfl ?_
  refine tA rfl rfl ?_
  refine tA rfl rfl ?_
  refine tE ?_
  refine At.seq ?_
  refine tR ?_
  refine tM rfl rfl ?_
  refine At.val (Val.bin rfl rfl rfl) rfl rfl rfl ?_
  refine tE ?_
  refine At.condT rfl ?_
  refine tR ?_
  refine tA rfl rfl ?_
  refine tE ?_
  refine At.retC ?_
  refine At.thenR ?_
  refine At.ret1 (.inl rfl) rfl rfl rfl (fun w hw => ?_)
  exact ⟨by unfold cleanT; rw [if_neg hs]; rfl, hw.mod⟩
end Go.Proofs.YthhkbbodhghmcaaGreatDoor
set_option linter.unusedVariables false
set_option linter.unusedSimpArgs false
namespace Go.Proofs.YthhkbbodhghmcaaGreatDoor
open Go Go.Wk
theorem ne_span (a b : Int × Int) : (!((a.1 == b.1) && ((a.2 == b.2) && true))) = decide (¬ a = b) := by
  obtain ⟨a1, a2⟩ := a
  obtain ⟨b1, b2⟩ := b
  rw [Bool.eq_iff_iff]
  simp only [Bool.not_eq_true', Bool.and_true, Bool.and_eq_false_iff, beq_eq_false_iff_ne, ne_eq, decide_eq_true_eq, Prod.mk.injEq]
  omega
theorem eq_shape (p i c d e : Int) : ((p == p) && ((i == i) && ((c == c) && ((e == d) && true)))) = decide (d = e) := by
  simp only [beq_self_eq_true, Bool.true_and, Bool.and_true]
  rw [Bool.eq_iff_iff]; simp only [beq_iff_eq, decide_eq_true_eq]
  exact ⟨Eq.symm, Eq.symm⟩
theorem prS_drop : ∀ (l : List (Int × Int)) (k : Nat), prS (l.drop k) = (prS l).drop (k * 2)
  | [], k => by simp [prS]
  | c :: l, 0 => by simp
  | c :: l, k + 1 => by
    rw [List.drop_succ_cons, show (k + 1) * 2 = k * 2 + 1 + 1 by omega, prS_drop l k]
    rfl
/-- A part of a list of spans. -/
theorem RdS.cut {w : World} {l h c : Nat} {A : Option Addr} {L : List (Int × Int)} (hr : RdS w (.slice A L.length c) L) (h1 : l ≤ h) (h2 : h ≤ L.length) : RdS w (.slice (cutA A c l 2) (h - l) (c - l)) ((L.drop l).take (h - l)) := by
  have := Rd.cut hr h1 h2
  unfold RdS
  rw [prS_take, prS_drop, List.length_take, List.length_drop, Nat.min_eq_left (by omega)]
  exact this
theorem At.cutS {P : Program} {Γ : Ctx} {E : Env} {H : List Res} {ops : Array Oper} {Q : Exit → Act → World → Prop} {rest : List Oper} {d : Nat} {ty : TypeId} {pos : String} {after : Array Edge} {x : Operand} {v : Value} {g : Option (Nat × Bool)} {t el : Nat} {L : List (Int × Int)} {lo hi : Option Operand} (l h : Nat) (hr : RdS Γ.w0 v L) (hu : P.underlying t = some (.slice el)) (hs : ∀ w, (sizeOf el).run P w = .ok 2 w) (hx : ev E x = some v) (hl : Bd E lo 0 l) (hh : Bd E hi L.length h) (h1 : l ≤ h) (h2 : h ≤ L.length)
    (hg : g = none) (hn : Nat.blt d Γ.n = true) (k : ∀ v', RdS Γ.w0 v' ((L.drop l).take (h - l)) → At Γ ((d, v') :: E) H (wpList P ops Q rest)) :
    At Γ E H (wpList P ops Q ({ dst := some d, op := .slice t x lo hi .none, type := ty, pos, after, guard := g } :: rest)) := by
  have hr0 := hr
  obtain ⟨A, c, rfl, _⟩ := hr
  exact At.val (Val.cutRd hr0 hu hs hx hl hh h1 h2) hg rfl hn (k _ (RdS.cut hr0 h1 h2))
theorem drop_one {L : List (Int × Int)} {k : Nat} {q : Int × Int} (h : L[k]? = some q) : (L.drop k).take (k + 1 - k) = [q] := by
  have hk := List.getElem?_eq_some_iff.1 h
  rw [List.drop_eq_getElem_cons hk.1, hk.2, show k + 1 - k = 1 by omega]; rfl
theorem good1 (q : Int × Int) : GoodSv 1 [q] ↔ OkSp 5 q := by
  constructor
  · intro h
    exact h.2.2 0 q Nat.zero_lt_one rfl
  · intro h
    refine ⟨by decide, (show 1 ≤ 249 by decide), fun j c hj hc => ?_⟩
    obtain rfl : j = 0 := by have : j < 1 := hj; omega
    obtain rfl : q = c := by simpa using hc
    exact h
theorem spK_bad {L : List (Int × Int)} {k : Nat} {q : Int × Int} (hq : L[k]? = some q) (h : ¬ OkSp (loAt L k) q) : ¬ SpK L L.length := fun g => h (g k q (List.getElem?_eq_some_iff.1 hq).1 hq)
theorem spK_bad5 {L : List (Int × Int)} {k : Nat} {q : Int × Int} (hs : SpK L k) (hk : k ≤ L.length) (hq : L[k]? = some q) (h : ¬ OkSp 5 q) : ¬ SpK L L.length := spK_bad hq fun g => h (by
  have := lo_bd hs hk
  unfold OkSp at *
  omega)
noncomputable instance spKdec (L : List (Int × Int)) (k : Nat) : Decidable (SpK L k) := Classical.propDecidable _
theorem lo_prev {L : List (Int × Int)} {k : Nat} {c : Int × Int} (h : 0 < k → L[k - 1]? = some c) : (k = 0 ∧ loAt L k = 5) ∨ (0 < k ∧ loAt L k = c.1 + c.2 + 1) := by
  rcases Nat.eq_zero_or_pos k with h0 | h0
  · subst h0; exact .inl ⟨rfl, rfl⟩
  · obtain ⟨j, rfl⟩ : ∃ j, k = j + 1 := ⟨k - 1, by omega⟩
    exact .inr ⟨h0, loAt_succ (h h0)⟩
theorem fitsSv_p (p i c dt n : Int) (w : World) :
    PureC Tryz.prog 66 [.agg #[.int .i64 p, .int .i64 i, .int .i64 c, .int .i64 dt], .int .i64 n] (.bool (decide (GoodSup p i c ∧ dt = 4 + i / 8 ∧ n = 512 * p))) w := by
 refine enter0 Tryz.func66 rfl Tryz.ntmps66 rfl ?_
 simp only [envOf]
 refine tR ?_
 refine At.box rfl rfl rfl (fun b1 => ?_)
 refine tA rfl rfl ?_
 refine tE ?_
 refine tR ?_
 refine At.val (Val.field 0 rfl fo_34_0 rfl) rfl rfl rfl ?_
 refine At.val (Val.load (i := 0) Tryz.isAgg3 rfl rfl rfl) rfl rfl rfl ?_
 refine At.val (Val.field 1 rfl fo_34_1 rfl) rfl rfl rfl ?_
 refine At.val (Val.load (i := 0) Tryz.isAgg3 rfl rfl rfl) rfl rfl rfl ?_
 refine At.val (Val.field 2 rfl fo_34_2 rfl) rfl rfl rfl ?_
 refine At.val (Val.load (i := 0) Tryz.isAgg3 rfl rfl rfl) rfl rfl rfl ?_
 refine At.val (Val.build (fun a ha => by simp only [List.map_toArray, List.map_cons, List.map_nil, ha.eval (x := (.tmp 9)) rfl, ha.eval (x := (.tmp 11)) rfl, ha.eval (x := (.tmp 13)) rfl] <;> rfl) (bld_142_0_1_2 _ _ _ )) rfl rfl rfl ?_
 refine At.callP (fun w hw => fit_p _ _ _ w) Tryz.call99 rfl rfl ?_
 by_cases hg : GoodSup p i c
 ·skip
  rw [fit_yes hg]
  have hg2 := hg
  unfold GoodSup at hg2
  refine tM rfl rfl ?_
  refine At.val (Val.extract rfl rfl) rfl rfl rfl ?_
  refine At.val (Val.extract rfl rfl) rfl rfl rfl ?_
  refine At.alloc Tryz.zeroValue34 rfl rfl (fun b2 => ?_)
  refine At.storeAll (i := 0) Tryz.sizeOf34 rfl rfl rfl (by simp [Value.oneCell']) rfl rfl ?_
  simp only [sc0, scS]
  refine tA rfl rfl ?_
  refine tE ?_
  refine tR ?_
  refine tM rfl rfl ?_
  refine At.val (Val.bin rfl rfl rfl) rfl rfl rfl ?_
  refine tM rfl rfl ?_
  refine At.yes rfl rfl ?_
  refine At.val (Val.loadAll (i := 0) Tryz.isAgg34 Tryz.sizeOf34 rfl rfl rfl) rfl rfl rfl ?_
  refine At.yes rfl rfl ?_
  refine At.val (Val.loadAll (i := 1) Tryz.isAgg34 Tryz.sizeOf34 rfl rfl rfl) rfl rfl rfl ?_
  refine At.yes rfl rfl ?_
  refine At.val (Val.eqAgg Tryz.eqGuardType34 (fun w => eq_34 _ _ _ _ _ _ _ _ w) rfl rfl) rfl rfl rfl ?_
  rw [eq_shape]
  refine At.val (Val.pickT rfl rfl) rfl rfl rfl ?_
  refine At.weaken [(0, _), (1, _), (2, _), (4, _), (8, _), (9, _), (10, _), (11, _), (12, _), (13, _), (14, _), (15, _), (7, _), (16, _), (17, _), (5, _), (24, _)] (Sub.cons rfl (Sub.cons rfl (Sub.cons rfl (Sub.cons rfl (Sub.cons rfl (Sub.cons rfl (Sub.cons rfl (Sub.cons rfl (Sub.cons rfl (Sub.cons rfl (Sub.cons rfl (Sub.cons rfl (Sub.cons rfl (Sub.cons rfl (Sub.cons rfl (Sub.cons rfl (Sub.cons rfl Sub.nil))))))))))))))))) ?_
  refine At.boolMeet 7 31 (decide (GoodSup p i c ∧ dt = 4 + i / 8 ∧ n = 512 * p)) ?_ ?_
  ·skip
   simp only [List.take_succ_cons, List.take_zero]
   refine tM rfl rfl ?_
   refine At.split (t := 25) rfl (fun h3 => ?_) (fun h3 => ?_)
   ·skip
    try simp only [hasB, isSizeB, Bool.not_eq_true', Bool.not_eq_false', bne_iff_ne, ne_eq, bne_eq_false_iff_eq, beq_iff_eq, beq_eq_false_iff_ne, decide_eq_true_eq, decide_eq_false_iff_not, gt_iff_lt, ge_iff_le] at h3
    refine At.yes rfl rfl ?_
    refine tM rfl rfl ?_
    refine At.yes rfl rfl ?_
    refine At.val (Val.field 0 rfl fo_34_0 rfl) rfl rfl rfl ?_
    refine At.yes rfl rfl ?_
    refine At.val (Val.load (i := 1) Tryz.isAgg3 rfl rfl rfl) rfl rfl rfl ?_
    refine At.yes rfl rfl ?_
    first | refine At.val (Val.mulI rfl rfl (by omega) (by omega)) rfl rfl rfl ?_ | refine At.val (Val.bin rfl rfl rfl) rfl rfl rfl ?_
    refine At.yes rfl rfl ?_
    refine At.val (Val.bin rfl rfl rfl) rfl rfl rfl ?_
    refine At.val (Val.pickT rfl rfl) rfl rfl rfl ?_
    refine At.nil ?_
    exact At.boolEnd rfl (by apply Bool.eq_iff_iff.2; (simp only [decide_eq_true_eq, Bool.false_eq_true, false_iff, true_iff, beq_iff_eq]) <;> first | omega | (constructor <;> intro h9 <;> first | exact ⟨hg, by omega, by omega⟩ | (have := h9.2; omega) | omega) | (intro h9; first | exact absurd h9.1 hg | omega)) (by repeat (first | exact Sub.nil | refine Sub.cons rfl ?_))
   ·skip
    try simp only [hasB, isSizeB, Bool.not_eq_true', Bool.not_eq_false', bne_iff_ne, ne_eq, bne_eq_false_iff_eq, beq_iff_eq, beq_eq_false_iff_ne, decide_eq_true_eq, decide_eq_false_iff_not, gt_iff_lt, ge_iff_le] at h3
    refine At.no rfl rfl rfl rfl ?_
    refine At.no rfl rfl rfl rfl ?_
    refine At.no rfl rfl rfl rfl ?_
    refine At.no rfl rfl rfl rfl ?_
    refine At.no rfl rfl rfl rfl ?_
    refine At.val (Val.pickF rfl rfl) rfl rfl rfl ?_
    refine At.nil ?_
    exact At.boolEnd rfl (by apply Bool.eq_iff_iff.2; (simp only [decide_eq_true_eq, Bool.false_eq_true, false_iff, true_iff, beq_iff_eq]) <;> first | omega | (constructor <;> intro h9 <;> first | exact ⟨hg, by omega, by omega⟩ | (have := h9.2; omega) | omega) | (intro h9; first | exact absurd h9.1 hg | omega)) (by repeat (first | exact Sub.nil | refine Sub.cons rfl ?_))
  ·skip
   simp only [List.drop_succ_cons, List.drop_zero]
   refine tA rfl rfl ?_
   refine tE ?_
   refine At.retC ?_
   refine At.ret1 (.inl rfl) rfl rfl rfl (fun w hw => ?_)
   exact ⟨rfl, hw.mod⟩
 ·skip
  rw [fit_no hg]
  refine tM rfl rfl ?_
  refine At.val (Val.extract rfl rfl) rfl rfl rfl ?_
  refine At.val (Val.extract rfl rfl) rfl rfl rfl ?_
  refine At.alloc Tryz.zeroValue34 rfl rfl (fun b4 => ?_)
  refine At.storeAll (i := 0) Tryz.sizeOf34 rfl rfl rfl (by simp [Value.oneCell']) rfl rfl ?_
  simp only [sc0, scS]
  refine tA rfl rfl ?_
  refine tE ?_
  refine tR ?_
  refine tM rfl rfl ?_
  refine At.val (Val.bin rfl rfl rfl) rfl rfl rfl ?_
  refine tM rfl rfl ?_
  refine At.no rfl rfl rfl rfl ?_
  refine At.no rfl rfl rfl rfl ?_
  refine At.no rfl rfl rfl rfl ?_
  refine At.val (Val.pickF rfl rfl) rfl rfl rfl ?_
  refine At.weaken [(0, _), (1, _), (2, _), (4, _), (8, _), (9, _), (10, _), (11, _), (12, _), (13, _), (14, _), (15, _), (7, _), (16, _), (17, _), (5, _), (24, _)] (Sub.cons rfl (Sub.cons rfl (Sub.cons rfl (Sub.cons rfl (Sub.cons rfl (Sub.cons rfl (Sub.cons rfl (Sub.cons rfl (Sub.cons rfl (Sub.cons rfl (Sub.cons rfl (Sub.cons rfl (Sub.cons rfl (Sub.cons rfl (Sub.cons rfl (Sub.cons rfl (Sub.cons rfl Sub.nil))))))))))))))))) ?_
  refine At.boolMeet 7 31 (decide (GoodSup p i c ∧ dt = 4 + i / 8 ∧ n = 512 * p)) ?_ ?_
  ·skip
   simp only [List.take_succ_cons, List.take_zero]
   refine tM rfl rfl ?_
   refine At.no rfl rfl rfl rfl ?_
   refine At.no rfl rfl rfl rfl ?_
   refine At.no rfl rfl rfl rfl ?_
   refine At.no rfl rfl rfl rfl ?_
   refine At.no rfl rfl rfl rfl ?_
   refine At.val (Val.pickF rfl rfl) rfl rfl rfl ?_
   refine At.nil ?_
   exact At.boolEnd rfl (by apply Bool.eq_iff_iff.2; (simp only [decide_eq_true_eq, Bool.false_eq_true, false_iff, true_iff, beq_iff_eq]) <;> first | omega | (constructor <;> intro h9 <;> first | exact ⟨hg, by omega, by omega⟩ | (have := h9.2; omega) | omega) | (intro h9; first | exact absurd h9.1 hg | omega)) (by repeat (first | exact Sub.nil | refine Sub.cons rfl ?_))
  ·skip
   simp only [List.drop_succ_cons, List.drop_zero]
   refine tA rfl rfl ?_
   refine tE ?_
   refine At.retC ?_
   refine At.ret1 (.inl rfl) rfl rfl rfl (fun w hw => ?_)
   exact ⟨rfl, hw.mod⟩
theorem fitsR_p (p i c dt n : Int) (w : World) (hp : -9223372036854775808 ≤ p ∧ p ≤ 9223372036854775807) :
    PureC Tryz.prog 70 [.agg #[.int .i64 p, .int .i64 i, .int .i64 c, .int .i64 dt], .int .i64 n] (.bool (decide (GoodSup p i c ∧ dt = 4 + i / 8 ∧ n = 512 * p))) w := by
 refine enter0 Tryz.func70 rfl Tryz.ntmps70 rfl ?_
 simp only [envOf]
 refine tR ?_
 refine At.box rfl rfl rfl (fun b1 => ?_)
 refine tA rfl rfl ?_
 refine tE ?_
 refine tR ?_
 refine At.val (Val.field 0 rfl fo_34_0 rfl) rfl rfl rfl ?_
 refine At.val (Val.load (i := 0) Tryz.isAgg3 rfl rfl rfl) rfl rfl rfl ?_
 refine At.val (Val.field 1 rfl fo_34_1 rfl) rfl rfl rfl ?_
 refine At.val (Val.load (i := 0) Tryz.isAgg3 rfl rfl rfl) rfl rfl rfl ?_
 refine At.val (Val.field 2 rfl fo_34_2 rfl) rfl rfl rfl ?_
 refine At.val (Val.load (i := 0) Tryz.isAgg3 rfl rfl rfl) rfl rfl rfl ?_
 refine At.val (Val.build (fun a ha => by simp only [List.map_toArray, List.map_cons, List.map_nil, ha.eval (x := (.tmp 9)) rfl, ha.eval (x := (.tmp 11)) rfl, ha.eval (x := (.tmp 13)) rfl] <;> rfl) (bld_142_0_1_2 _ _ _ )) rfl rfl rfl ?_
 refine At.callP (fun w hw => fitR_p _ _ _ w hp) Tryz.call103 rfl rfl ?_
 by_cases hg : GoodSup p i c
 ·skip
  rw [fit_yes hg]
  have hg2 := hg
  unfold GoodSup at hg2
  refine tM rfl rfl ?_
  refine At.val (Val.extract rfl rfl) rfl rfl rfl ?_
  refine At.val (Val.extract rfl rfl) rfl rfl rfl ?_
  refine At.alloc Tryz.zeroValue34 rfl rfl (fun b2 => ?_)
  refine At.storeAll (i := 0) Tryz.sizeOf34 rfl rfl rfl (by simp [Value.oneCell']) rfl rfl ?_
  simp only [sc0, scS]
  refine tA rfl rfl ?_
  refine tE ?_
  refine tR ?_
  refine tM rfl rfl ?_
  refine At.val (Val.bin rfl rfl rfl) rfl rfl rfl ?_
  refine tM rfl rfl ?_
  refine At.yes rfl rfl ?_
  refine At.val (Val.loadAll (i := 0) Tryz.isAgg34 Tryz.sizeOf34 rfl rfl rfl) rfl rfl rfl ?_
  refine At.yes rfl rfl ?_
  refine At.val (Val.loadAll (i := 1) Tryz.isAgg34 Tryz.sizeOf34 rfl rfl rfl) rfl rfl rfl ?_
  refine At.yes rfl rfl ?_
  refine At.val (Val.eqAgg Tryz.eqGuardType34 (fun w => eq_34 _ _ _ _ _ _ _ _ w) rfl rfl) rfl rfl rfl ?_
  rw [eq_shape]
  refine At.val (Val.pickT rfl rfl) rfl rfl rfl ?_
  refine At.weaken [(0, _), (1, _), (2, _), (4, _), (8, _), (9, _), (10, _), (11, _), (12, _), (13, _), (14, _), (15, _), (7, _), (16, _), (17, _), (5, _), (24, _)] (Sub.cons rfl (Sub.cons rfl (Sub.cons rfl (Sub.cons rfl (Sub.cons rfl (Sub.cons rfl (Sub.cons rfl (Sub.cons rfl (Sub.cons rfl (Sub.cons rfl (Sub.cons rfl (Sub.cons rfl (Sub.cons rfl (Sub.cons rfl (Sub.cons rfl (Sub.cons rfl (Sub.cons rfl Sub.nil))))))))))))))))) ?_
  refine At.boolMeet 7 31 (decide (GoodSup p i c ∧ dt = 4 + i / 8 ∧ n = 512 * p)) ?_ ?_
  ·skip
   simp only [List.take_succ_cons, List.take_zero]
   refine tM rfl rfl ?_
   refine At.split (t := 25) rfl (fun h3 => ?_) (fun h3 => ?_)
   ·skip
    try simp only [hasB, isSizeB, Bool.not_eq_true', Bool.not_eq_false', bne_iff_ne, ne_eq, bne_eq_false_iff_eq, beq_iff_eq, beq_eq_false_iff_ne, decide_eq_true_eq, decide_eq_false_iff_not, gt_iff_lt, ge_iff_le] at h3
    refine At.yes rfl rfl ?_
    refine tM rfl rfl ?_
    refine At.yes rfl rfl ?_
    refine At.val (Val.field 0 rfl fo_34_0 rfl) rfl rfl rfl ?_
    refine At.yes rfl rfl ?_
    refine At.val (Val.load (i := 1) Tryz.isAgg3 rfl rfl rfl) rfl rfl rfl ?_
    refine At.yes rfl rfl ?_
    first | refine At.val (Val.mulI rfl rfl (by omega) (by omega)) rfl rfl rfl ?_ | refine At.val (Val.bin rfl rfl rfl) rfl rfl rfl ?_
    refine At.yes rfl rfl ?_
    refine At.val (Val.bin rfl rfl rfl) rfl rfl rfl ?_
    refine At.val (Val.pickT rfl rfl) rfl rfl rfl ?_
    refine At.nil ?_
    exact At.boolEnd rfl (by apply Bool.eq_iff_iff.2; (simp only [decide_eq_true_eq, Bool.false_eq_true, false_iff, true_iff, beq_iff_eq]) <;> first | omega | (constructor <;> intro h9 <;> first | exact ⟨hg, by omega, by omega⟩ | (have := h9.2; omega) | omega) | (intro h9; first | exact absurd h9.1 hg | omega)) (by repeat (first | exact Sub.nil | refine Sub.cons rfl ?_))
   ·skip
    try simp only [hasB, isSizeB, Bool.not_eq_true', Bool.not_eq_false', bne_iff_ne, ne_eq, bne_eq_false_iff_eq, beq_iff_eq, beq_eq_false_iff_ne, decide_eq_true_eq, decide_eq_false_iff_not, gt_iff_lt, ge_iff_le] at h3
    refine At.no rfl rfl rfl rfl ?_
    refine At.no rfl rfl rfl rfl ?_
    refine At.no rfl rfl rfl rfl ?_
    refine At.no rfl rfl rfl rfl ?_
    refine At.no rfl rfl rfl rfl ?_
    refine At.val (Val.pickF rfl rfl) rfl rfl rfl ?_
    refine At.nil ?_
    exact At.boolEnd rfl (by apply Bool.eq_iff_iff.2; (simp only [decide_eq_true_eq, Bool.false_eq_true, false_iff, true_iff, beq_iff_eq]) <;> first | omega | (constructor <;> intro h9 <;> first | exact ⟨hg, by omega, by omega⟩ | (have := h9.2; omega) | omega) | (intro h9; first | exact absurd h9.1 hg | omega)) (by repeat (first | exact Sub.nil | refine Sub.cons rfl ?_))
  ·skip
   simp only [List.drop_succ_cons, List.drop_zero]
   refine tA rfl rfl ?_
   refine tE ?_
   refine At.retC ?_
   refine At.ret1 (.inl rfl) rfl rfl rfl (fun w hw => ?_)
   exact ⟨rfl, hw.mod⟩
 ·skip
  rw [fit_no hg]
  refine tM rfl rfl ?_
  refine At.val (Val.extract rfl rfl) rfl rfl rfl ?_
  refine At.val (Val.extract rfl rfl) rfl rfl rfl ?_
  refine At.alloc Tryz.zeroValue34 rfl rfl (fun b4 => ?_)
  refine At.storeAll (i := 0) Tryz.sizeOf34 rfl rfl rfl (by simp [Value.oneCell']) rfl rfl ?_
  simp only [sc0, scS]
  refine tA rfl rfl ?_
  refine tE ?_
  refine tR ?_
  refine tM rfl rfl ?_
  refine At.val (Val.bin rfl rfl rfl) rfl rfl rfl ?_
  refine tM rfl rfl ?_
  refine At.no rfl rfl rfl rfl ?_
  refine At.no rfl rfl rfl rfl ?_
  refine At.no rfl rfl rfl rfl ?_
  refine At.val (Val.pickF rfl rfl) rfl rfl rfl ?_
  refine At.weaken [(0, _), (1, _), (2, _), (4, _), (8, _), (9, _), (10, _), (11, _), (12, _), (13, _), (14, _), (15, _), (7, _), (16, _), (17, _), (5, _), (24, _)] (Sub.cons rfl (Sub.cons rfl (Sub.cons rfl (Sub.cons rfl (Sub.cons rfl (Sub.cons rfl (Sub.cons rfl (Sub.cons rfl (Sub.cons rfl (Sub.cons rfl (Sub.cons rfl (Sub.cons rfl (Sub.cons rfl (Sub.cons rfl (Sub.cons rfl (Sub.cons rfl (Sub.cons rfl Sub.nil))))))))))))))))) ?_
  refine At.boolMeet 7 31 (decide (GoodSup p i c ∧ dt = 4 + i / 8 ∧ n = 512 * p)) ?_ ?_
  ·skip
   simp only [List.take_succ_cons, List.take_zero]
   refine tM rfl rfl ?_
   refine At.no rfl rfl rfl rfl ?_
   refine At.no rfl rfl rfl rfl ?_
   refine At.no rfl rfl rfl rfl ?_
   refine At.no rfl rfl rfl rfl ?_
   refine At.no rfl rfl rfl rfl ?_
   refine At.val (Val.pickF rfl rfl) rfl rfl rfl ?_
   refine At.nil ?_
   exact At.boolEnd rfl (by apply Bool.eq_iff_iff.2; (simp only [decide_eq_true_eq, Bool.false_eq_true, false_iff, true_iff, beq_iff_eq]) <;> first | omega | (constructor <;> intro h9 <;> first | exact ⟨hg, by omega, by omega⟩ | (have := h9.2; omega) | omega) | (intro h9; first | exact absurd h9.1 hg | omega)) (by repeat (first | exact Sub.nil | refine Sub.cons rfl ?_))
  ·skip
   simp only [List.drop_succ_cons, List.drop_zero]
   refine tA rfl rfl ?_
   refine tE ?_
   refine At.retC ?_
   refine At.ret1 (.inl rfl) rfl rfl rfl (fun w hw => ?_)
   exact ⟨rfl, hw.mod⟩
theorem sameSp_p (v u : Value) (L M : List (Int × Int)) (w : World) (hv : RdS w v L) (hu : RdS w u M) (hl : L.length ≤ 8796093022144) (hm : M.length ≤ 8796093022144) :
    PureC Tryz.prog 69 [v, u] (.bool (decide (L = M))) w := by
 refine enter0 Tryz.func69 rfl Tryz.ntmps69 rfl ?_
 simp only [envOf]
 refine tR ?_
 refine tA rfl rfl ?_
 refine tE ?_
 refine At.seq ?_
 refine tR ?_
 refine tM rfl rfl ?_
 refine At.val (Val.lenRd hv Tryz.underlying35 rfl) rfl rfl rfl ?_
 refine tM rfl rfl ?_
 refine At.val (Val.lenRd hu Tryz.underlying35 rfl) rfl rfl rfl ?_
 refine At.val (Val.bin rfl rfl rfl) rfl rfl rfl ?_
 refine tE ?_
 refine At.cond rfl (fun h1 => ?_) (fun h1 => ?_)
 ·skip
  try simp only [hasB, isSizeB, Bool.not_eq_true', Bool.not_eq_false', bne_iff_ne, ne_eq, bne_eq_false_iff_eq, beq_iff_eq, beq_eq_false_iff_ne, decide_eq_true_eq, decide_eq_false_iff_not, gt_iff_lt, ge_iff_le] at h1
  refine tR ?_
  refine tA rfl rfl ?_
  refine tE ?_
  refine At.retC ?_
  refine At.thenR ?_
  refine At.ret1 (.inl rfl) rfl rfl rfl (fun w hw => ?_)
  exact ⟨retB (decide_eq_false (fun e => ‹¬ (L.length : Int) = M.length› (by rw [e]))).symm, hw.mod⟩
 ·skip
  try simp only [hasB, isSizeB, Bool.not_eq_true', Bool.not_eq_false', bne_iff_ne, ne_eq, bne_eq_false_iff_eq, beq_iff_eq, beq_eq_false_iff_ne, decide_eq_true_eq, decide_eq_false_iff_not, gt_iff_lt, ge_iff_le] at h1
  have hn : L.length = M.length := by omega
  refine At.skipC ?_
  refine At.thenN ?_
  refine At.seq ?_
  refine tR ?_
  refine tM rfl rfl ?_
  refine At.val (Val.lenRd hv Tryz.underlying35 rfl) rfl rfl rfl ?_
  refine tM rfl rfl ?_
  refine tE ?_
  refine At.block ?_
  skip
  refine At.loop (σ := Nat) (fun k => k ≤ L.length ∧ L.take k = M.take k) (fun k => [(0, v), (1, u), (12, .int .i64 (L.length : Int)), (13, .int .i64 (k : Int))]) (fun k => []) (fun k => L.length - k) 0 ⟨Nat.zero_le _, rfl⟩ (Sub.cons rfl (Sub.cons rfl (Sub.cons rfl (Sub.cons rfl Sub.nil)))) (List.Perm.refl _) ?_
  intro k hs
  refine tR ?_
  refine At.val (Val.bin rfl rfl rfl) rfl rfl rfl ?_
  refine tE ?_
  refine At.seq ?_
  refine At.cond rfl (fun h2 => ?_) (fun h2 => ?_)
  ·skip
   try simp only [hasB, isSizeB, Bool.not_eq_true', Bool.not_eq_false', bne_iff_ne, ne_eq, bne_eq_false_iff_eq, beq_iff_eq, beq_eq_false_iff_ne, decide_eq_true_eq, decide_eq_false_iff_not, gt_iff_lt, ge_iff_le] at h2
   refine At.skipC ?_
   refine At.thenN ?_
   refine At.seq ?_
   refine At.block ?_
   refine tR ?_
   refine tM rfl rfl ?_
   refine tA rfl rfl ?_
   refine tE ?_
   refine At.seq ?_
   refine At.quiet rfl (by decide +kernel) ?_
   refine qM rfl rfl ?_
   refine qM rfl rfl ?_
   refine QAt.idxS hv Tryz.underlying35 Tryz.sizeOf100 rfl rfl (by omega) (by omega) rfl rfl (fun b3 o4 q5 hq6 hc7 hd8 => ?_)
   refine QAt.val (Val.loadSpan Tryz.isAgg100 Tryz.sizeOf100 rfl hc7 hd8 (fun h => h)) rfl rfl rfl ?_
   refine qM rfl rfl ?_
   refine qM rfl rfl ?_
   refine QAt.idxS hu Tryz.underlying35 Tryz.sizeOf100 rfl rfl (by omega) (by omega) rfl rfl (fun b9 o10 q11 hq12 hc13 hd14 => ?_)
   refine QAt.val (Val.loadSpan Tryz.isAgg100 Tryz.sizeOf100 rfl hc13 hd14 (fun h => h)) rfl rfl rfl ?_
   have hqa : L[k]? = some q5 := by have h1 := hq6; rwa [Int.toNat_natCast] at h1
   have hqb : M[k]? = some q11 := by have h1 := hq12; rwa [Int.toNat_natCast] at h1
   refine QAt.val (Val.neAgg Tryz.eqGuardType100 (fun w => eq_100 _ _ _ _ w) rfl rfl) rfl rfl rfl ?_
   rw [ne_span]
   refine QAt.fin ?_
   refine At.thenN ?_
   refine At.cond rfl (fun h15 => ?_) (fun h15 => ?_)
   ·skip
    try simp only [hasB, isSizeB, Bool.not_eq_true', Bool.not_eq_false', bne_iff_ne, ne_eq, bne_eq_false_iff_eq, beq_iff_eq, beq_eq_false_iff_ne, decide_eq_true_eq, decide_eq_false_iff_not, gt_iff_lt, ge_iff_le] at h15
    have hne := h15
    refine tR ?_
    refine tA rfl rfl ?_
    refine tE ?_
    refine At.retC ?_
    refine At.blkR ?_
    refine At.thenR ?_
    refine At.thenR ?_
    refine At.blkR ?_
    refine At.thenR ?_
    refine At.ret1 (.inl rfl) rfl rfl rfl (fun w hw => ?_)
    exact ⟨retB (decide_eq_false (fun e => by subst e; rw [hqa] at hqb; exact hne (Option.some.inj hqb))).symm, hw.mod⟩
   ·skip
    try simp only [hasB, isSizeB, Bool.not_eq_true', Bool.not_eq_false', bne_iff_ne, ne_eq, bne_eq_false_iff_eq, beq_iff_eq, beq_eq_false_iff_ne, decide_eq_true_eq, decide_eq_false_iff_not, gt_iff_lt, ge_iff_le] at h15
    have heq := Classical.not_not.1 h15
    refine At.skipC ?_
    refine At.blkN ?_
    refine At.thenN ?_
    refine At.region ?_
    first | refine At.val (Val.addI rfl rfl (by omega) (by omega)) rfl rfl rfl ?_ | refine At.val (Val.bin rfl rfl rfl) rfl rfl rfl ?_
    refine tM rfl rfl ?_
    refine tE ?_
    exact At.again (k + 1) ⟨by omega, by rw [List.take_add_one, List.take_add_one, hs.2, hqa, hqb, heq]⟩ (by omega) (Sub.cons rfl (Sub.cons rfl (Sub.cons rfl (Sub.cons (congrArg (fun z => some (Value.int IntKind.i64 z)) (by omega)) Sub.nil)))) (List.Perm.refl _)
  ·skip
   try simp only [hasB, isSizeB, Bool.not_eq_true', Bool.not_eq_false', bne_iff_ne, ne_eq, bne_eq_false_iff_eq, beq_iff_eq, beq_eq_false_iff_ne, decide_eq_true_eq, decide_eq_false_iff_not, gt_iff_lt, ge_iff_le] at h2
   refine At.exitC ?_
   refine At.thenX ?_
   refine At.thenX ?_
   refine At.blkX ?_
   refine At.thenN ?_
   refine tR ?_
   refine tA rfl rfl ?_
   refine tE ?_
   refine At.retC ?_
   refine At.ret1 (.inl rfl) rfl rfl rfl (fun w hw => ?_)
   exact ⟨retB (decide_eq_true (by have h1 := hs.2; rw [List.take_of_length_le (by omega), List.take_of_length_le (by omega)] at h1; exact h1)).symm, hw.mod⟩
theorem areGood_p (v : Value) (L : List (Int × Int)) (w : World) (ht : Tab w) (hv : RdS w v L) (hlen : L.length ≤ 8796093022144) :
    PureC Tryz.prog 47 [v] (.bool (decide (SpK L L.length))) w := by
 refine enter0 Tryz.func47 rfl Tryz.ntmps47 rfl ?_
 simp only [envOf]
 refine tR ?_
 refine tA rfl rfl ?_
 refine tE ?_
 refine At.seq ?_
 refine tR ?_
 refine tM rfl rfl ?_
 refine At.val (Val.lenRd hv Tryz.underlying35 rfl) rfl rfl rfl ?_
 refine tM rfl rfl ?_
 refine tE ?_
 refine At.block ?_
 skip
 refine At.loop (σ := Nat) (fun k => k ≤ L.length ∧ SpK L k) (fun k => [(0, v), (8, v), (9, .int .i64 (L.length : Int)), (10, .int .i64 (k : Int))]) (fun k => []) (fun k => L.length - k) 0 ⟨Nat.zero_le _, spK_0 L⟩ (Sub.cons rfl (Sub.cons rfl (Sub.cons rfl (Sub.cons rfl Sub.nil)))) (List.Perm.refl _) ?_
 intro k hs
 refine tR ?_
 refine At.val (Val.bin rfl rfl rfl) rfl rfl rfl ?_
 refine tE ?_
 refine At.seq ?_
 refine At.cond rfl (fun h1 => ?_) (fun h1 => ?_)
 ·skip
  try simp only [hasB, isSizeB, Bool.not_eq_true', Bool.not_eq_false', bne_iff_ne, ne_eq, bne_eq_false_iff_eq, beq_iff_eq, beq_eq_false_iff_ne, decide_eq_true_eq, decide_eq_false_iff_not, gt_iff_lt, ge_iff_le] at h1
  obtain ⟨qk, hqk⟩ : ∃ q, L[k]? = some q := ⟨_, List.getElem?_eq_getElem (by omega)⟩
  refine At.skipC ?_
  refine At.thenN ?_
  refine At.seq ?_
  refine At.block ?_
  refine tR ?_
  refine tM rfl rfl ?_
  refine At.idxS hv Tryz.underlying35 Tryz.sizeOf100 rfl rfl (by omega) (by omega) rfl rfl (fun b2 o3 q4 hq5 hc6 hd7 => ?_)
  have hqe : qk = q4 := by have h8 := hq5; rw [Int.toNat_natCast, hqk] at h8; exact Option.some.inj h8
  subst hqe
  refine At.val (Val.loadSpan Tryz.isAgg100 Tryz.sizeOf100 rfl hc6 hd7 (fun h => h)) rfl rfl rfl ?_
  refine At.alloc Tryz.zeroValue100 rfl rfl (fun b8 => ?_)
  refine tA rfl rfl ?_
  refine At.storeAll (i := 0) Tryz.sizeOf100 rfl rfl rfl (by simp [Value.oneCell']) rfl rfl ?_
  simp only [sc0, scS]
  refine tE ?_
  refine tR ?_
  refine At.val (Val.loadAll (i := 0) Tryz.isAgg100 Tryz.sizeOf100 rfl rfl rfl) rfl rfl rfl ?_
  refine At.buildRow (fun a ha => by simp only [List.map_toArray, List.map_cons, List.map_nil, ha.eval (x := (.tmp 15)) rfl]; try rfl) (bs_35_1 _ _ ) 2 rfl (by decide) rfl (fun v9 => ?_)
  change At _ _ (srow 100 v9 [qk] :: _) _
  refine At.rowIs (i := 0) rfl (fun A10 c11 hv => ?_)
  subst hv
  refine At.val (Val.build (fun a ha => by simp only [List.map_toArray, List.map_cons, List.map_nil, ha.eval (x := (.const (.int .u32 (1)))) rfl, ha.eval (x := (.tmp 16)) rfl] <;> rfl) (bld_90_0_1 _ _ _ _ )) rfl rfl rfl ?_
  refine At.alloc Tryz.zeroValue90 rfl rfl (fun b12 => ?_)
  refine At.rowOne (i := 1) rfl (fun ho13 => ?_)
  refine At.storeAll (i := 0) Tryz.sizeOf90 rfl rfl rfl (by intro u hu; simp only [List.mem_cons, List.not_mem_nil, or_false] at hu; rcases hu with rfl | rfl <;> first | rfl | assumption) rfl rfl ?_
  simp only [sc0, scS]
  refine tE ?_
  refine At.seq ?_
  refine tR ?_
  refine At.val (Val.loadAll (i := 0) Tryz.isAgg90 Tryz.sizeOf90 rfl rfl rfl) rfl rfl rfl ?_
  refine At.callNT (g := (fun v => .tuple #[v, .int .i64 (svE 1 [qk])])) (fun w hw => packSv_n 1 _ [qk] w (row_rd (hw.row (i := 1) rfl) (by decide)) (by show 1 ≤ 8796093022144; decide) (ht.mod hw.mod)) Tryz.call49 rfl rfl (fun v14 => ?_)
  by_cases hg : GoodSv 1 [qk]
  ·skip
   rw [svE_T hg]
   refine tM rfl rfl ?_
   refine At.val (Val.extract rfl rfl) rfl rfl rfl ?_
   refine At.val (Val.extract rfl rfl) rfl rfl rfl ?_
   refine tA rfl rfl ?_
   refine tA rfl rfl ?_
   refine tE ?_
   refine tR ?_
   refine tM rfl rfl ?_
   refine At.val (Val.bin rfl rfl rfl) rfl rfl rfl ?_
   refine tE ?_
   refine At.condF rfl ?_
   refine At.skipC ?_
   refine At.thenN ?_
   refine At.seq ?_
   obtain ⟨c0, hc0⟩ : ∃ c0 : Int × Int, 0 < k → L[k - 1]? = some c0 := by
     rcases Nat.eq_zero_or_pos k with h | h
     · exact ⟨(0, 0), fun h' => by omega⟩
     · exact ⟨_, fun _ => List.getElem?_eq_getElem (show k - 1 < L.length by omega)⟩
   have hlo := lo_prev hc0
   have hlb := lo_bd hs.2 hs.1
   have hok5 := (good1 _).1 hg
   have hok6 := hok5
   unfold OkSp at hok6
   refine At.quiet rfl (by decide +kernel) ?_
   refine qM rfl rfl ?_
   refine QAt.val (Val.bin rfl rfl rfl) rfl rfl rfl ?_
   refine QAt.weaken [(0, _), (8, _), (9, _), (10, _), (11, _), (12, _), (13, _), (14, _), (4, _), (3, _), (15, _), (16, _), (17, _), (5, _), (19, _), (20, _), (18, _), (21, _), (22, _), (7, _), (23, _), (24, _), (26, _)] (Sub.cons rfl (Sub.cons rfl (Sub.cons rfl (Sub.cons rfl (Sub.cons rfl (Sub.cons rfl (Sub.cons rfl (Sub.cons rfl (Sub.cons rfl (Sub.cons rfl (Sub.cons rfl (Sub.cons rfl (Sub.cons rfl (Sub.cons rfl (Sub.cons rfl (Sub.cons rfl (Sub.cons rfl (Sub.cons rfl (Sub.cons rfl (Sub.cons rfl (Sub.cons rfl (Sub.cons rfl (Sub.cons rfl Sub.nil))))))))))))))))))))))) ?_
   refine QAt.boolMeet 18 44 (decide (¬ OkSp (loAt L k) qk)) ?_ ?_
   ·skip
    simp only [List.take_succ_cons, List.take_zero]
    refine qM rfl rfl ?_
    refine QAt.split (t := 27) rfl (fun h15 => ?_) (fun h15 => ?_)
    ·skip
     try simp only [hasB, isSizeB, Bool.not_eq_true', Bool.not_eq_false', bne_iff_ne, ne_eq, bne_eq_false_iff_eq, beq_iff_eq, beq_eq_false_iff_ne, decide_eq_true_eq, decide_eq_false_iff_not, gt_iff_lt, ge_iff_le] at h15
     refine QAt.yes rfl rfl ?_
     refine QAt.val (Val.field 0 rfl fo_100_0 rfl) rfl rfl rfl ?_
     refine QAt.yes rfl rfl ?_
     refine QAt.val (Val.load (i := 3) Tryz.isAgg3 rfl rfl rfl) rfl rfl rfl ?_
     refine QAt.yes rfl rfl ?_
     refine qM rfl rfl ?_
     refine QAt.yes rfl rfl ?_
     refine qM rfl rfl ?_
     refine QAt.yes rfl rfl ?_
     first | refine QAt.val (Val.subI rfl rfl (by omega) (by omega)) rfl rfl rfl ?_ | refine QAt.val (Val.bin rfl rfl rfl) rfl rfl rfl ?_
     refine QAt.yes rfl rfl ?_
     refine QAt.idxS hv Tryz.underlying35 Tryz.sizeOf100 rfl rfl (by omega) (by omega) rfl rfl (fun b16 o17 q18 hq19 hc20 hd21 => ?_)
     have hqe : c0 = q18 := by have h9 := hc0 (by omega); have h8 := hq19; rw [show ((k : Int) - 1).toNat = k - 1 by omega, h9] at h8; exact Option.some.inj h8
     subst hqe
     refine QAt.yes rfl rfl ?_
     refine QAt.val (Val.field o17 rfl fo_100_0 rfl) rfl rfl rfl ?_
     refine QAt.yes rfl rfl ?_
     refine QAt.val (Val.loadOld Tryz.isAgg3 rfl hc20 (fun h => h)) rfl rfl rfl ?_
     refine QAt.yes rfl rfl ?_
     refine qM rfl rfl ?_
     refine QAt.yes rfl rfl ?_
     refine qM rfl rfl ?_
     refine QAt.yes rfl rfl ?_
     first | refine QAt.val (Val.subI rfl rfl (by omega) (by omega)) rfl rfl rfl ?_ | refine QAt.val (Val.bin rfl rfl rfl) rfl rfl rfl ?_
     refine QAt.yes rfl rfl ?_
     refine QAt.idxS hv Tryz.underlying35 Tryz.sizeOf100 rfl rfl (by omega) (by omega) rfl rfl (fun b22 o23 q24 hq25 hc26 hd27 => ?_)
     have hqe : c0 = q24 := by have h9 := hc0 (by omega); have h8 := hq25; rw [show ((k : Int) - 1).toNat = k - 1 by omega, h9] at h8; exact Option.some.inj h8
     subst hqe
     refine QAt.yes rfl rfl ?_
     refine QAt.val (Val.field (o23 + 1) rfl fo_100_1 rfl) rfl rfl rfl ?_
     refine QAt.yes rfl rfl ?_
     refine QAt.val (Val.loadOld Tryz.isAgg3 rfl hd27 (fun h => h)) rfl rfl rfl ?_
     refine QAt.yes rfl rfl ?_
     first | refine QAt.val (Val.addI rfl rfl (by omega) (by omega)) rfl rfl rfl ?_ | refine QAt.val (Val.bin rfl rfl rfl) rfl rfl rfl ?_
     refine QAt.yes rfl rfl ?_
     refine QAt.val (Val.bin rfl rfl rfl) rfl rfl rfl ?_
     refine QAt.val (Val.pickT rfl rfl) rfl rfl rfl ?_
     exact QAt.boolEnd rfl (by first | (apply Bool.eq_iff_iff.2; simp only [decide_eq_true_eq, Bool.false_eq_true, false_iff, true_iff]; unfold OkSp at *; omega) | omega) (by repeat (first | exact Sub.nil | refine Sub.cons rfl ?_))
    ·skip
     try simp only [hasB, isSizeB, Bool.not_eq_true', Bool.not_eq_false', bne_iff_ne, ne_eq, bne_eq_false_iff_eq, beq_iff_eq, beq_eq_false_iff_ne, decide_eq_true_eq, decide_eq_false_iff_not, gt_iff_lt, ge_iff_le] at h15
     refine QAt.no rfl rfl rfl rfl ?_
     refine QAt.no rfl rfl rfl rfl ?_
     refine QAt.no rfl rfl rfl rfl ?_
     refine QAt.no rfl rfl rfl rfl ?_
     refine QAt.no rfl rfl rfl rfl ?_
     refine QAt.no rfl rfl rfl rfl ?_
     refine QAt.no rfl rfl rfl rfl ?_
     refine QAt.no rfl rfl rfl rfl ?_
     refine QAt.no rfl rfl rfl rfl ?_
     refine QAt.no rfl rfl rfl rfl ?_
     refine QAt.no rfl rfl rfl rfl ?_
     refine QAt.no rfl rfl rfl rfl ?_
     refine QAt.no rfl rfl rfl rfl ?_
     refine QAt.no rfl rfl rfl rfl ?_
     refine QAt.no rfl rfl rfl rfl ?_
     refine QAt.no rfl rfl rfl rfl ?_
     refine QAt.val (Val.pickF rfl rfl) rfl rfl rfl ?_
     exact QAt.boolEnd rfl (by first | (apply Bool.eq_iff_iff.2; simp only [decide_eq_true_eq, Bool.false_eq_true, false_iff, true_iff]; unfold OkSp at *; omega) | omega) (by repeat (first | exact Sub.nil | refine Sub.cons rfl ?_))
   ·skip
    simp only [List.drop_succ_cons, List.drop_zero]
    refine QAt.fin ?_
    refine At.thenN ?_
    refine At.cond rfl (fun h28 => ?_) (fun h28 => ?_)
    ·skip
     try simp only [hasB, isSizeB, Bool.not_eq_true', Bool.not_eq_false', bne_iff_ne, ne_eq, bne_eq_false_iff_eq, beq_iff_eq, beq_eq_false_iff_ne, decide_eq_true_eq, decide_eq_false_iff_not, gt_iff_lt, ge_iff_le] at h28
     have hno : ¬ OkSp (loAt L k) qk := h28
     refine tR ?_
     refine tA rfl rfl ?_
     refine tE ?_
     refine At.retC ?_
     refine At.blkR ?_
     refine At.thenR ?_
     refine At.thenR ?_
     refine At.blkR ?_
     refine At.thenR ?_
     refine At.ret1 (.inl rfl) rfl rfl rfl (fun w hw => ?_)
     exact ⟨retB (decide_eq_false (spK_bad hqk hno)).symm, hw.mod⟩
    ·skip
     try simp only [hasB, isSizeB, Bool.not_eq_true', Bool.not_eq_false', bne_iff_ne, ne_eq, bne_eq_false_iff_eq, beq_iff_eq, beq_eq_false_iff_ne, decide_eq_true_eq, decide_eq_false_iff_not, gt_iff_lt, ge_iff_le] at h28
     have hyes : OkSp (loAt L k) qk := Classical.not_not.1 h28
     refine At.skipC ?_
     refine At.blkN ?_
     refine At.thenN ?_
     refine At.drop 2 ?_
     simp only [ec0, ecS]
     refine At.drop 0 ?_
     simp only [ec0, ecS]
     refine At.region ?_
     first | refine At.val (Val.addI rfl rfl (by omega) (by omega)) rfl rfl rfl ?_ | refine At.val (Val.bin rfl rfl rfl) rfl rfl rfl ?_
     refine tM rfl rfl ?_
     refine tE ?_
     refine At.drop 1 ?_
     simp only [ec0, ecS]
     refine At.drop 0 ?_
     simp only [ec0, ecS]
     exact At.again (k + 1) ⟨by omega, spK_succ hs.2 hqk hyes⟩ (by omega) (Sub.cons rfl (Sub.cons rfl (Sub.cons rfl (Sub.cons (congrArg (fun z => some (Value.int IntKind.i64 z)) (by omega)) Sub.nil)))) (List.Perm.refl _)
  ·skip
   rw [svE_F hg]
   refine tM rfl rfl ?_
   refine At.val (Val.extract rfl rfl) rfl rfl rfl ?_
   refine At.val (Val.extract rfl rfl) rfl rfl rfl ?_
   refine tA rfl rfl ?_
   refine tA rfl rfl ?_
   refine tE ?_
   refine tR ?_
   refine tM rfl rfl ?_
   refine At.val (Val.bin rfl rfl rfl) rfl rfl rfl ?_
   refine tE ?_
   refine At.condT rfl ?_
   refine tR ?_
   refine tA rfl rfl ?_
   refine tE ?_
   refine At.retC ?_
   refine At.thenR ?_
   refine At.blkR ?_
   refine At.thenR ?_
   refine At.thenR ?_
   refine At.blkR ?_
   refine At.thenR ?_
   refine At.ret1 (.inl rfl) rfl rfl rfl (fun w hw => ?_)
   exact ⟨retB (decide_eq_false (spK_bad5 hs.2 hs.1 hqk (fun h => hg ((good1 _).2 h)))).symm, hw.mod⟩
 ·skip
  try simp only [hasB, isSizeB, Bool.not_eq_true', Bool.not_eq_false', bne_iff_ne, ne_eq, bne_eq_false_iff_eq, beq_iff_eq, beq_eq_false_iff_ne, decide_eq_true_eq, decide_eq_false_iff_not, gt_iff_lt, ge_iff_le] at h1
  refine At.exitC ?_
  refine At.thenX ?_
  refine At.thenX ?_
  refine At.blkX ?_
  refine At.thenN ?_
  refine tR ?_
  refine tA rfl rfl ?_
  refine tE ?_
  refine At.retC ?_
  refine At.ret1 (.inl rfl) rfl rfl rfl (fun w hw => ?_)
  exact ⟨retB (decide_eq_true (by have h9 := hs.2; rwa [show k = L.length by omega] at h9)).symm, hw.mod⟩
theorem goodR13_p (v : Value) (L : List (Int × Int)) (w : World) (hv : RdS w v L) (hlen : L.length ≤ 8796093022144) :
    PureC Tryz.prog 52 [v] (.bool (decide (SpK L L.length))) w := by
 refine enter0 Tryz.func52 rfl Tryz.ntmps52 rfl ?_
 simp only [envOf]
 refine tR ?_
 refine tA rfl rfl ?_
 refine tE ?_
 refine At.seq ?_
 refine tR ?_
 refine tA rfl rfl ?_
 refine tE ?_
 refine At.block ?_
 skip
 refine At.loop (σ := Nat) (fun k => k ≤ L.length ∧ SpK L k) (fun k => [(0, v), (3, .int .i64 (k : Int))]) (fun k => []) (fun k => L.length - k) 0 ⟨Nat.zero_le _, spK_0 L⟩ (Sub.cons rfl (Sub.cons rfl Sub.nil)) (List.Perm.refl _) ?_
 intro k hs
 refine At.seq ?_
 refine tR ?_
 refine tM rfl rfl ?_
 refine tM rfl rfl ?_
 refine At.val (Val.lenRd hv Tryz.underlying35 rfl) rfl rfl rfl ?_
 refine At.val (Val.bin rfl rfl rfl) rfl rfl rfl ?_
 refine tE ?_
 refine At.cond rfl (fun h1 => ?_) (fun h1 => ?_)
 ·skip
  try simp only [hasB, isSizeB, Bool.not_eq_true', Bool.not_eq_false', bne_iff_ne, ne_eq, bne_eq_false_iff_eq, beq_iff_eq, beq_eq_false_iff_ne, decide_eq_true_eq, decide_eq_false_iff_not, gt_iff_lt, ge_iff_le] at h1
  obtain ⟨qk, hqk⟩ : ∃ q, L[k]? = some q := ⟨_, List.getElem?_eq_getElem (by omega)⟩
  refine At.skipC ?_
  refine At.thenN ?_
  refine At.seq ?_
  refine At.block ?_
  refine tR ?_
  refine tM rfl rfl ?_
  refine tM rfl rfl ?_
  refine tM rfl rfl ?_
  first | refine At.val (Val.addI rfl rfl (by omega) (by omega)) rfl rfl rfl ?_ | refine At.val (Val.bin rfl rfl rfl) rfl rfl rfl ?_
  refine At.cutS k (k + 1) hv Tryz.underlying35 Tryz.sizeOf100 rfl ⟨_, _, rfl, by omega, by omega⟩ ⟨_, _, rfl, by omega, by omega⟩ (by omega) (by omega) rfl rfl (fun v1 hv1 => ?_)
  rw [drop_one hqk] at hv1
  obtain ⟨A1, c1, hv1e, _⟩ := id hv1
  subst hv1e
  refine At.val (Val.build (fun a ha => by simp only [List.map_toArray, List.map_cons, List.map_nil, ha.eval (x := (.const (.int .u32 (1)))) rfl, ha.eval (x := (.tmp 17)) rfl] <;> rfl) (bld_90_0_1 _ _ _ _ )) rfl rfl rfl ?_
  refine At.callNT (g := (fun v => .tuple #[v, .int .i64 (svE 1 [qk])])) (fun w hw => packSvR_n 1 _ [qk] w (hv1.mod hw.mod) (by show 1 ≤ 8796093022144; decide)) Tryz.call54 rfl rfl (fun v2 => ?_)
  by_cases hg : GoodSv 1 [qk]
  ·skip
   rw [svE_T hg]
   refine tM rfl rfl ?_
   refine At.val (Val.extract rfl rfl) rfl rfl rfl ?_
   refine At.val (Val.extract rfl rfl) rfl rfl rfl ?_
   refine tA rfl rfl ?_
   refine tA rfl rfl ?_
   refine tE ?_
   refine At.seq ?_
   refine tR ?_
   refine tM rfl rfl ?_
   refine At.val (Val.bin rfl rfl rfl) rfl rfl rfl ?_
   refine tE ?_
   refine At.condF rfl ?_
   refine At.skipC ?_
   refine At.thenN ?_
   refine At.seq ?_
   obtain ⟨c0, hc0⟩ : ∃ c0 : Int × Int, 0 < k → L[k - 1]? = some c0 := by
     rcases Nat.eq_zero_or_pos k with h | h
     · exact ⟨(0, 0), fun h' => by omega⟩
     · exact ⟨_, fun _ => List.getElem?_eq_getElem (show k - 1 < L.length by omega)⟩
   have hlo := lo_prev hc0
   have hlb := lo_bd hs.2 hs.1
   have hok5 := (good1 _).1 hg
   have hok6 := hok5
   unfold OkSp at hok6
   refine At.quiet rfl (by decide +kernel) ?_
   refine qM rfl rfl ?_
   refine QAt.val (Val.bin rfl rfl rfl) rfl rfl rfl ?_
   refine QAt.weaken [(0, _), (3, _), (6, _), (7, _), (8, _), (9, _), (13, _), (14, _), (15, _), (16, _), (17, _), (18, _), (19, _), (12, _), (20, _), (21, _), (5, _), (22, _), (23, _), (25, _)] (Sub.cons rfl (Sub.cons rfl (Sub.cons rfl (Sub.cons rfl (Sub.cons rfl (Sub.cons rfl (Sub.cons rfl (Sub.cons rfl (Sub.cons rfl (Sub.cons rfl (Sub.cons rfl (Sub.cons rfl (Sub.cons rfl (Sub.cons rfl (Sub.cons rfl (Sub.cons rfl (Sub.cons rfl (Sub.cons rfl (Sub.cons rfl (Sub.cons rfl Sub.nil)))))))))))))))))))) ?_
   refine QAt.boolMeet 21 46 (decide (¬ OkSp (loAt L k) qk)) ?_ ?_
   ·skip
    simp only [List.take_succ_cons, List.take_zero]
    refine qM rfl rfl ?_
    refine QAt.split (t := 26) rfl (fun h3 => ?_) (fun h3 => ?_)
    ·skip
     try simp only [hasB, isSizeB, Bool.not_eq_true', Bool.not_eq_false', bne_iff_ne, ne_eq, bne_eq_false_iff_eq, beq_iff_eq, beq_eq_false_iff_ne, decide_eq_true_eq, decide_eq_false_iff_not, gt_iff_lt, ge_iff_le] at h3
     refine QAt.yes rfl rfl ?_
     refine qM rfl rfl ?_
     refine QAt.yes rfl rfl ?_
     refine qM rfl rfl ?_
     refine QAt.yes rfl rfl ?_
     refine QAt.idxS hv Tryz.underlying35 Tryz.sizeOf100 rfl rfl (by omega) (by omega) rfl rfl (fun b4 o5 q6 hq7 hc8 hd9 => ?_)
     have hqe : qk = q6 := by have h8 := hq7; rw [Int.toNat_natCast, hqk] at h8; exact Option.some.inj h8
     subst hqe
     refine QAt.yes rfl rfl ?_
     refine QAt.val (Val.field o5 rfl fo_100_0 rfl) rfl rfl rfl ?_
     refine QAt.yes rfl rfl ?_
     refine QAt.val (Val.loadOld Tryz.isAgg3 rfl hc8 (fun h => h)) rfl rfl rfl ?_
     refine QAt.yes rfl rfl ?_
     refine qM rfl rfl ?_
     refine QAt.yes rfl rfl ?_
     refine qM rfl rfl ?_
     refine QAt.yes rfl rfl ?_
     first | refine QAt.val (Val.subI rfl rfl (by omega) (by omega)) rfl rfl rfl ?_ | refine QAt.val (Val.bin rfl rfl rfl) rfl rfl rfl ?_
     refine QAt.yes rfl rfl ?_
     refine QAt.idxS hv Tryz.underlying35 Tryz.sizeOf100 rfl rfl (by omega) (by omega) rfl rfl (fun b10 o11 q12 hq13 hc14 hd15 => ?_)
     have hqe : c0 = q12 := by have h9 := hc0 (by omega); have h8 := hq13; rw [show ((k : Int) - 1).toNat = k - 1 by omega, h9] at h8; exact Option.some.inj h8
     subst hqe
     refine QAt.yes rfl rfl ?_
     refine QAt.val (Val.field o11 rfl fo_100_0 rfl) rfl rfl rfl ?_
     refine QAt.yes rfl rfl ?_
     refine QAt.val (Val.loadOld Tryz.isAgg3 rfl hc14 (fun h => h)) rfl rfl rfl ?_
     refine QAt.yes rfl rfl ?_
     refine qM rfl rfl ?_
     refine QAt.yes rfl rfl ?_
     refine qM rfl rfl ?_
     refine QAt.yes rfl rfl ?_
     first | refine QAt.val (Val.subI rfl rfl (by omega) (by omega)) rfl rfl rfl ?_ | refine QAt.val (Val.bin rfl rfl rfl) rfl rfl rfl ?_
     refine QAt.yes rfl rfl ?_
     refine QAt.idxS hv Tryz.underlying35 Tryz.sizeOf100 rfl rfl (by omega) (by omega) rfl rfl (fun b16 o17 q18 hq19 hc20 hd21 => ?_)
     have hqe : c0 = q18 := by have h9 := hc0 (by omega); have h8 := hq19; rw [show ((k : Int) - 1).toNat = k - 1 by omega, h9] at h8; exact Option.some.inj h8
     subst hqe
     refine QAt.yes rfl rfl ?_
     refine QAt.val (Val.field (o17 + 1) rfl fo_100_1 rfl) rfl rfl rfl ?_
     refine QAt.yes rfl rfl ?_
     refine QAt.val (Val.loadOld Tryz.isAgg3 rfl hd21 (fun h => h)) rfl rfl rfl ?_
     refine QAt.yes rfl rfl ?_
     first | refine QAt.val (Val.addI rfl rfl (by omega) (by omega)) rfl rfl rfl ?_ | refine QAt.val (Val.bin rfl rfl rfl) rfl rfl rfl ?_
     refine QAt.yes rfl rfl ?_
     refine QAt.val (Val.bin rfl rfl rfl) rfl rfl rfl ?_
     refine QAt.val (Val.pickT rfl rfl) rfl rfl rfl ?_
     exact QAt.boolEnd rfl (by first | (apply Bool.eq_iff_iff.2; simp only [decide_eq_true_eq, Bool.false_eq_true, false_iff, true_iff]; unfold OkSp at *; omega) | omega) (by repeat (first | exact Sub.nil | refine Sub.cons rfl ?_))
    ·skip
     try simp only [hasB, isSizeB, Bool.not_eq_true', Bool.not_eq_false', bne_iff_ne, ne_eq, bne_eq_false_iff_eq, beq_iff_eq, beq_eq_false_iff_ne, decide_eq_true_eq, decide_eq_false_iff_not, gt_iff_lt, ge_iff_le] at h3
     refine QAt.no rfl rfl rfl rfl ?_
     refine QAt.no rfl rfl rfl rfl ?_
     refine QAt.no rfl rfl rfl rfl ?_
     refine QAt.no rfl rfl rfl rfl ?_
     refine QAt.no rfl rfl rfl rfl ?_
     refine QAt.no rfl rfl rfl rfl ?_
     refine QAt.no rfl rfl rfl rfl ?_
     refine QAt.no rfl rfl rfl rfl ?_
     refine QAt.no rfl rfl rfl rfl ?_
     refine QAt.no rfl rfl rfl rfl ?_
     refine QAt.no rfl rfl rfl rfl ?_
     refine QAt.no rfl rfl rfl rfl ?_
     refine QAt.no rfl rfl rfl rfl ?_
     refine QAt.no rfl rfl rfl rfl ?_
     refine QAt.no rfl rfl rfl rfl ?_
     refine QAt.no rfl rfl rfl rfl ?_
     refine QAt.no rfl rfl rfl rfl ?_
     refine QAt.no rfl rfl rfl rfl ?_
     refine QAt.no rfl rfl rfl rfl ?_
     refine QAt.val (Val.pickF rfl rfl) rfl rfl rfl ?_
     exact QAt.boolEnd rfl (by first | (apply Bool.eq_iff_iff.2; simp only [decide_eq_true_eq, Bool.false_eq_true, false_iff, true_iff]; unfold OkSp at *; omega) | omega) (by repeat (first | exact Sub.nil | refine Sub.cons rfl ?_))
   ·skip
    simp only [List.drop_succ_cons, List.drop_zero]
    refine QAt.fin ?_
    refine At.thenN ?_
    refine At.cond rfl (fun h22 => ?_) (fun h22 => ?_)
    ·skip
     try simp only [hasB, isSizeB, Bool.not_eq_true', Bool.not_eq_false', bne_iff_ne, ne_eq, bne_eq_false_iff_eq, beq_iff_eq, beq_eq_false_iff_ne, decide_eq_true_eq, decide_eq_false_iff_not, gt_iff_lt, ge_iff_le] at h22
     have hno : ¬ OkSp (loAt L k) qk := h22
     refine tR ?_
     refine tA rfl rfl ?_
     refine tE ?_
     refine At.retC ?_
     refine At.blkR ?_
     refine At.thenR ?_
     refine At.thenR ?_
     refine At.blkR ?_
     refine At.thenR ?_
     refine At.ret1 (.inl rfl) rfl rfl rfl (fun w hw => ?_)
     exact ⟨retB (decide_eq_false (spK_bad hqk hno)).symm, hw.mod⟩
    ·skip
     try simp only [hasB, isSizeB, Bool.not_eq_true', Bool.not_eq_false', bne_iff_ne, ne_eq, bne_eq_false_iff_eq, beq_iff_eq, beq_eq_false_iff_ne, decide_eq_true_eq, decide_eq_false_iff_not, gt_iff_lt, ge_iff_le] at h22
     have hyes : OkSp (loAt L k) qk := Classical.not_not.1 h22
     refine At.skipC ?_
     refine At.blkN ?_
     refine At.thenN ?_
     refine At.drop 0 ?_
     simp only [ec0, ecS]
     refine At.region ?_
     refine tM rfl rfl ?_
     first | refine At.val (Val.addI rfl rfl (by omega) (by omega)) rfl rfl rfl ?_ | refine At.val (Val.bin rfl rfl rfl) rfl rfl rfl ?_
     refine tA rfl rfl ?_
     refine tE ?_
     exact At.again (k + 1) ⟨by omega, spK_succ hs.2 hqk hyes⟩ (by omega) (Sub.cons rfl (Sub.cons (congrArg (fun z => some (Value.int IntKind.i64 z)) (by omega)) Sub.nil)) (List.Perm.refl _)
  ·skip
   rw [svE_F hg]
   refine tM rfl rfl ?_
   refine At.val (Val.extract rfl rfl) rfl rfl rfl ?_
   refine At.val (Val.extract rfl rfl) rfl rfl rfl ?_
   refine tA rfl rfl ?_
   refine tA rfl rfl ?_
   refine tE ?_
   refine At.seq ?_
   refine tR ?_
   refine tM rfl rfl ?_
   refine At.val (Val.bin rfl rfl rfl) rfl rfl rfl ?_
   refine tE ?_
   refine At.condT rfl ?_
   refine tR ?_
   refine tA rfl rfl ?_
   refine tE ?_
   refine At.retC ?_
   refine At.thenR ?_
   refine At.blkR ?_
   refine At.thenR ?_
   refine At.thenR ?_
   refine At.blkR ?_
   refine At.thenR ?_
   refine At.ret1 (.inl rfl) rfl rfl rfl (fun w hw => ?_)
   exact ⟨retB (decide_eq_false (spK_bad5 hs.2 hs.1 hqk (fun h => hg ((good1 _).2 h)))).symm, hw.mod⟩
 ·skip
  try simp only [hasB, isSizeB, Bool.not_eq_true', Bool.not_eq_false', bne_iff_ne, ne_eq, bne_eq_false_iff_eq, beq_iff_eq, beq_eq_false_iff_ne, decide_eq_true_eq, decide_eq_false_iff_not, gt_iff_lt, ge_iff_le] at h1
  refine At.exitC ?_
  refine At.thenX ?_
  refine At.thenX ?_
  refine At.blkX ?_
  refine At.thenN ?_
  refine tR ?_
  refine tA rfl rfl ?_
  refine tE ?_
  refine At.retC ?_
  refine At.ret1 (.inl rfl) rfl rfl rfl (fun w hw => ?_)
  exact ⟨retB (decide_eq_true (by have h9 := hs.2; rwa [show k = L.length by omega] at h9)).symm, hw.mod⟩
end Go.Proofs.YthhkbbodhghmcaaGreatDoor
set_option linter.unusedVariables false
set_option linter.unusedSimpArgs false
namespace Go.Proofs.YthhkbbodhghmcaaGreatDoor
open Go Go.Wk
/-- The clean word made v; the record's bytes written: flushed and fenced. -/
def cleanA (v : BitVec 32) : List Ac := [.st 16 (sealW (BitVec.ofInt 64 128) v), .fl 2, .fe]
def recS (b : List UInt8) : List Ac := stA 128 (wordsL b (b.length / 8))
def recF (b : List UInt8) : List Ac := flA 16 (cntL 1024 b.length)
def recA (b : List UInt8) : List Ac := recS b ++ (recF b ++ [.fe])
theorem cleanA_ok {n : Nat} (v : BitVec 32) (h : 16 < n) : ∀ a ∈ cleanA v, AcOk n a := by
  intro a ha
  rcases List.mem_cons.1 ha with rfl | ha
  · exact h
  rcases List.mem_cons.1 ha with rfl | ha
  · show 8 * 2 < n; omega
  · rw [List.mem_singleton.1 ha]; trivial
theorem cntR_le (b : List UInt8) (h : b.length ≤ 1024) : cntL 1024 b.length ≤ 16 := by unfold cntL; split <;> omega
theorem cntL_in {n : Nat} (b : List UInt8) (h : 1024 + b.length ≤ 8 * n) : 8 * (16 + cntL 1024 b.length) < n + 8 := by unfold cntL; split <;> omega
theorem recS_ok {n : Nat} (b : List UInt8) (h : 1024 + b.length ≤ 8 * n) : ∀ a ∈ recS b, AcOk n a := stA_ok _ _ (by rw [wordsL_length]; omega)
theorem recF_ok {n : Nat} (b : List UInt8) (h : 1024 + b.length ≤ 8 * n) (h0 : 0 < n) : ∀ a ∈ recF b, AcOk n a := flA_ok _ _ (cntL_in b h)
theorem recA_ok {n : Nat} (b : List UInt8) (h : 1024 + b.length ≤ 8 * n) (h0 : 0 < n) : ∀ a ∈ recA b, AcOk n a := by
  intro a ha
  unfold recA at ha
  rcases List.mem_append.1 ha with ha | ha
  · exact recS_ok b h a ha
  rcases List.mem_append.1 ha with ha | ha
  · exact recF_ok b h h0 a ha
  · rw [List.mem_singleton.1 ha]; trivial
theorem recS_len (b : List UInt8) : (recS b).length = b.length / 8 := by unfold recS; rw [stA_len, wordsL_length]
theorem recF_len (b : List UInt8) (h : b.length ≤ 1024) : (recF b).length ≤ 16 := by unfold recF; rw [flA_len]; exact cntR_le b h
theorem recA_len (b : List UInt8) (h : b.length ≤ 1024) : (recA b).length ≤ 145 := by
  unfold recA
  rw [List.length_append, List.length_append, recS_len, List.length_singleton]
  have := recF_len b h
  omega
def nowAt (σ : Ds) (k : Nat) : BitVec 64 := match σ.ws[k]? with | some w => nowW w | none => 0
theorem nowAt_some {σ : Ds} {k : Nat} {w : Wd} (h : σ.ws[k]? = some w) : nowAt σ k = nowW w := by unfold nowAt; rw [h]
noncomputable def stampD (σ : Ds) : BitVec 32 := nextT (wbytes (viewWs σ.ws))
noncomputable def saveF (σ : Ds) : List Ac := if nowAt σ 16 = 0 then [] else cleanA 0
noncomputable def saveA (σ : Ds) (L : List (Int × Int)) : List Ac := saveF σ ++ (recA (svB (stampD σ) L) ++ cleanA (stampD σ))
/-- Save: its answers and the device behind it. -/
noncomputable def saveE (σ : Ds) (L : List (Int × Int)) : Bool × Int × Ds :=
  if ¬ SpK L L.length then (false, 36, σ) else if 8 * σ.ws.length < 2048 then (false, 11, σ) else if 249 < L.length then (false, 0, σ) else (decide ((actsE σ (saveA σ L)).1 = 0), (actsE σ (saveA σ L)).1, (actsE σ (saveA σ L)).2)
theorem saveF_ok {σ : Ds} (h : 16 < σ.ws.length) : ∀ a ∈ saveF σ, AcOk σ.ws.length a := by
  unfold saveF
  split
  · intro a ha; cases ha
  · exact cleanA_ok 0 h
theorem saveF_len (σ : Ds) : (saveF σ).length ≤ 3 := by unfold saveF; split <;> simp [cleanA]
theorem saveA_ok {σ : Ds} {L : List (Int × Int)} (h : 2048 ≤ 8 * σ.ws.length) (hl : (svB (stampD σ) L).length ≤ 1024) : ∀ a ∈ saveA σ L, AcOk σ.ws.length a := by
  intro a ha
  unfold saveA at ha
  rcases List.mem_append.1 ha with ha | ha
  · exact saveF_ok (by omega) a ha
  rcases List.mem_append.1 ha with ha | ha
  · exact recA_ok _ (by omega) (by omega) a ha
  · exact cleanA_ok _ (by omega) a ha
theorem saveA_len {σ : Ds} {L : List (Int × Int)} (hl : (svB (stampD σ) L).length ≤ 1024) : (saveA σ L).length ≤ 160 := by
  unfold saveA
  rw [List.length_append, List.length_append]
  have h1 := saveF_len σ
  have h2 := recA_len _ hl
  have h3 : (cleanA (stampD σ)).length = 3 := rfl
  omega
theorem svB_le {t : BitVec 32} {L : List (Int × Int)} (h : L.length ≤ 249) : (svB t L).length ≤ 1024 ∧ (svB t L).length % 8 = 0 := by rw [svB_length]; omega
theorem saveE_rest {σ : Ds} {L : List (Int × Int)} : (saveE σ L).2.2.ws.length = σ.ws.length ∧ (saveE σ L).2.2.steps ≤ σ.steps + 160 ∧ (saveE σ L).2.2.armed = σ.armed := by
  unfold saveE
  split
  · exact ⟨rfl, Nat.le_add_right _ _, rfl⟩
  split
  · exact ⟨rfl, Nat.le_add_right _ _, rfl⟩
  split
  · exact ⟨rfl, Nat.le_add_right _ _, rfl⟩
  · have hl := (svB_le (t := stampD σ) (L := L) (by omega)).1
    obtain ⟨h1, h2, h3, _⟩ := actsE_rest (saveA σ L) σ (saveA_ok (by omega) hl)
    have := saveA_len (σ := σ) hl
    exact ⟨h1, by show (actsE σ (saveA σ L)).2.steps ≤ _; omega, h3⟩
theorem pair_eq {α β : Type} {x : α × β} {a : α} (h : x.1 = a) : x = (a, x.2) := Prod.ext h rfl
theorem setClean_d (p : Nat) (γ : Gh) (σ : Ds) (v : BitVec 32) (w : World) (ht : Tab w) (hf : ¬ feet [Dev p γ σ] 0) (hn : 16 < σ.ws.length) (hst : σ.steps + 3 ≤ 1099511627776) (hd : (Dev p γ σ).holds w) :
    DevU Tryz.prog 37 [.pointer (some ⟨p, 0, none⟩), b32 v] p γ σ (.int .i64 (actsE σ (cleanA v)).1) (actsE σ (cleanA v)).2 w := by
 refine enterVc hd Tryz.func37 rfl Tryz.ntmps37 rfl ?_
 have hgd := Dev.good hd
 obtain ⟨wd, hwd⟩ : ∃ wd, σ.ws[16]? = some wd := ⟨_, List.getElem?_eq_getElem hn⟩
 obtain ⟨X, hX⟩ : ∃ X, X = (sealW (BitVec.ofInt 64 128) v) := ⟨_, rfl⟩
 obtain ⟨a1, a2, a3⟩ := storeD_rest X hn
 obtain ⟨b1, b2, b3⟩ := lineD_rest (storeD σ 16 X) 2
 simp only [envOf]
 refine tR ?_
 refine tA rfl rfl ?_
 refine tE ?_
 refine At.seq ?_
 refine tR ?_
 refine tM rfl rfl ?_
 refine tM rfl rfl ?_
 refine At.callP (fun w hw => seal_p 128 v w (ht.modS hw.mod hf)) Tryz.call82 rfl rfl ?_
 rw [← hX]
 cases hd1 : deadB σ
 ·skip
  refine At.callD 0 rfl (fun w hw hr => (storeD_some (x := X) hwd) ▸ store_d _ _ _ 16 wd X w hwd (by omega) hd1 hr) Tryz.call25 rfl rfl (fun y1 => ?_)
  simp only [sc0, scS]
  refine tA rfl rfl ?_
  refine tE ?_
  refine tR ?_
  refine tM rfl rfl ?_
  refine At.val (Val.bin rfl rfl rfl) rfl rfl rfl ?_
  refine tE ?_
  refine At.condF rfl ?_
  refine At.skipC ?_
  refine At.thenN ?_
  refine At.seq ?_
  refine tR ?_
  refine tM rfl rfl ?_
  cases hd2 : deadB (storeD σ 16 X)
  ·skip
   refine At.callD 0 rfl (fun w hw hr => flush_d _ _ _ 128 (8 * 2) w (by omega) (by omega) (by omega) (by omega) hd2 hr) Tryz.call78 rfl rfl (fun y2 => ?_)
   simp only [sc0, scS]
   refine tA rfl rfl ?_
   refine tE ?_
   refine tR ?_
   refine tM rfl rfl ?_
   refine At.val (Val.bin rfl rfl rfl) rfl rfl rfl ?_
   refine tE ?_
   refine At.condF rfl ?_
   refine At.skipC ?_
   refine At.thenN ?_
   refine tR ?_
   refine tM rfl rfl ?_
   cases hd3 : deadB (lineD (storeD σ 16 X) 2)
   ·skip
    refine At.callD 0 rfl (fun w hw hr => fence_d _ _ (lineD (storeD σ 16 X) 2) w (by omega) hd3 hr) Tryz.call29 rfl rfl (fun y3 => ?_)
    simp only [sc0, scS]
    refine tA rfl rfl ?_
    refine tE ?_
    refine At.retC ?_
    refine At.ret1 (.inl rfl) rfl rfl rfl (fun w hw => ?_)
    have e : actsE σ (cleanA v) = (0, fenceD (stepD (lineD (storeD σ 16 X) 2))) := by unfold cleanA; rw [← hX, actsE_live hd1, actsE_live (a := .fl 2) (σ := stepA σ (.st 16 X)) hd2, actsE_live (a := .fe) (σ := stepA (stepA σ (.st 16 X)) (.fl 2)) hd3]; rfl
    rw [e]
    exact ⟨_, rfl, hw⟩
   ·skip
    refine At.callK 0 rfl (fun w hw hr => fence_0 _ _ _ w hd3 hr) Tryz.call29 rfl rfl ?_
    refine tA rfl rfl ?_
    refine tE ?_
    refine At.retC ?_
    refine At.ret1 (.inl rfl) rfl rfl rfl (fun w hw => ?_)
    have e : actsE σ (cleanA v) = (13, lineD (storeD σ 16 X) 2) := by unfold cleanA; rw [← hX, actsE_live hd1, actsE_live (a := .fl 2) (σ := stepA σ (.st 16 X)) hd2, actsE_dead (a := .fe) (σ := stepA (stepA σ (.st 16 X)) (.fl 2)) hd3]; rfl
    rw [e]
    exact ⟨_, rfl, hw⟩
  ·skip
   refine At.callK 0 rfl (fun w hw hr => flush_0 _ _ _ _ w (by omega) (by omega) hd2 hr) Tryz.call78 rfl rfl ?_
   refine tA rfl rfl ?_
   refine tE ?_
   refine tR ?_
   refine tM rfl rfl ?_
   refine At.val (Val.bin rfl rfl rfl) rfl rfl rfl ?_
   refine tE ?_
   refine At.condT rfl ?_
   refine tR ?_
   refine tM rfl rfl ?_
   refine tA rfl rfl ?_
   refine tE ?_
   refine At.retC ?_
   refine At.thenR ?_
   refine At.ret1 (.inl rfl) rfl rfl rfl (fun w hw => ?_)
   have e : actsE σ (cleanA v) = (13, storeD σ 16 X) := by unfold cleanA; rw [← hX, actsE_live hd1, actsE_dead (a := .fl 2) (σ := stepA σ (.st 16 X)) hd2]; rfl
   rw [e]
   exact ⟨_, rfl, hw⟩
 ·skip
  refine At.callK 0 rfl (fun w hw hr => store_0 _ _ _ _ _ w (place_at' (by omega) (by omega) (by omega)) hd1 hr) Tryz.call25 rfl rfl ?_
  refine tA rfl rfl ?_
  refine tE ?_
  refine tR ?_
  refine tM rfl rfl ?_
  refine At.val (Val.bin rfl rfl rfl) rfl rfl rfl ?_
  refine tE ?_
  refine At.condT rfl ?_
  refine tR ?_
  refine tM rfl rfl ?_
  refine tA rfl rfl ?_
  refine tE ?_
  refine At.retC ?_
  refine At.thenR ?_
  refine At.ret1 (.inl rfl) rfl rfl rfl (fun w hw => ?_)
  have e : actsE σ (cleanA v) = (13, σ) := by unfold cleanA; rw [← hX, actsE_dead hd1]
  rw [e]
  exact ⟨_, rfl, hw⟩
theorem forget_d (p : Nat) (γ : Gh) (σ : Ds) (w : World) (ht : Tab w) (hf : ¬ feet [Dev p γ σ] 0) (hn : 16 < σ.ws.length) (hst : σ.steps + 3 ≤ 1099511627776) (hd : (Dev p γ σ).holds w) :
    DevU Tryz.prog 13 [.pointer (some ⟨p, 0, none⟩)] p γ σ (.int .i64 (actsE σ (cleanA 0)).1) (actsE σ (cleanA 0)).2 w := by
 refine enterVc hd Tryz.func13 rfl Tryz.ntmps13 rfl ?_
 have hgd := Dev.good hd
 simp only [envOf]
 refine tR ?_
 refine tA rfl rfl ?_
 refine tE ?_
 refine tR ?_
 refine tM rfl rfl ?_
 refine At.callD 0 rfl (fun w hw hr => setClean_d _ _ _ 0 w (ht.modS hw.mod hf) hf hn hst hr) Tryz.call37 rfl rfl (fun y1 => ?_)
 simp only [sc0, scS]
 refine tA rfl rfl ?_
 refine tE ?_
 refine At.retC ?_
 refine At.ret1 (.inl rfl) rfl rfl rfl (fun w hw => ?_)
 exact ⟨_, rfl, hw⟩
theorem writeRec_d (p : Nat) (γ : Gh) (σ : Ds) (v : Value) (lb : List UInt8) (w : World) (hv : RdB w v lb) (ho : Off v (lb.map bv) (feet [Dev p γ σ])) (h8 : lb.length % 8 = 0) (hl : lb.length ≤ 1024) (hn : 1024 + lb.length ≤ 8 * σ.ws.length) (hst : σ.steps + 145 ≤ 1099511627776) (hd : (Dev p γ σ).holds w) :
    DevU Tryz.prog 51 [.pointer (some ⟨p, 0, none⟩), v] p γ σ (.int .i64 (actsE σ (recA lb)).1) (actsE σ (recA lb)).2 w := by
 obtain ⟨A, c, rfl⟩ : ∃ A c, v = .slice A lb.length c := by obtain ⟨A, c, h, _⟩ := hv; exact ⟨A, c, h⟩
 refine enterVc hd Tryz.func51 rfl Tryz.ntmps51 rfl ?_
 have hgd := Dev.good hd
 have hps := hgd.pos
 obtain ⟨r1, r2, r3, _⟩ := actsE_rest (recS lb) σ (recS_ok lb hn)
 obtain ⟨q1, q2, q3, _⟩ := actsE_rest (recF lb) (actsE σ (recS lb)).2 (by rw [r1]; exact recF_ok lb hn (by omega))
 have n1 := recS_len lb
 have n2 := recF_len lb hl
 have n3 := cntR_le lb hl
 simp only [envOf]
 refine tR ?_
 refine tA rfl rfl ?_
 refine tE ?_
 refine At.seq ?_
 refine tR ?_
 refine tM rfl rfl ?_
 refine tM rfl rfl ?_
 have e01 := actsE_01 (recS lb) σ
 rcases e01 with h1 | h1
 ·skip
  refine At.callD 0 rfl (fun w hw hr => (by have h0 := write_d _ _ _ 128 (lb.length / 8) _ lb w (hv.keep hw ho) ho (by omega) (by omega) (by omega) hr; rw [storesE_acts, show stA 128 (wordsL lb (lb.length / 8)) = recS lb from rfl, h1] at h0; exact h0)) Tryz.call91 rfl rfl (fun y1 => ?_)
  simp only [sc0, scS]
  refine tA rfl rfl ?_
  refine tE ?_
  refine tR ?_
  refine tM rfl rfl ?_
  refine At.val (Val.bin rfl rfl rfl) rfl rfl rfl ?_
  refine tE ?_
  refine At.condF rfl ?_
  refine At.skipC ?_
  refine At.thenN ?_
  refine At.seq ?_
  refine tR ?_
  refine tM rfl rfl ?_
  refine tM rfl rfl ?_
  refine At.val (Val.lenRd hv Tryz.underlying59 rfl) rfl rfl rfl ?_
  have e01 := actsE_01 (recF lb) (actsE σ (recS lb)).2
  rcases e01 with h2 | h2
  ·skip
   refine At.callD 0 rfl (fun w hw hr => (by have h0 := flushAll_d _ _ _ 1024 lb.length (cntL 1024 lb.length) w (by omega) (cntL_P _ _) (by omega) hr; rw [linesE_acts, show flA (1024 / 64) (cntL 1024 lb.length) = recF lb from rfl, h2] at h0; exact h0)) Tryz.call27 rfl rfl (fun y2 => ?_)
   simp only [sc0, scS]
   refine tA rfl rfl ?_
   refine tE ?_
   refine tR ?_
   refine tM rfl rfl ?_
   refine At.val (Val.bin rfl rfl rfl) rfl rfl rfl ?_
   refine tE ?_
   refine At.condF rfl ?_
   refine At.skipC ?_
   refine At.thenN ?_
   refine tR ?_
   refine tM rfl rfl ?_
   cases hd3 : deadB (actsE (actsE σ (recS lb)).2 (recF lb)).2
   ·skip
    refine At.callD 0 rfl (fun w hw hr => fence_d _ _ _ w (by omega) hd3 hr) Tryz.call29 rfl rfl (fun y3 => ?_)
    simp only [sc0, scS]
    refine tA rfl rfl ?_
    refine tE ?_
    refine At.retC ?_
    refine At.ret1 (.inl rfl) rfl rfl rfl (fun w hw => ?_)
    have e : actsE σ (recA lb) = (0, fenceD (stepD (actsE (actsE σ (recS lb)).2 (recF lb)).2)) := by unfold recA; rw [actsE_go h1, actsE_go h2]; rw [actsE_live (a := .fe) hd3]; rfl
    rw [e]
    exact ⟨_, rfl, hw⟩
   ·skip
    refine At.callK 0 rfl (fun w hw hr => fence_0 _ _ _ w hd3 hr) Tryz.call29 rfl rfl ?_
    refine tA rfl rfl ?_
    refine tE ?_
    refine At.retC ?_
    refine At.ret1 (.inl rfl) rfl rfl rfl (fun w hw => ?_)
    have e : actsE σ (recA lb) = (13, (actsE (actsE σ (recS lb)).2 (recF lb)).2) := by unfold recA; rw [actsE_go h1, actsE_go h2]; rw [actsE_dead (a := .fe) hd3]
    rw [e]
    exact ⟨_, rfl, hw⟩
  ·skip
   refine At.callD 0 rfl (fun w hw hr => (by have h0 := flushAll_d _ _ _ 1024 lb.length (cntL 1024 lb.length) w (by omega) (cntL_P _ _) (by omega) hr; rw [linesE_acts, show flA (1024 / 64) (cntL 1024 lb.length) = recF lb from rfl, h2] at h0; exact h0)) Tryz.call27 rfl rfl (fun y4 => ?_)
   simp only [sc0, scS]
   refine tA rfl rfl ?_
   refine tE ?_
   refine tR ?_
   refine tM rfl rfl ?_
   refine At.val (Val.bin rfl rfl rfl) rfl rfl rfl ?_
   refine tE ?_
   refine At.condT rfl ?_
   refine tR ?_
   refine tM rfl rfl ?_
   refine tA rfl rfl ?_
   refine tE ?_
   refine At.retC ?_
   refine At.thenR ?_
   refine At.ret1 (.inl rfl) rfl rfl rfl (fun w hw => ?_)
   have e : actsE σ (recA lb) = (13, (actsE (actsE σ (recS lb)).2 (recF lb)).2) := by unfold recA; rw [actsE_go h1, actsE_stop h2]; exact pair_eq h2
   rw [e]
   exact ⟨_, rfl, hw⟩
 ·skip
  refine At.callD 0 rfl (fun w hw hr => (by have h0 := write_d _ _ _ 128 (lb.length / 8) _ lb w (hv.keep hw ho) ho (by omega) (by omega) (by omega) hr; rw [storesE_acts, show stA 128 (wordsL lb (lb.length / 8)) = recS lb from rfl, h1] at h0; exact h0)) Tryz.call91 rfl rfl (fun y5 => ?_)
  simp only [sc0, scS]
  refine tA rfl rfl ?_
  refine tE ?_
  refine tR ?_
  refine tM rfl rfl ?_
  refine At.val (Val.bin rfl rfl rfl) rfl rfl rfl ?_
  refine tE ?_
  refine At.condT rfl ?_
  refine tR ?_
  refine tM rfl rfl ?_
  refine tA rfl rfl ?_
  refine tE ?_
  refine At.retC ?_
  refine At.thenR ?_
  refine At.ret1 (.inl rfl) rfl rfl rfl (fun w hw => ?_)
  have e : actsE σ (recA lb) = (13, (actsE σ (recS lb)).2) := by unfold recA; rw [actsE_stop h1]; exact pair_eq h1
  rw [e]
  exact ⟨_, rfl, hw⟩
end Go.Proofs.YthhkbbodhghmcaaGreatDoor
set_option linter.unusedVariables false
set_option linter.unusedSimpArgs false
namespace Go.Wk
open Go
abbrev Dt := Int × BitVec 64 × List (BitVec 64)
abbrev Dq := Dt × Value
abbrev tDt : TypeId := 84
def dC (Q : List Dq) : List Value := Q.flatMap fun x => [.int .i64 x.1.1, b64 x.1.2.1, x.2]
theorem dC_append (a b : List Dq) : dC (a ++ b) = dC a ++ dC b := by simp [dC]
theorem dC_at : ∀ {L : List Dq} {j i : Nat} {c : Dq} {u : Value}, L[j]? = some c → ([.int .i64 c.1.1, b64 c.1.2.1, c.2] : List Value)[i]? = some u → (dC L)[j * 3 + i]? = some u
  | d :: L, 0, i, c, u, h, hu => by
    have : d = c := by simpa using h
    subst this
    have hi : i < 3 := (List.getElem?_eq_some_iff.1 hu).1
    show ([.int .i64 d.1.1, b64 d.1.2.1, d.2] ++ dC L)[0 * 3 + i]? = some u
    rw [Nat.zero_mul, Nat.zero_add, List.getElem?_append_left hi]; exact hu
  | d :: L, j + 1, i, c, u, h, hu => by
    have h' : L[j]? = some c := by simpa using h
    have := dC_at h' hu
    show ([.int .i64 d.1.1, b64 d.1.2.1, d.2] ++ dC L)[(j + 1) * 3 + i]? = some u
    rw [List.getElem?_append_right (by simp; omega)]
    simpa [show (j + 1) * 3 + i - 3 = j * 3 + i by omega] using this
def newsR (Q : List Dq) : List Res := Q.map fun x => wrow tW x.2 x.1.2.2
abbrev drow (v : Value) (Q : List Dq) : Res := rowR v tDt 3 Q.length (dC Q)
def dbtR (v : Value) (Q : List Dq) : Res := star (drow v Q :: newsR Q)
theorem drow_snoc (v : Value) (Q : List Dq) (x : Dq) : drow v (Q ++ [x]) = rowR v tDt 3 (Q.length + 1) (dC Q ++ [.int .i64 x.1.1, b64 x.1.2.1, x.2]) := by unfold drow; rw [dC_append, List.length_append]; rfl
theorem newsR_snoc (Q : List Dq) (x : Dq) : newsR (Q ++ [x]) = newsR Q ++ [wrow tW x.2 x.1.2.2] := by simp [newsR]
section
variable {P : Program} {Γ : Ctx} {E : Env} {H L F : List Res} {ops : Array Oper} {R : Exit → Act → World → Prop} {rest : List Oper} {w0 w w' : World} {S : Nat → Prop} {φ : Act → World → Prop} {ψ : Act → Prop}
  {d : Nat} {dst : Option Tmp} {g : Option (Nat × Bool)} {ty : TypeId} {pos : String} {after : Array Edge} {x y z : Operand} {v u : Value} {Q : List Dq} {q : Dq}
theorem dbt_row (h : (dbtR v Q).holds w) : w.ownsRow 0 tDt 3 v Q.length (dC Q) := h.2 (drow v Q) (List.mem_cons_self ..)
theorem dbt_news {k : Nat} (h : (dbtR v Q).holds w) (hk : Q[k]? = some q) : RdW w q.2 q.1.2.2 :=
  row_rd (h.2 (wrow tW q.2 q.1.2.2) (List.mem_cons_of_mem _ (List.mem_map.2 ⟨q, List.mem_of_getElem? hk, rfl⟩))) (by decide)
theorem Val.lenDb {i t el : Nat} (hi : H[i]? = some (dbtR v Q)) (hu : P.underlying t = some (.slice el)) (hx : ev E x = some v) :
    Val P Γ E H ⟨dst, .call { callee := .builtin .len, args := #[x], argTypes := #[t] }, ty, pos, after, g⟩ (.int .i64 Q.length) := fun a w ha hw =>
  Val.lenRd (row_rd (dbt_row (hw.all _ (List.mem_of_getElem? hi))) (by decide)) hu hx a w ha hw
theorem Val.indexDb {i t el : Nat} {k : IntKind} {j : Int} (n : Nat) (hn : j.toNat * 3 = n) (hu : P.underlying t = some (.slice el)) (hs : ∀ w, (sizeOf el).run P w = .ok 3 w) (hx : ev E x = some v) (hy : ev E y = some (.int k j))
    (hi : H[i]? = some (dbtR v Q)) (h0 : 0 ≤ j) (h1 : j < Q.length) : Val P Γ E H ⟨dst, .indexAddr t x y, ty, pos, after, g⟩ (.pointer (some ⟨rowB v, n, none⟩)) := fun a w ha hw => by
  have h := dbt_row (hw.all _ (List.mem_of_getElem? hi))
  rcases h.2 with ⟨rfl, h2⟩ | ⟨b, cap, cur, rfl, _⟩
  · omega
  · have := Val.indexSl (P := P) (Γ := Γ) (E := E) (H := H) (dst := dst) (g := g) (ty := ty) (pos := pos) (after := after) (y := y) (o := 0) n (by omega) hu hs hx hy h0 h1 a w ha hw
    simpa [rowB, Value.ownBlock] using this
theorem Val.loadDb {i t n k : Nat} (j : Nat) (hA : ∀ w, (isAgg t).run P w = .ok false w) (hx : ev E x = some (.pointer (some ⟨rowB v, n, none⟩))) (hi : H[i]? = some (dbtR v Q)) (hn : n = k * 3 + j) (hk : Q[k]? = some q) (hu : ([.int .i64 q.1.1, b64 q.1.2.1, q.2] : List Value)[j]? = some u) :
    Val P Γ E H ⟨dst, .load t x, ty, pos, after, g⟩ u := fun a w ha hw => by
  subst hn
  have := run_loadAt_cell (P := P) hA (row_cell (dbt_row (hw.all _ (List.mem_of_getElem? hi))) (dC_at hk hu))
  simp [execOp, ha.eval hx, Sem.run_bind, this]
/-- A call that reads one resource and makes a list of doubts. -/
def DbtK (P : Program) (f : FuncId) (vs : List Value) (r : Res) (D : List Dt) (w : World) : Prop := Calls P f vs.toArray w fun e w' => ∃ v' Q, e = .returned v' ∧ Q.map Prod.fst = D ∧ Rep w (feet [r]) [dbtR v' Q, r] w'
theorem At.callDB (i : Nat) {r : Res} {D : List Dt} {f : FuncId} {l : List Operand} {vs : List Value} {at_ : Array TypeId} (hi : H[i]? = some r) (h : ∀ w, Rep Γ.w0 Γ.S H w → r.holds w → DbtK P f vs r D w) (hc : ∀ args w, (callFunc f args).run P w = .ok (.enter f args) w) (hv : evs E l = some vs) (hn : Nat.blt d Γ.n = true)
    (c : ∀ v' Q, Q.map Prod.fst = D → At Γ ((d, v') :: E) (dbtR v' Q :: H) (wpList P ops R rest)) :
    At Γ E H (wpList P ops R ({ dst := some d, op := .call { callee := .value (.func f), args := l.toArray, argTypes := at_ }, type := ty, pos, after, guard := none } :: rest)) :=
  At.call hc hv hn fun w hw => (h w hw (hw.all _ (List.mem_of_getElem? hi))).mono fun e w' ⟨v', Q, he, hQ, hr⟩ => ⟨v', _, he, by
    have h1 : Rep Γ.w0 Γ.S ([r] ++ H.eraseIdx i) w := hw.perm (erase_perm H i r hi)
    exact (h1.frame (H0' := [dbtR v' Q, r]) hr).perm ((erase_perm H i r hi).symm.cons _), c v' Q hQ⟩
theorem Rep.starNil (h : Rep w0 S H w) : Rep w0 S (star [] :: H) w := Rep.shutS (L := []) h
theorem At.starNil (k : At Γ E (star [] :: H) φ) : At Γ E H φ := fun a w ha hw => k a w ha hw.starNil
theorem At.starPush {r : Res} (k : At Γ E (star (L ++ [r]) :: H) φ) : At Γ E (r :: star L :: H) φ := fun a w ha hw => by
  have h1 : Rep Γ.w0 Γ.S (L ++ (r :: H)) w := (hw.perm (List.Perm.swap ..)).openS
  have h2 : Rep Γ.w0 Γ.S ((L ++ [r]) ++ H) w := by rwa [List.append_assoc]
  exact k a w ha h2.shutS
theorem Rep.toDbt (h : Rep w0 S (star (newsR Q) :: drow v Q :: H) w) : Rep w0 S (dbtR v Q :: H) w := by
  have h1 : Rep w0 S (newsR Q ++ (drow v Q :: H)) w := h.openS
  have h2 : Rep w0 S ((drow v Q :: newsR Q) ++ H) w := h1.perm List.perm_middle
  exact h2.shutS
theorem win_rd {e : Nat} {xs : List Value} (h : Win w v e xs) : Rd w v 1 xs.length xs := by
  rcases h with ⟨rfl, rfl⟩ | ⟨b, o, c, cur, rfl, hb, h1, h2, h3, h4⟩
  · exact Rd.nil w 1
  · exact ⟨_, c, rfl, fun j u hj => ⟨b, o, rfl, by rw [cell_of_row w _ _ cur e _ hb]; exact h4 j u hj⟩, by simp, h1, (fun h => by cases h), (fun _ a h => by cases h; rfl)⟩
theorem dbt_win {i k : Nat} {ws : List Wd} {g : Nat → Nat × Value} {wd : Wd} (hw : Rep w0 S H w) (hi : H[i]? = some (fam (dI ws g))) (hk : ws[k]? = some wd) (hn : wd.news ≠ []) : RdW w (g k).2 wd.news := by
  have := win_rd (fam_dbt (hw.all _ (List.mem_of_getElem? hi)) hk hn).2
  rwa [List.length_map] at this
theorem Val.eqNilS {t t' el : TypeId} {a' : Addr} {n c : Nat} (h : P.underlying t = some (.slice el)) (hx : ev E x = some (.slice (some a') n c)) : Val P Γ E H ⟨dst, .binOp .eql t x (.const (.slice none 0 0)) t', ty, pos, after, g⟩ (.bool false) := fun a w ha _ => by
  have hc : a.eval (.const (.slice none 0 0)) = .slice none 0 0 := rfl
  simp [execOp, ha.eval hx, hc, eqGuard, Lib.run_eql_slice_some_nil w a' n c h]
theorem rd_some {sz n : Nat} {xs : List Value} (h : Rd w v sz n xs) (hn : 0 < n) : ∃ a c, v = .slice (some a) n c := by
  obtain ⟨A, c, rfl, _, _, _, h0, _⟩ := h
  cases A with
  | none => have := (h0 rfl).1; omega
  | some a => exact ⟨a, c, rfl⟩
theorem At.appendRdW {i t e by_ : Nat} {ti : TypeInfo} {z : Value} {vy : Value} {l m : List (BitVec 64)} (ht : P.underlying t = some (.slice e)) (hti : P.info? e = some ti) (hz : ti.zero = some z) (hsize : ti.size = 1) (hby : ti.bytes = by_) (hzs : z.cells.size = 1)
    (hx : ev E x = some v) (hy : ev E y = some vy) (hi : H[i]? = some (rowR v e 1 l.length (l.map b64))) (hr : RdW Γ.w0 vy m) (ho : Off vy (m.map b64) Γ.S) (h63 : (l.length + m.length) * by_ ≤ 140737488355328) (h64 : l.length + m.length ≤ 140737488355328) (hn : Nat.blt d Γ.n = true)
    (k : ∀ v', At Γ ((d, v') :: E) (H.set i (wrow e v' (l ++ m))) (wpList P ops R rest)) :
    At Γ E H (wpList P ops R ({ dst := some d, op := .call { callee := .builtin .append, args := #[x, y], argTypes := #[t, t] }, type := ty, pos, after, guard := none } :: rest)) :=
  At.appendRd ht hti hz hsize hby hzs rfl hx hy hi hr ho (fun u hu => by obtain ⟨c, _, rfl⟩ := List.mem_map.1 hu; rfl) h63 h64 hn fun v' => by
    have := k v'
    simpa only [wrow, List.map_append, List.length_append] using this
theorem At.appendD1 {i j t e by_ b U : Nat} {ti : TypeInfo} {z : Value} {c : Dq} (ht : P.underlying t = some (.slice e)) (hti : P.info? e = some ti) (hz : ti.zero = some z) (hsize : ti.size = 3) (hby : ti.bytes = by_) (hzs : z.cells.size = 3) (he : e = tDt)
    (hx : ev E x = some v) (hy : ev E y = some (.slice (some ⟨b, 0, none⟩) 1 1)) (hi : H[i]? = some (drow v Q)) (hj : H[j]? = some (blk b U [.int .i64 c.1.1, b64 c.1.2.1, c.2])) (h1 : c.2.oneCell' = true) (h63 : (Q.length + 1) * by_ ≤ 140737488355328) (h64 : Q.length + 1 ≤ 140737488355328) (hn : Nat.blt d Γ.n = true)
    (k : ∀ v', At Γ ((d, v') :: E) (H.set i (drow v' (Q ++ [c]))) (wpList P ops R rest)) :
    At Γ E H (wpList P ops R ({ dst := some d, op := .call { callee := .builtin .append, args := #[x, y], argTypes := #[t, t] }, type := ty, pos, after, guard := none } :: rest)) := by
  subst he
  exact At.append (i := i) (ys := [.int .i64 c.1.1, b64 c.1.2.1, c.2]) ht hti hz hsize hby hzs rfl hx hy hi rfl (fun w hw j' u hj' => by rw [Nat.zero_add]; exact ((hw.blk hj).cell j').trans hj')
    (by intro u hu; simp only [List.mem_cons, List.not_mem_nil, or_false] at hu; rcases hu with rfl | rfl | rfl; exact rfl; exact rfl; exact h1) h63 h64 hn fun v' => by
    have := k v'
    rwa [drow_snoc] at this
theorem dbt_nrow {k : Nat} (h : (dbtR v Q).holds w) (hk : Q[k]? = some q) : w.ownsRow 0 tW 1 q.2 q.1.2.2.length (q.1.2.2.map b64) :=
  h.2 (wrow tW q.2 q.1.2.2) (List.mem_cons_of_mem _ (List.mem_map.2 ⟨q, List.mem_of_getElem? hk, rfl⟩))
theorem Val.lenNews {i k t el : Nat} (hi : H[i]? = some (dbtR v Q)) (hk : Q[k]? = some q) (hu : P.underlying t = some (.slice el)) (hx : ev E x = some q.2) :
    Val P Γ E H ⟨dst, .call { callee := .builtin .len, args := #[x], argTypes := #[t] }, ty, pos, after, g⟩ (.int .i64 q.1.2.2.length) := fun a w ha hw =>
  Val.lenRd (dbt_news (hw.all _ (List.mem_of_getElem? hi)) hk) hu hx a w ha hw
theorem Val.indexNews {i k t el : Nat} {kd : IntKind} {j : Int} (n : Nat) (hn : j.toNat = n) (hi : H[i]? = some (dbtR v Q)) (hk : Q[k]? = some q) (hu : P.underlying t = some (.slice el)) (hs : ∀ w, (sizeOf el).run P w = .ok 1 w) (hx : ev E x = some q.2) (hy : ev E y = some (.int kd j))
    (h0 : 0 ≤ j) (h1 : j < q.1.2.2.length) : Val P Γ E H ⟨dst, .indexAddr t x y, ty, pos, after, g⟩ (.pointer (some ⟨rowB q.2, n, none⟩)) := fun a w ha hw => by
  have h := dbt_nrow (hw.all _ (List.mem_of_getElem? hi)) hk
  obtain ⟨⟨q1, q2, q3⟩, qv⟩ := q
  rcases h.2 with ⟨h3, h2⟩ | ⟨b, cap, cur, h3, _⟩
  · simp only at h2 h1; omega
  · simp only at h3 hx
    subst h3
    have := Val.indexSl (P := P) (Γ := Γ) (E := E) (H := H) (dst := dst) (g := g) (ty := ty) (pos := pos) (after := after) (y := y) (o := 0) n (by omega) hu hs hx hy h0 h1 a w ha hw
    simpa [rowB, Value.ownBlock] using this
theorem Val.loadNewsD {i k t n : Nat} {z' : BitVec 64} (hA : ∀ w, (isAgg t).run P w = .ok false w) (hx : ev E x = some (.pointer (some ⟨rowB q.2, n, none⟩))) (hi : H[i]? = some (dbtR v Q)) (hk : Q[k]? = some q) (hu : q.1.2.2[n]? = some z') :
    Val P Γ E H ⟨dst, .load t x, ty, pos, after, g⟩ (b64 z') := fun a w ha hw => by
  have := run_loadAt_cell (P := P) hA (row_cell (u := b64 z') (dbt_nrow (hw.all _ (List.mem_of_getElem? hi)) hk) (by rw [List.getElem?_map, hu]; rfl))
  simp [execOp, ha.eval hx, Sem.run_bind, this]
theorem Rep.offRow {i j : Nat} {r : Res} {e sz n : Nat} {xs : List Value} (hw : Rep w0 S H w) (hi : H[i]? = some (rowR v e sz n xs)) (hj : H[j]? = some r) (hij : i ≠ j) : Off v xs (feet [r]) := fun _ b o s n c hv ⟨q, hq, hb⟩ => by
  rw [List.mem_singleton.1 hq] at hb
  have hi' := List.getElem?_eq_some_iff.1 hi
  have hj' := List.getElem?_eq_some_iff.1 hj
  have hp := List.pairwise_iff_getElem.1 hw.sep
  have hf : (rowR v e sz n xs : Res).foot b := by subst hv; rfl
  rcases Nat.lt_or_gt_of_ne hij with h | h
  · have := hp i j hi'.1 hj'.1 h
    rw [hi'.2, hj'.2] at this
    exact this b hf hb
  · have := hp j i hj'.1 hi'.1 h
    rw [hi'.2, hj'.2] at this
    exact this b hb hf
theorem QAt.idxF {α : Type} {f : α → Value} {t el : Nat} {l : List α} {k : IntKind} {j : Int} (h : Rd Γ.w0 v 1 l.length (l.map f)) (hu : P.underlying t = some (.slice el)) (hs : ∀ w, (sizeOf el).run P w = .ok 1 w) (hx : ev E x = some v) (hy : ev E y = some (.int k j)) (h0 : 0 ≤ j) (h1 : j < l.length)
    (hg : g = none) (hn : Nat.blt d Γ.n = true)
    (c : ∀ b o q, l[j.toNat]? = some q → Γ.w0.cell? ⟨b, o, none⟩ = some (f q) → QAt P Γ ops ((d, .pointer (some ⟨b, o, none⟩)) :: E) H rest ψ) :
    QAt P Γ ops E H ({ dst := some d, op := .indexAddr t x y, type := ty, pos, after, guard := g } :: rest) ψ :=
  QAt.idxRd h hu hs hx hy h0 h1 hg hn fun b o hc => by
    have hq : l[j.toNat]? = some (l[j.toNat]'(by omega)) := List.getElem?_eq_getElem _
    exact c b o _ hq (hc 0 _ (by rw [Nat.mul_one, Nat.add_zero, List.getElem?_map, hq]; rfl))
end
end Go.Wk
set_option linter.unusedVariables false
set_option linter.unusedSimpArgs false
namespace Go.Proofs.YthhkbbodhghmcaaGreatDoor
open Go Go.Wk
theorem Rep.off0 {w0 w : World} {S : Nat → Prop} {H : List Res} {i : Nat} {r : Res} (hw : Rep w0 S H w) (ht : Tab w0) (hf : ¬ S 0) (hi : H[i]? = some r) : ¬ feet [r] 0 := fun ⟨q, hq, hb⟩ => by
  rw [List.mem_singleton.1 hq] at hb
  rcases hw.mine r (List.mem_of_getElem? hi) 0 hb with h | h
  · have := ht.old; omega
  · exact hf h
theorem viewWs_len (ws : List Wd) : (viewWs ws).length = ws.length := by unfold viewWs; rw [List.length_map]
/-- Restore: its error's number, its spans. -/
noncomputable def restE (l : List UInt8) (p i c dt : Int) (M : List (Int × Int)) : Int :=
  if ¬ (GoodSup p i c ∧ dt = 4 + i / 8 ∧ (l.length : Int) = 512 * p) then 30 else if cleanT l = 0 then 130 else if oE (area l) ≠ 0 then 36 else if oT (area l) ≠ cleanT l then 131 else if oL (area l) ≠ M then 132 else 0
noncomputable def restL (l : List UInt8) (p i c dt : Int) (M : List (Int × Int)) : List (Int × Int) := if restE l p i c dt M = 0 then M else []
theorem restL_no {l : List UInt8} {p i c dt : Int} {M : List (Int × Int)} {x : Int} (h : restE l p i c dt M = x) (hx : x ≠ 0) : restL l p i c dt M = [] := by unfold restL; rw [h, if_neg hx]
theorem restL_yes {l : List UInt8} {p i c dt : Int} {M : List (Int × Int)} (h : restE l p i c dt M = 0) : restL l p i c dt M = M := by unfold restL; rw [if_pos h]
theorem b32_0 {x : BitVec 32} (h : ((x.toNat : Nat) : Int) = 0) : x = 0 := BitVec.eq_of_toNat_eq (by show x.toNat = 0; omega)
theorem b32_n {x : BitVec 32} (h : ¬ ((x.toNat : Nat) : Int) = 0) : x ≠ 0 := fun e => h (by rw [e]; rfl)
theorem b32_e {x y : BitVec 32} (h : ((x.toNat : Nat) : Int) = ((y.toNat : Nat) : Int)) : x = y := BitVec.eq_of_toNat_eq (by omega)
theorem b32_d {x y : BitVec 32} (h : ¬ ((x.toNat : Nat) : Int) = ((y.toNat : Nat) : Int)) : x ≠ y := fun e => h (by rw [e])
theorem oL_le (l : List UInt8) : (oL l).length ≤ 249 := by
  by_cases h : OkSv l
  · rw [oL_yes h, spRec_length]; exact h.2.2.2.1
  · rw [oL_no h]; decide
theorem save_d (p : Nat) (γ : Gh) (σ : Ds) (v : Value) (L : List (Int × Int)) (w : World) (ht : Tab w) (hf : ¬ feet [Dev p γ σ] 0) (hv : RdS w v L) (ho : Off v (prS L) (feet [Dev p γ σ])) (hlen : L.length ≤ 8796093022144) (hst : σ.steps + 160 ≤ 1099511627776) (hd : (Dev p γ σ).holds w) :
    DevU Tryz.prog 17 [.pointer (some ⟨p, 0, none⟩), v] p γ σ (.tuple #[.bool (saveE σ L).1, .int .i64 (saveE σ L).2.1]) (saveE σ L).2.2 w := by
 obtain ⟨A, c, rfl⟩ : ∃ A c, v = .slice A L.length c := by obtain ⟨A, c, h, _⟩ := hv; exact ⟨A, c, h⟩
 refine enterVc hd Tryz.func17 rfl Tryz.ntmps17 rfl ?_
 have hgd := Dev.good hd
 have hln := hgd.len
 have hvl := viewWs_len σ.ws
 obtain ⟨T, hT⟩ : ∃ T, T = stampD σ := ⟨_, rfl⟩
 have hT0 : T.toNat ≠ 0 := by rw [hT]; exact nextT_0 _
 simp only [envOf]
 refine tR ?_
 refine tA rfl rfl ?_
 refine tA rfl rfl ?_
 refine tE ?_
 refine At.seq ?_
 refine tR ?_
 refine tM rfl rfl ?_
 refine At.callP (fun w hw => areGood_p _ L w (ht.modS hw.mod hf) (hv.keep hw ho) hlen) Tryz.call47 rfl rfl ?_
 refine At.val (Val.not rfl) rfl rfl rfl ?_
 refine tE ?_
 refine At.cond rfl (fun h1 => ?_) (fun h1 => ?_)
 ·skip
  try simp only [hasB, isSizeB, Bool.not_eq_true', Bool.not_eq_false', bne_iff_ne, ne_eq, bne_eq_false_iff_eq, beq_iff_eq, beq_eq_false_iff_ne, decide_eq_true_eq, decide_eq_false_iff_not, gt_iff_lt, ge_iff_le] at h1
  have hsp : ¬ SpK L L.length := h1
  refine tR ?_
  refine tA rfl rfl ?_
  refine tA rfl rfl ?_
  refine tE ?_
  refine At.retC ?_
  refine At.thenR ?_
  refine At.ret2 (.inl rfl) rfl rfl rfl rfl (fun w hw => ?_)
  have e : saveE σ L = (false, 36, σ) := by
    unfold saveE
    rw [if_pos hsp]
  rw [e]
  exact ⟨_, rfl, hw.drop (List.singleton_sublist.2 (List.mem_of_getElem? (i := 0) rfl))⟩
 ·skip
  try simp only [hasB, isSizeB, Bool.not_eq_true', Bool.not_eq_false', bne_iff_ne, ne_eq, bne_eq_false_iff_eq, beq_iff_eq, beq_eq_false_iff_ne, decide_eq_true_eq, decide_eq_false_iff_not, gt_iff_lt, ge_iff_le] at h1
  have hsp : SpK L L.length := h1
  refine At.skipC ?_
  refine At.thenN ?_
  refine At.seq ?_
  refine tR ?_
  refine tM rfl rfl ?_
  refine At.callK 0 rfl (fun w hw hr => size_k _ _ _ w hr) Tryz.call28 rfl rfl ?_
  refine At.val (Val.bin rfl rfl rfl) rfl rfl rfl ?_
  refine tE ?_
  refine At.cond rfl (fun h2 => ?_) (fun h2 => ?_)
  ·skip
   try simp only [hasB, isSizeB, Bool.not_eq_true', Bool.not_eq_false', bne_iff_ne, ne_eq, bne_eq_false_iff_eq, beq_iff_eq, beq_eq_false_iff_ne, decide_eq_true_eq, decide_eq_false_iff_not, gt_iff_lt, ge_iff_le] at h2
   refine tR ?_
   refine tA rfl rfl ?_
   refine tA rfl rfl ?_
   refine tE ?_
   refine At.retC ?_
   refine At.thenR ?_
   refine At.ret2 (.inl rfl) rfl rfl rfl rfl (fun w hw => ?_)
   have e : saveE σ L = (false, 11, σ) := by
     unfold saveE
     rw [if_neg (Classical.not_not.2 hsp), if_pos (by omega)]
   rw [e]
   exact ⟨_, rfl, hw.drop (List.singleton_sublist.2 (List.mem_of_getElem? (i := 0) rfl))⟩
  ·skip
   try simp only [hasB, isSizeB, Bool.not_eq_true', Bool.not_eq_false', bne_iff_ne, ne_eq, bne_eq_false_iff_eq, beq_iff_eq, beq_eq_false_iff_ne, decide_eq_true_eq, decide_eq_false_iff_not, gt_iff_lt, ge_iff_le] at h2
   refine At.skipC ?_
   refine At.thenN ?_
   refine At.seq ?_
   refine tR ?_
   refine tM rfl rfl ?_
   refine At.val (Val.lenRd hv Tryz.underlying35 rfl) rfl rfl rfl ?_
   refine At.val (Val.bin rfl rfl rfl) rfl rfl rfl ?_
   refine tE ?_
   refine At.cond rfl (fun h3 => ?_) (fun h3 => ?_)
   ·skip
    try simp only [hasB, isSizeB, Bool.not_eq_true', Bool.not_eq_false', bne_iff_ne, ne_eq, bne_eq_false_iff_eq, beq_iff_eq, beq_eq_false_iff_ne, decide_eq_true_eq, decide_eq_false_iff_not, gt_iff_lt, ge_iff_le] at h3
    refine tR ?_
    refine tA rfl rfl ?_
    refine tA rfl rfl ?_
    refine tE ?_
    refine At.retC ?_
    refine At.thenR ?_
    refine At.ret2 (.inl rfl) rfl rfl rfl rfl (fun w hw => ?_)
    have e : saveE σ L = (false, 0, σ) := by
      unfold saveE
      rw [if_neg (Classical.not_not.2 hsp), if_neg (by omega), if_pos (by omega)]
    rw [e]
    exact ⟨_, rfl, hw.drop (List.singleton_sublist.2 (List.mem_of_getElem? (i := 0) rfl))⟩
   ·skip
    try simp only [hasB, isSizeB, Bool.not_eq_true', Bool.not_eq_false', bne_iff_ne, ne_eq, bne_eq_false_iff_eq, beq_iff_eq, beq_eq_false_iff_ne, decide_eq_true_eq, decide_eq_false_iff_not, gt_iff_lt, ge_iff_le] at h3
    have hg : GoodSv T L := ⟨hT0, by omega, hsp⟩
    obtain ⟨hb1, hb2⟩ := svB_le (t := T) (L := L) (by omega)
    obtain ⟨wd, hwd⟩ : ∃ wd, σ.ws[16]? = some wd := ⟨_, List.getElem?_eq_getElem (by omega)⟩
    obtain ⟨z1, z2, z3, _⟩ := actsE_rest (cleanA 0) σ (cleanA_ok 0 (by omega))
    have z4 : (cleanA 0).length = 3 := rfl
    refine At.skipC ?_
    refine At.thenN ?_
    refine tR ?_
    refine tM rfl rfl ?_
    refine At.callRK 0 rfl (fun w hw hr => view_k _ _ _ w hr) Tryz.call46 rfl rfl (fun v4 => ?_)
    refine At.callP (fun w hw => (by have h0 := nextSt_p _ (wbytes (viewWs σ.ws)) w (ht.modS hw.mod hf) (row_rd (hw.row (i := 0) rfl) (by decide)) (by rw [wbytes_length, hvl]; omega) (by rw [wbytes_length, hvl]; omega); rw [show nextT (wbytes (viewWs σ.ws)) = T from hT.symm] at h0; exact h0)) Tryz.call48 rfl rfl ?_
    refine tA rfl rfl ?_
    refine tE ?_
    refine tR ?_
    refine tM rfl rfl ?_
    refine tM rfl rfl ?_
    refine At.val (Val.build (fun a ha => by simp only [List.map_toArray, List.map_cons, List.map_nil, ha.eval (x := (.tmp 27)) rfl, ha.eval (x := (.tmp 28)) rfl] <;> rfl) (bld_90_0_1 _ _ _ _ )) rfl rfl rfl ?_
    refine At.callNT (g := (fun v => .tuple #[v, .int .i64 0])) (fun w hw => (by have h0 := packSv_n T _ L w (hv.keep hw ho) hlen (ht.modS hw.mod hf); rw [svE_T hg, svP_T hg] at h0; exact h0)) Tryz.call49 rfl rfl (fun v5 => ?_)
    refine tM rfl rfl ?_
    refine At.val (Val.extract rfl rfl) rfl rfl rfl ?_
    refine At.val (Val.extract rfl rfl) rfl rfl rfl ?_
    refine tA rfl rfl ?_
    refine tA rfl rfl ?_
    refine tE ?_
    refine At.seq ?_
    refine tR ?_
    refine tM rfl rfl ?_
    refine At.val (Val.bin rfl rfl rfl) rfl rfl rfl ?_
    refine tE ?_
    refine At.condF rfl ?_
    refine At.skipC ?_
    refine At.thenN ?_
    refine At.seq ?_
    refine tR ?_
    refine tM rfl rfl ?_
    by_cases hwz : nowW wd = 0
    ·skip
     have hF : saveF σ = [] := by unfold saveF; rw [nowAt_some hwd, if_pos hwz]
     refine At.callK 2 rfl (fun w hw hr => (by have h0 := word_k _ _ _ 16 wd w hwd hr; rw [hwz] at h0; exact h0)) Tryz.call50 rfl rfl ?_
     refine tM rfl rfl ?_
     refine At.val (Val.extract rfl rfl) rfl rfl rfl ?_
     refine At.val (Val.extract rfl rfl) rfl rfl rfl ?_
     refine tA rfl rfl ?_
     refine tA rfl rfl ?_
     refine tE ?_
     refine tR ?_
     refine tM rfl rfl ?_
     refine At.val (Val.bin rfl rfl rfl) rfl rfl rfl ?_
     refine tE ?_
     refine At.condF rfl ?_
     refine At.skipC ?_
     refine At.thenN ?_
     refine At.seq ?_
     refine tR ?_
     refine tM rfl rfl ?_
     refine tM rfl rfl ?_
     obtain ⟨y1, y2, y3, _⟩ := actsE_rest (recA (svB T L)) (σ) (recA_ok (svB T L) (by omega) (by omega))
     have y4 := recA_len (svB T L) hb1
     have e01 := actsE_01 (recA (svB T L)) (σ)
     rcases e01 with h1 | h1
     ·skip
      refine At.callD 2 rfl (fun w hw hr => (by have h0 := writeRec_d _ _ (σ) _ (svB T L) w (row_rd (hw.row (i := 0) rfl) (by decide)) (Rep.offRow (i := 0) (j := 2) hw rfl rfl (by decide)) hb2 hb1 (by omega) (by omega) hr; rw [h1] at h0; exact h0)) Tryz.call51 rfl rfl (fun y6 => ?_)
      simp only [sc0, scS]
      refine tA rfl rfl ?_
      refine tE ?_
      refine tR ?_
      refine tM rfl rfl ?_
      refine At.val (Val.bin rfl rfl rfl) rfl rfl rfl ?_
      refine tE ?_
      refine At.condF rfl ?_
      refine At.skipC ?_
      refine At.thenN ?_
      refine At.seq ?_
      refine tR ?_
      refine tM rfl rfl ?_
      refine tM rfl rfl ?_
      have e01 := actsE_01 (cleanA T) ((actsE (σ) (recA (svB T L))).2)
      rcases e01 with h2 | h2
      ·skip
       refine At.callD 2 rfl (fun w hw hr => (by have h0 := setClean_d _ _ ((actsE (σ) (recA (svB T L))).2) T w (ht.modS hw.mod hf) (Rep.off0 hw ht hf (i := 2) rfl) (by omega) (by omega) hr; rw [h2] at h0; exact h0)) Tryz.call37 rfl rfl (fun y7 => ?_)
       simp only [sc0, scS]
       refine tA rfl rfl ?_
       refine tE ?_
       refine tR ?_
       refine tM rfl rfl ?_
       refine At.val (Val.bin rfl rfl rfl) rfl rfl rfl ?_
       refine tE ?_
       refine At.condF rfl ?_
       refine At.skipC ?_
       refine At.thenN ?_
       refine tR ?_
       refine tA rfl rfl ?_
       refine tA rfl rfl ?_
       refine tE ?_
       refine At.retC ?_
       refine At.ret2 (.inl rfl) rfl rfl rfl rfl (fun w hw => ?_)
       have e : saveE σ L = (true, 0, ((actsE ((actsE (σ) (recA (svB T L))).2) (cleanA T)).2)) := by
         unfold saveE
         rw [if_neg (Classical.not_not.2 hsp), if_neg (by omega), if_neg (by omega)]
         have ea : actsE σ (saveA σ L) = (0, ((actsE ((actsE (σ) (recA (svB T L))).2) (cleanA T)).2)) := by
           unfold saveA
           rw [hF, ← hT]
           rw [List.nil_append]
           rw [actsE_go h1]; exact pair_eq h2
         rw [ea]; rfl
       rw [e]
       exact ⟨_, rfl, hw.drop (List.singleton_sublist.2 (List.mem_of_getElem? (i := 2) rfl))⟩
      ·skip
       refine At.callD 2 rfl (fun w hw hr => (by have h0 := setClean_d _ _ ((actsE (σ) (recA (svB T L))).2) T w (ht.modS hw.mod hf) (Rep.off0 hw ht hf (i := 2) rfl) (by omega) (by omega) hr; rw [h2] at h0; exact h0)) Tryz.call37 rfl rfl (fun y8 => ?_)
       simp only [sc0, scS]
       refine tA rfl rfl ?_
       refine tE ?_
       refine tR ?_
       refine tM rfl rfl ?_
       refine At.val (Val.bin rfl rfl rfl) rfl rfl rfl ?_
       refine tE ?_
       refine At.condT rfl ?_
       refine tR ?_
       refine tM rfl rfl ?_
       refine tA rfl rfl ?_
       refine tA rfl rfl ?_
       refine tE ?_
       refine At.retC ?_
       refine At.thenR ?_
       refine At.ret2 (.inl rfl) rfl rfl rfl rfl (fun w hw => ?_)
       have e : saveE σ L = (false, 13, ((actsE ((actsE (σ) (recA (svB T L))).2) (cleanA T)).2)) := by
         unfold saveE
         rw [if_neg (Classical.not_not.2 hsp), if_neg (by omega), if_neg (by omega)]
         have ea : actsE σ (saveA σ L) = (13, ((actsE ((actsE (σ) (recA (svB T L))).2) (cleanA T)).2)) := by
           unfold saveA
           rw [hF, ← hT]
           rw [List.nil_append]
           rw [actsE_go h1]; exact pair_eq h2
         rw [ea]; rfl
       rw [e]
       exact ⟨_, rfl, hw.drop (List.singleton_sublist.2 (List.mem_of_getElem? (i := 2) rfl))⟩
     ·skip
      refine At.callD 2 rfl (fun w hw hr => (by have h0 := writeRec_d _ _ (σ) _ (svB T L) w (row_rd (hw.row (i := 0) rfl) (by decide)) (Rep.offRow (i := 0) (j := 2) hw rfl rfl (by decide)) hb2 hb1 (by omega) (by omega) hr; rw [h1] at h0; exact h0)) Tryz.call51 rfl rfl (fun y9 => ?_)
      simp only [sc0, scS]
      refine tA rfl rfl ?_
      refine tE ?_
      refine tR ?_
      refine tM rfl rfl ?_
      refine At.val (Val.bin rfl rfl rfl) rfl rfl rfl ?_
      refine tE ?_
      refine At.condT rfl ?_
      refine tR ?_
      refine tM rfl rfl ?_
      refine tA rfl rfl ?_
      refine tA rfl rfl ?_
      refine tE ?_
      refine At.retC ?_
      refine At.thenR ?_
      refine At.ret2 (.inl rfl) rfl rfl rfl rfl (fun w hw => ?_)
      have e : saveE σ L = (false, 13, ((actsE (σ) (recA (svB T L))).2)) := by
        unfold saveE
        rw [if_neg (Classical.not_not.2 hsp), if_neg (by omega), if_neg (by omega)]
        have ea : actsE σ (saveA σ L) = (13, ((actsE (σ) (recA (svB T L))).2)) := by
          unfold saveA
          rw [hF, ← hT]
          rw [List.nil_append]
          rw [actsE_stop h1]; exact pair_eq h1
        rw [ea]; rfl
      rw [e]
      exact ⟨_, rfl, hw.drop (List.singleton_sublist.2 (List.mem_of_getElem? (i := 2) rfl))⟩
    ·skip
     have hF : saveF σ = cleanA 0 := by unfold saveF; rw [nowAt_some hwd, if_neg hwz]
     refine At.callK 2 rfl (fun w hw hr => word_k _ _ _ 16 wd w hwd hr) Tryz.call50 rfl rfl ?_
     refine tM rfl rfl ?_
     refine At.val (Val.extract rfl rfl) rfl rfl rfl ?_
     refine At.val (Val.extract rfl rfl) rfl rfl rfl ?_
     refine tA rfl rfl ?_
     refine tA rfl rfl ?_
     refine tE ?_
     refine tR ?_
     refine tM rfl rfl ?_
     refine At.val (Val.bin rfl rfl rfl) rfl rfl rfl ?_
     rw [show (((nowW wd).toNat : Int) != 0) = true from by rw [bne_iff_ne]; intro h9; exact hwz (BitVec.eq_of_toNat_eq (by show (nowW wd).toNat = 0; omega))]
     refine tE ?_
     refine At.condT rfl ?_
     refine tR ?_
     refine tM rfl rfl ?_
     have e01 := actsE_01 (cleanA 0) σ
     rcases e01 with hz0 | hz0
     ·skip
      refine At.callD 2 rfl (fun w hw hr => (by have h0 := forget_d _ _ _ w (ht.modS hw.mod hf) hf (by omega) (by omega) hr; rw [hz0] at h0; exact h0)) Tryz.call13 rfl rfl (fun y10 => ?_)
      simp only [sc0, scS]
      refine tA rfl rfl ?_
      refine tE ?_
      refine tR ?_
      refine tM rfl rfl ?_
      refine At.val (Val.bin rfl rfl rfl) rfl rfl rfl ?_
      refine tE ?_
      refine At.condF rfl ?_
      refine At.skipC ?_
      refine At.thenN ?_
      refine At.seq ?_
      refine tR ?_
      refine tM rfl rfl ?_
      refine tM rfl rfl ?_
      obtain ⟨y1, y2, y3, _⟩ := actsE_rest (recA (svB T L)) ((actsE σ (cleanA 0)).2) (recA_ok (svB T L) (by omega) (by omega))
      have y4 := recA_len (svB T L) hb1
      have e01 := actsE_01 (recA (svB T L)) ((actsE σ (cleanA 0)).2)
      rcases e01 with h1 | h1
      ·skip
       refine At.callD 2 rfl (fun w hw hr => (by have h0 := writeRec_d _ _ ((actsE σ (cleanA 0)).2) _ (svB T L) w (row_rd (hw.row (i := 0) rfl) (by decide)) (Rep.offRow (i := 0) (j := 2) hw rfl rfl (by decide)) hb2 hb1 (by omega) (by omega) hr; rw [h1] at h0; exact h0)) Tryz.call51 rfl rfl (fun y11 => ?_)
       simp only [sc0, scS]
       refine tA rfl rfl ?_
       refine tE ?_
       refine tR ?_
       refine tM rfl rfl ?_
       refine At.val (Val.bin rfl rfl rfl) rfl rfl rfl ?_
       refine tE ?_
       refine At.condF rfl ?_
       refine At.skipC ?_
       refine At.thenN ?_
       refine At.seq ?_
       refine tR ?_
       refine tM rfl rfl ?_
       refine tM rfl rfl ?_
       have e01 := actsE_01 (cleanA T) ((actsE ((actsE σ (cleanA 0)).2) (recA (svB T L))).2)
       rcases e01 with h2 | h2
       ·skip
        refine At.callD 2 rfl (fun w hw hr => (by have h0 := setClean_d _ _ ((actsE ((actsE σ (cleanA 0)).2) (recA (svB T L))).2) T w (ht.modS hw.mod hf) (Rep.off0 hw ht hf (i := 2) rfl) (by omega) (by omega) hr; rw [h2] at h0; exact h0)) Tryz.call37 rfl rfl (fun y12 => ?_)
        simp only [sc0, scS]
        refine tA rfl rfl ?_
        refine tE ?_
        refine tR ?_
        refine tM rfl rfl ?_
        refine At.val (Val.bin rfl rfl rfl) rfl rfl rfl ?_
        refine tE ?_
        refine At.condF rfl ?_
        refine At.skipC ?_
        refine At.thenN ?_
        refine tR ?_
        refine tA rfl rfl ?_
        refine tA rfl rfl ?_
        refine tE ?_
        refine At.retC ?_
        refine At.ret2 (.inl rfl) rfl rfl rfl rfl (fun w hw => ?_)
        have e : saveE σ L = (true, 0, ((actsE ((actsE ((actsE σ (cleanA 0)).2) (recA (svB T L))).2) (cleanA T)).2)) := by
          unfold saveE
          rw [if_neg (Classical.not_not.2 hsp), if_neg (by omega), if_neg (by omega)]
          have ea : actsE σ (saveA σ L) = (0, ((actsE ((actsE ((actsE σ (cleanA 0)).2) (recA (svB T L))).2) (cleanA T)).2)) := by
            unfold saveA
            rw [hF, ← hT]
            rw [actsE_go hz0]
            rw [actsE_go h1]; exact pair_eq h2
          rw [ea]; rfl
        rw [e]
        exact ⟨_, rfl, hw.drop (List.singleton_sublist.2 (List.mem_of_getElem? (i := 2) rfl))⟩
       ·skip
        refine At.callD 2 rfl (fun w hw hr => (by have h0 := setClean_d _ _ ((actsE ((actsE σ (cleanA 0)).2) (recA (svB T L))).2) T w (ht.modS hw.mod hf) (Rep.off0 hw ht hf (i := 2) rfl) (by omega) (by omega) hr; rw [h2] at h0; exact h0)) Tryz.call37 rfl rfl (fun y13 => ?_)
        simp only [sc0, scS]
        refine tA rfl rfl ?_
        refine tE ?_
        refine tR ?_
        refine tM rfl rfl ?_
        refine At.val (Val.bin rfl rfl rfl) rfl rfl rfl ?_
        refine tE ?_
        refine At.condT rfl ?_
        refine tR ?_
        refine tM rfl rfl ?_
        refine tA rfl rfl ?_
        refine tA rfl rfl ?_
        refine tE ?_
        refine At.retC ?_
        refine At.thenR ?_
        refine At.ret2 (.inl rfl) rfl rfl rfl rfl (fun w hw => ?_)
        have e : saveE σ L = (false, 13, ((actsE ((actsE ((actsE σ (cleanA 0)).2) (recA (svB T L))).2) (cleanA T)).2)) := by
          unfold saveE
          rw [if_neg (Classical.not_not.2 hsp), if_neg (by omega), if_neg (by omega)]
          have ea : actsE σ (saveA σ L) = (13, ((actsE ((actsE ((actsE σ (cleanA 0)).2) (recA (svB T L))).2) (cleanA T)).2)) := by
            unfold saveA
            rw [hF, ← hT]
            rw [actsE_go hz0]
            rw [actsE_go h1]; exact pair_eq h2
          rw [ea]; rfl
        rw [e]
        exact ⟨_, rfl, hw.drop (List.singleton_sublist.2 (List.mem_of_getElem? (i := 2) rfl))⟩
      ·skip
       refine At.callD 2 rfl (fun w hw hr => (by have h0 := writeRec_d _ _ ((actsE σ (cleanA 0)).2) _ (svB T L) w (row_rd (hw.row (i := 0) rfl) (by decide)) (Rep.offRow (i := 0) (j := 2) hw rfl rfl (by decide)) hb2 hb1 (by omega) (by omega) hr; rw [h1] at h0; exact h0)) Tryz.call51 rfl rfl (fun y14 => ?_)
       simp only [sc0, scS]
       refine tA rfl rfl ?_
       refine tE ?_
       refine tR ?_
       refine tM rfl rfl ?_
       refine At.val (Val.bin rfl rfl rfl) rfl rfl rfl ?_
       refine tE ?_
       refine At.condT rfl ?_
       refine tR ?_
       refine tM rfl rfl ?_
       refine tA rfl rfl ?_
       refine tA rfl rfl ?_
       refine tE ?_
       refine At.retC ?_
       refine At.thenR ?_
       refine At.ret2 (.inl rfl) rfl rfl rfl rfl (fun w hw => ?_)
       have e : saveE σ L = (false, 13, ((actsE ((actsE σ (cleanA 0)).2) (recA (svB T L))).2)) := by
         unfold saveE
         rw [if_neg (Classical.not_not.2 hsp), if_neg (by omega), if_neg (by omega)]
         have ea : actsE σ (saveA σ L) = (13, ((actsE ((actsE σ (cleanA 0)).2) (recA (svB T L))).2)) := by
           unfold saveA
           rw [hF, ← hT]
           rw [actsE_go hz0]
           rw [actsE_stop h1]; exact pair_eq h1
         rw [ea]; rfl
       rw [e]
       exact ⟨_, rfl, hw.drop (List.singleton_sublist.2 (List.mem_of_getElem? (i := 2) rfl))⟩
     ·skip
      refine At.callD 2 rfl (fun w hw hr => (by have h0 := forget_d _ _ _ w (ht.modS hw.mod hf) hf (by omega) (by omega) hr; rw [hz0] at h0; exact h0)) Tryz.call13 rfl rfl (fun y15 => ?_)
      simp only [sc0, scS]
      refine tA rfl rfl ?_
      refine tE ?_
      refine tR ?_
      refine tM rfl rfl ?_
      refine At.val (Val.bin rfl rfl rfl) rfl rfl rfl ?_
      refine tE ?_
      refine At.condT rfl ?_
      refine tR ?_
      refine tM rfl rfl ?_
      refine tA rfl rfl ?_
      refine tA rfl rfl ?_
      refine tE ?_
      refine At.retC ?_
      refine At.thenR ?_
      refine At.ret2 (.inl rfl) rfl rfl rfl rfl (fun w hw => ?_)
      have e : saveE σ L = (false, 13, ((actsE σ (cleanA 0)).2)) := by
        unfold saveE
        rw [if_neg (Classical.not_not.2 hsp), if_neg (by omega), if_neg (by omega)]
        have ea : actsE σ (saveA σ L) = (13, ((actsE σ (cleanA 0)).2)) := by
          unfold saveA
          rw [hF, ← hT]
          rw [actsE_stop hz0]; exact pair_eq hz0
        rw [ea]; rfl
      rw [e]
      exact ⟨_, rfl, hw.drop (List.singleton_sublist.2 (List.mem_of_getElem? (i := 2) rfl))⟩
theorem restore_n (v u : Value) (l : List UInt8) (p i c dt : Int) (M : List (Int × Int)) (w : World) (ht : Tab w) (hv : RdB w v l) (hu : RdS w u M) (hlen : l.length ≤ 140737488355328) (hm : M.length ≤ 8796093022144) :
    NewRowT Tryz.prog 22 [v, .agg #[.int .i64 p, .int .i64 i, .int .i64 c, .int .i64 dt, .slice none 0 0, u]] (fun v => .tuple #[v, .int .i64 (restE l p i c dt M)]) 100 2 (restL l p i c dt M).length (prS (restL l p i c dt M)) w := by
 obtain ⟨A, cu, rfl⟩ : ∃ A c, u = .slice A M.length c := by obtain ⟨A, c, h, _⟩ := hu; exact ⟨A, c, h⟩
 refine enter0 Tryz.func22 rfl Tryz.ntmps22 rfl ?_
 simp only [envOf]
 refine tR ?_
 refine At.box rfl rfl rfl (fun b1 => ?_)
 refine tA rfl rfl ?_
 refine tA rfl rfl ?_
 refine tE ?_
 refine At.seq ?_
 refine tR ?_
 refine At.val (Val.field 0 rfl fo_64_0 rfl) rfl rfl rfl ?_
 refine At.val (Val.loadPart (i := 0) Tryz.isAgg34 Tryz.sizeOf34 rfl rfl rfl rfl) rfl rfl rfl ?_
 refine tM rfl rfl ?_
 refine At.val (Val.lenRd hv Tryz.underlying59 rfl) rfl rfl rfl ?_
 refine At.callP (fun w hw => fitsSv_p p i c dt (l.length : Int) w) Tryz.call66 rfl rfl ?_
 refine At.val (Val.not rfl) rfl rfl rfl ?_
 refine tE ?_
 refine At.cond rfl (fun h2 => ?_) (fun h2 => ?_)
 ·skip
  try simp only [hasB, isSizeB, Bool.not_eq_true', Bool.not_eq_false', bne_iff_ne, ne_eq, bne_eq_false_iff_eq, beq_iff_eq, beq_eq_false_iff_ne, decide_eq_true_eq, decide_eq_false_iff_not, gt_iff_lt, ge_iff_le] at h2
  have hbad := h2
  refine tR ?_
  refine tA rfl rfl ?_
  refine tA rfl rfl ?_
  refine At.nil ?_
  refine At.rowNilS 100 ?_
  refine At.thenN ?_
  refine At.retC ?_
  refine At.thenR ?_
  refine At.ret2 (.inl rfl) rfl rfl rfl rfl (fun w hw => ?_)
  have e : (restE l p i c dt M) = 30 := by unfold restE; rw [if_pos hbad]
  have e2 : (restL l p i c dt M) = [] := restL_no e (by decide)
  rw [e, e2]
  exact ⟨_, rfl, (hw.drop (List.singleton_sublist.2 (List.mem_of_getElem? (i := 0) rfl))).f0⟩
 ·skip
  try simp only [hasB, isSizeB, Bool.not_eq_true', Bool.not_eq_false', bne_iff_ne, ne_eq, bne_eq_false_iff_eq, beq_iff_eq, beq_eq_false_iff_ne, decide_eq_true_eq, decide_eq_false_iff_not, gt_iff_lt, ge_iff_le] at h2
  obtain ⟨hg, hdt, hnl⟩ := h2
  have hg2 := hg
  unfold GoodSup at hg2
  have h0 : 2048 ≤ l.length := by omega
  refine At.skipC ?_
  refine At.thenN ?_
  refine tR ?_
  refine tM rfl rfl ?_
  refine At.callP (fun w hw => cleanSt_p v l w (ht.mod hw.mod) (hv.mod hw.mod) (by omega) hlen) Tryz.call67 rfl rfl ?_
  refine tA rfl rfl ?_
  refine tE ?_
  refine At.seq ?_
  refine tR ?_
  refine tM rfl rfl ?_
  refine At.val (Val.bin rfl rfl rfl) rfl rfl rfl ?_
  refine tE ?_
  refine At.cond rfl (fun h3 => ?_) (fun h3 => ?_)
  ·skip
   try simp only [hasB, isSizeB, Bool.not_eq_true', Bool.not_eq_false', bne_iff_ne, ne_eq, bne_eq_false_iff_eq, beq_iff_eq, beq_eq_false_iff_ne, decide_eq_true_eq, decide_eq_false_iff_not, gt_iff_lt, ge_iff_le] at h3
   have hct := b32_0 h3
   refine tR ?_
   refine tA rfl rfl ?_
   refine tA rfl rfl ?_
   refine At.nil ?_
   refine At.rowNilS 100 ?_
   refine At.thenN ?_
   refine At.retC ?_
   refine At.thenR ?_
   refine At.ret2 (.inl rfl) rfl rfl rfl rfl (fun w hw => ?_)
   have e : (restE l p i c dt M) = 130 := by unfold restE; rw [if_neg (Classical.not_not.2 ⟨hg, hdt, hnl⟩), if_pos hct]
   have e2 : (restL l p i c dt M) = [] := restL_no e (by decide)
   rw [e, e2]
   exact ⟨_, rfl, (hw.drop (List.singleton_sublist.2 (List.mem_of_getElem? (i := 0) rfl))).f0⟩
  ·skip
   try simp only [hasB, isSizeB, Bool.not_eq_true', Bool.not_eq_false', bne_iff_ne, ne_eq, bne_eq_false_iff_eq, beq_iff_eq, beq_eq_false_iff_ne, decide_eq_true_eq, decide_eq_false_iff_not, gt_iff_lt, ge_iff_le] at h3
   have hct := b32_n h3
   refine At.skipC ?_
   refine At.thenN ?_
   refine tR ?_
   refine tM rfl rfl ?_
   refine At.callNT (g := (fun v => .tuple #[.agg #[b32 (oT (area l)), v], .int .i64 (oE (area l))])) (fun w hw => readSv_n v l w (ht.mod hw.mod) (hv.mod hw.mod) h0 hlen) Tryz.call68 rfl rfl (fun v4 => ?_)
   refine tM rfl rfl ?_
   refine At.val (Val.extract rfl rfl) rfl rfl rfl ?_
   refine At.val (Val.extract rfl rfl) rfl rfl rfl ?_
   refine At.alloc Tryz.zeroValue90 rfl rfl (fun b5 => ?_)
   refine At.rowOne (i := 1) rfl (fun ho6 => ?_)
   refine At.storeAll (i := 0) Tryz.sizeOf90 rfl rfl rfl (by intro u hu; simp only [List.mem_cons, List.not_mem_nil, or_false] at hu; rcases hu with rfl | rfl <;> first | rfl | assumption) rfl rfl ?_
   simp only [sc0, scS]
   refine tA rfl rfl ?_
   refine tE ?_
   refine At.seq ?_
   refine tR ?_
   refine tM rfl rfl ?_
   refine At.val (Val.bin rfl rfl rfl) rfl rfl rfl ?_
   refine tE ?_
   refine At.cond rfl (fun h7 => ?_) (fun h7 => ?_)
   ·skip
    try simp only [hasB, isSizeB, Bool.not_eq_true', Bool.not_eq_false', bne_iff_ne, ne_eq, bne_eq_false_iff_eq, beq_iff_eq, beq_eq_false_iff_ne, decide_eq_true_eq, decide_eq_false_iff_not, gt_iff_lt, ge_iff_le] at h7
    have hoe : oE (area l) ≠ 0 := h7
    refine tR ?_
    refine tA rfl rfl ?_
    refine tA rfl rfl ?_
    refine At.nil ?_
    refine At.rowNilS 100 ?_
    refine At.thenN ?_
    refine At.retC ?_
    refine At.thenR ?_
    refine At.ret2 (.inl rfl) rfl rfl rfl rfl (fun w hw => ?_)
    have e : (restE l p i c dt M) = 36 := by unfold restE; rw [if_neg (Classical.not_not.2 ⟨hg, hdt, hnl⟩), if_neg hct, if_pos hoe]
    have e2 : (restL l p i c dt M) = [] := restL_no e (by decide)
    rw [e, e2]
    exact ⟨_, rfl, (hw.drop (List.singleton_sublist.2 (List.mem_of_getElem? (i := 0) rfl))).f0⟩
   ·skip
    try simp only [hasB, isSizeB, Bool.not_eq_true', Bool.not_eq_false', bne_iff_ne, ne_eq, bne_eq_false_iff_eq, beq_iff_eq, beq_eq_false_iff_ne, decide_eq_true_eq, decide_eq_false_iff_not, gt_iff_lt, ge_iff_le] at h7
    have hoe : ¬ oE (area l) ≠ 0 := fun hzz => hzz (by first | exact h7 | exact Classical.not_not.1 h7)
    refine At.skipC ?_
    refine At.thenN ?_
    refine At.seq ?_
    refine tR ?_
    refine At.val (Val.field 0 rfl fo_90_0 rfl) rfl rfl rfl ?_
    refine At.val (Val.load (i := 0) Tryz.isAgg76 rfl rfl rfl) rfl rfl rfl ?_
    refine tM rfl rfl ?_
    refine At.val (Val.bin rfl rfl rfl) rfl rfl rfl ?_
    refine tE ?_
    refine At.cond rfl (fun h8 => ?_) (fun h8 => ?_)
    ·skip
     try simp only [hasB, isSizeB, Bool.not_eq_true', Bool.not_eq_false', bne_iff_ne, ne_eq, bne_eq_false_iff_eq, beq_iff_eq, beq_eq_false_iff_ne, decide_eq_true_eq, decide_eq_false_iff_not, gt_iff_lt, ge_iff_le] at h8
     have hot := b32_d h8
     refine tR ?_
     refine tA rfl rfl ?_
     refine tA rfl rfl ?_
     refine At.nil ?_
     refine At.rowNilS 100 ?_
     refine At.thenN ?_
     refine At.retC ?_
     refine At.thenR ?_
     refine At.ret2 (.inl rfl) rfl rfl rfl rfl (fun w hw => ?_)
     have e : (restE l p i c dt M) = 131 := by unfold restE; rw [if_neg (Classical.not_not.2 ⟨hg, hdt, hnl⟩), if_neg hct, if_neg hoe, if_pos hot]
     have e2 : (restL l p i c dt M) = [] := restL_no e (by decide)
     rw [e, e2]
     exact ⟨_, rfl, (hw.drop (List.singleton_sublist.2 (List.mem_of_getElem? (i := 0) rfl))).f0⟩
    ·skip
     try simp only [hasB, isSizeB, Bool.not_eq_true', Bool.not_eq_false', bne_iff_ne, ne_eq, bne_eq_false_iff_eq, beq_iff_eq, beq_eq_false_iff_ne, decide_eq_true_eq, decide_eq_false_iff_not, gt_iff_lt, ge_iff_le] at h8
     have hot : ¬ oT (area l) ≠ cleanT l := fun hzz => hzz (b32_e (by first | exact h8 | exact Classical.not_not.1 h8))
     refine At.skipC ?_
     refine At.thenN ?_
     refine At.seq ?_
     refine tR ?_
     refine At.val (Val.field 1 rfl fo_90_1 rfl) rfl rfl rfl ?_
     refine At.val (Val.load (i := 0) Tryz.isAgg35 rfl rfl rfl) rfl rfl rfl ?_
     refine At.val (Val.field 5 rfl fo_64_2 rfl) rfl rfl rfl ?_
     refine At.val (Val.load (i := 2) Tryz.isAgg35 rfl rfl rfl) rfl rfl rfl ?_
     refine At.callP (fun w hw => sameSp_p _ _ (oL (area l)) M w (row_rd (hw.row (i := 1) rfl) (by decide)) (hu.mod hw.mod) (by have := oL_le (area l); omega) hm) Tryz.call69 rfl rfl ?_
     refine At.val (Val.not rfl) rfl rfl rfl ?_
     refine tE ?_
     refine At.cond rfl (fun h9 => ?_) (fun h9 => ?_)
     ·skip
      try simp only [hasB, isSizeB, Bool.not_eq_true', Bool.not_eq_false', bne_iff_ne, ne_eq, bne_eq_false_iff_eq, beq_iff_eq, beq_eq_false_iff_ne, decide_eq_true_eq, decide_eq_false_iff_not, gt_iff_lt, ge_iff_le] at h9
      have hol : oL (area l) ≠ M := h9
      refine tR ?_
      refine tA rfl rfl ?_
      refine tA rfl rfl ?_
      refine At.nil ?_
      refine At.rowNilS 100 ?_
      refine At.thenN ?_
      refine At.retC ?_
      refine At.thenR ?_
      refine At.ret2 (.inl rfl) rfl rfl rfl rfl (fun w hw => ?_)
      have e : (restE l p i c dt M) = 132 := by unfold restE; rw [if_neg (Classical.not_not.2 ⟨hg, hdt, hnl⟩), if_neg hct, if_neg hoe, if_neg hot, if_pos hol]
      have e2 : (restL l p i c dt M) = [] := restL_no e (by decide)
      rw [e, e2]
      exact ⟨_, rfl, (hw.drop (List.singleton_sublist.2 (List.mem_of_getElem? (i := 0) rfl))).f0⟩
     ·skip
      try simp only [hasB, isSizeB, Bool.not_eq_true', Bool.not_eq_false', bne_iff_ne, ne_eq, bne_eq_false_iff_eq, beq_iff_eq, beq_eq_false_iff_ne, decide_eq_true_eq, decide_eq_false_iff_not, gt_iff_lt, ge_iff_le] at h9
      have hol : ¬ oL (area l) ≠ M := fun hzz => hzz h9
      refine At.skipC ?_
      refine At.thenN ?_
      refine tR ?_
      refine At.val (Val.field 1 rfl fo_90_1 rfl) rfl rfl rfl ?_
      refine At.val (Val.load (i := 0) Tryz.isAgg35 rfl rfl rfl) rfl rfl rfl ?_
      refine At.val (Val.lenRow (i := 1) Tryz.underlying35 rfl rfl) rfl rfl rfl ?_
      have h249 := oL_le (area l)
      refine At.makeRow (n := (oL (area l)).length) (sz := 2) Tryz.underlying35 info_100 rfl rfl rfl rfl rfl (by show 16 * _ ≤ _; omega) (by omega) rfl (fun v10 => ?_)
      refine tA rfl rfl ?_
      refine tE ?_
      refine tR ?_
      refine tM rfl rfl ?_
      refine At.val (Val.field 1 rfl fo_90_1 rfl) rfl rfl rfl ?_
      refine At.val (Val.load (i := 1) Tryz.isAgg35 rfl rfl rfl) rfl rfl rfl ?_
      refine At.copyWhole (i := 0) (sz := 2) (ys := prS (oL (area l))) Tryz.underlying35 Tryz.sizeOf100 rfl rfl rfl (by decide) (fun w hw => row_rd (hw.row (i := 2) rfl) (by decide)) (prS_one _) rfl ?_
      simp only [sc0, scS]
      refine tE ?_
      refine tR ?_
      refine tM rfl rfl ?_
      refine tA rfl rfl ?_
      refine tA rfl rfl ?_
      refine tE ?_
      refine At.retC ?_
      refine At.ret2 (.inl rfl) rfl rfl rfl rfl (fun w hw => ?_)
      have e : (restE l p i c dt M) = 0 := by unfold restE; rw [if_neg (Classical.not_not.2 ⟨hg, hdt, hnl⟩), if_neg hct, if_neg hoe, if_neg hot, if_neg hol]
      have e2 : (restL l p i c dt M) = M := restL_yes e
      rw [e, e2]
      have hol' := Classical.not_not.1 hol
      rw [← hol']
      exact ⟨_, rfl, (hw.drop (List.singleton_sublist.2 (List.mem_of_getElem? (i := 0) rfl))).f0⟩
end Go.Proofs.YthhkbbodhghmcaaGreatDoor
set_option linter.unusedVariables false
set_option linter.unusedSimpArgs false
namespace Go.Wk
open Go
structure Rl where
  first : List (BitVec 64)
  puts : List (Nat × BitVec 64 × Nat)
  fl : List Nat
structure Rs where
  ls : List Rl
  fenced : Nat
  now : Nat
  left : Int
abbrev Lq := Rl × Value × Value
structure Rg where
  vl : Value
  Q : List Lq
abbrev tRD : TypeId := 50
abbrev tLn : TypeId := 118
abbrev tPu : TypeId := 120
abbrev tI : TypeId := 3
def pC (l : List (Nat × BitVec 64 × Nat)) : List Value := l.flatMap fun c => [.int .i64 (c.1 : Int), b64 c.2.1, .int .i64 (c.2.2 : Int)]
def fC (l : List Nat) : List Value := l.map fun (t : Nat) => Value.int .i64 (t : Int)
def lC (Q : List Lq) : List Value := Q.flatMap fun x => x.1.first.map b64 ++ [x.2.1, x.2.2]
def First8 (Q : List Lq) : Prop := ∀ x ∈ Q, x.1.first.length = 8
theorem First8.tail {x : Lq} {Q : List Lq} (h : First8 (x :: Q)) : First8 Q := fun y hy => h y (List.mem_cons_of_mem _ hy)
theorem lC_cons (x : Lq) (Q : List Lq) : lC (x :: Q) = x.1.first.map b64 ++ [x.2.1, x.2.2] ++ lC Q := rfl
theorem lC_head {x : Lq} {Q : List Lq} (h : First8 (x :: Q)) : (x.1.first.map b64 ++ [x.2.1, x.2.2]).length = 10 := by
  rw [List.length_append, List.length_map, h x (List.mem_cons_self ..)]; rfl
theorem lC_length : ∀ {Q : List Lq}, First8 Q → (lC Q).length = Q.length * 10
  | [], _ => rfl
  | x :: Q, h => by rw [lC_cons, List.length_append, lC_head h, lC_length h.tail, List.length_cons]; omega
theorem lC_at : ∀ {Q : List Lq} {k i : Nat} {x : Lq} {u : Value}, First8 Q → Q[k]? = some x → (x.1.first.map b64 ++ [x.2.1, x.2.2])[i]? = some u → (lC Q)[k * 10 + i]? = some u
  | [], k, i, x, u, _, h, _ => by simp at h
  | y :: Q, 0, i, x, u, h8, h, hu => by
    obtain rfl : y = x := by simpa using h
    have hi : i < 10 := by have := (List.getElem?_eq_some_iff.1 hu).1; rwa [lC_head h8] at this
    rw [lC_cons, Nat.zero_mul, Nat.zero_add, List.getElem?_append_left (by rw [lC_head h8]; exact hi)]; exact hu
  | y :: Q, k + 1, i, x, u, h8, h, hu => by
    rw [lC_cons, List.getElem?_append_right (by rw [lC_head h8]; omega), lC_head h8, show (k + 1) * 10 + i - 10 = k * 10 + i by omega]
    exact lC_at h8.tail (by simpa using h) hu
theorem lC_first {Q : List Lq} {k i : Nat} {x : Lq} {v : BitVec 64} (h8 : First8 Q) (hk : Q[k]? = some x) (hi : x.1.first[i]? = some v) : (lC Q)[k * 10 + i]? = some (b64 v) := by
  have hl := (List.getElem?_eq_some_iff.1 hi).1
  exact lC_at h8 hk (by rw [List.getElem?_append_left (by rw [List.length_map]; exact hl), List.getElem?_map, hi]; rfl)
theorem lC_puts {Q : List Lq} {k : Nat} {x : Lq} (h8 : First8 Q) (hk : Q[k]? = some x) : (lC Q)[k * 10 + 8]? = some x.2.1 := by
  have h := h8 x (List.mem_of_getElem? hk)
  exact lC_at h8 hk (by rw [List.getElem?_append_right (by rw [List.length_map, h]; exact Nat.le_refl _), List.length_map, h]; rfl)
theorem lC_fl {Q : List Lq} {k : Nat} {x : Lq} (h8 : First8 Q) (hk : Q[k]? = some x) : (lC Q)[k * 10 + 9]? = some x.2.2 := by
  have h := h8 x (List.mem_of_getElem? hk)
  exact lC_at h8 hk (by rw [List.getElem?_append_right (by rw [List.length_map, h]; decide), List.length_map, h]; rfl)
theorem lC_set : ∀ {Q : List Lq} {k i : Nat} {x x' : Lq} {u : Value}, First8 Q → Q[k]? = some x → i < 10 → (x.1.first.map b64 ++ [x.2.1, x.2.2]).set i u = x'.1.first.map b64 ++ [x'.2.1, x'.2.2] → (lC Q).set (k * 10 + i) u = lC (Q.set k x')
  | [], k, i, x, x', u, _, h, _, _ => by simp at h
  | y :: Q, 0, i, x, x', u, h8, h, hi, he => by
    obtain rfl : y = x := by simpa using h
    rw [lC_cons, Nat.zero_mul, Nat.zero_add, List.set_append_left _ _ (by rw [lC_head h8]; exact hi), he]; rfl
  | y :: Q, k + 1, i, x, x', u, h8, h, hi, he => by
    rw [lC_cons, List.set_append_right _ _ (by rw [lC_head h8]; omega), lC_head h8, show (k + 1) * 10 + i - 10 = k * 10 + i by omega, lC_set h8.tail (by simpa using h) hi he]; rfl
theorem lC_setPuts {Q : List Lq} {k : Nat} {x : Lq} {l' : Rl} {v : Value} (h8 : First8 Q) (hk : Q[k]? = some x) (hl : l'.first = x.1.first) : (lC Q).set (k * 10 + 8) v = lC (Q.set k (l', v, x.2.2)) := by
  have h := h8 x (List.mem_of_getElem? hk)
  refine lC_set h8 hk (by omega) ?_
  rw [List.set_append_right _ _ (by rw [List.length_map, h]; exact Nat.le_refl _), List.length_map, h, hl]; rfl
theorem lC_setFl {Q : List Lq} {k : Nat} {x : Lq} {l' : Rl} {v : Value} (h8 : First8 Q) (hk : Q[k]? = some x) (hl : l'.first = x.1.first) : (lC Q).set (k * 10 + 9) v = lC (Q.set k (l', x.2.1, v)) := by
  have h := h8 x (List.mem_of_getElem? hk)
  refine lC_set h8 hk (by omega) ?_
  rw [List.set_append_right _ _ (by rw [List.length_map, h]; decide), List.length_map, h, hl]; rfl
theorem lC_setFirst {Q : List Lq} {k i : Nat} {x : Lq} {v : BitVec 64} (h8 : First8 Q) (hk : Q[k]? = some x) (hi : i < 8) : (lC Q).set (k * 10 + i) (b64 v) = lC (Q.set k ({ x.1 with first := x.1.first.set i v }, x.2.1, x.2.2)) := by
  have h := h8 x (List.mem_of_getElem? hk)
  refine lC_set h8 hk (by omega) ?_
  rw [List.set_append_left _ _ (by rw [List.length_map, h]; exact hi), ← List.map_set]
def purow (v : Value) (l : List (Nat × BitVec 64 × Nat)) : Res := rowR v tPu 3 l.length (pC l)
def flrow (v : Value) (l : List Nat) : Res := rowR v tI 1 l.length (fC l)
def lI (Q : List Lq) (k : Nat) : Option Res := match Q[k]? with | some x => some (star [purow x.2.1 x.1.puts, flrow x.2.2 x.1.fl]) | none => none
theorem lI_some {Q : List Lq} {k : Nat} {x : Lq} (h : Q[k]? = some x) : lI Q k = some (star [purow x.2.1 x.1.puts, flrow x.2.2 x.1.fl]) := by unfold lI; rw [h]
theorem lI_set {Q : List Lq} {k : Nat} {x' : Lq} (h : k < Q.length) : upd (upd (lI Q) k none) k (some (star [purow x'.2.1 x'.1.puts, flrow x'.2.2 x'.1.fl])) = lI (Q.set k x') := by
  funext j
  by_cases hj : j = k
  · subst hj; rw [upd_at, lI_some (List.getElem?_set_self h)]
  · rw [upd_ne _ _ hj, upd_ne _ _ hj]; unfold lI; rw [List.getElem?_set_ne (Ne.symm hj)]
theorem lI_first {Q : List Lq} {k : Nat} {x x' : Lq} (hk : Q[k]? = some x) (h1 : x'.1.puts = x.1.puts) (h2 : x'.1.fl = x.1.fl) (h3 : x'.2 = x.2) : lI (Q.set k x') = lI Q := by
  funext j
  by_cases hj : j = k
  · subst hj; rw [lI_some (List.getElem?_set_self (List.getElem?_eq_some_iff.1 hk).1), lI_some hk, h1, h2, h3]
  · unfold lI; rw [List.getElem?_set_ne (Ne.symm hj)]
theorem pC_at : ∀ {L : List (Nat × BitVec 64 × Nat)} {j i : Nat} {c : Nat × BitVec 64 × Nat} {u : Value}, L[j]? = some c → ([.int .i64 (c.1 : Int), b64 c.2.1, .int .i64 (c.2.2 : Int)] : List Value)[i]? = some u → (pC L)[j * 3 + i]? = some u
  | d :: L, 0, i, c, u, h, hu => by
    have : d = c := by simpa using h
    subst this
    have hi : i < 3 := (List.getElem?_eq_some_iff.1 hu).1
    show ([.int .i64 (d.1 : Int), b64 d.2.1, .int .i64 (d.2.2 : Int)] ++ pC L)[0 * 3 + i]? = some u
    rw [Nat.zero_mul, Nat.zero_add, List.getElem?_append_left hi]; exact hu
  | d :: L, j + 1, i, c, u, h, hu => by
    have h' : L[j]? = some c := by simpa using h
    have := pC_at h' hu
    show ([.int .i64 (d.1 : Int), b64 d.2.1, .int .i64 (d.2.2 : Int)] ++ pC L)[(j + 1) * 3 + i]? = some u
    rw [List.getElem?_append_right (by simp; omega)]
    simpa [show (j + 1) * 3 + i - 3 = j * 3 + i by omega] using this
theorem pC_snoc (L : List (Nat × BitVec 64 × Nat)) (c : Nat × BitVec 64 × Nat) : pC (L ++ [c]) = pC L ++ [.int .i64 (c.1 : Int), b64 c.2.1, .int .i64 (c.2.2 : Int)] := by simp [pC]
structure Rgood (ρ : Rs) : Prop where
  pos : 0 < ρ.ls.length
  len : ρ.ls.length ≤ 8192
  now : ρ.now ≤ 1099511627776
  fen : ρ.fenced ≤ ρ.now
  left : -1 ≤ ρ.left ∧ ρ.left ≤ 9223372036854775807
  line : ∀ l ∈ ρ.ls, l.first.length = 8 ∧ l.puts.length ≤ ρ.now ∧ l.fl.length ≤ ρ.now ∧ (∀ c ∈ l.puts, c.1 < 8 ∧ c.2.2 ≤ ρ.now) ∧ (∀ t ∈ l.fl, t ≤ ρ.now)
def rdevL (p : Nat) (γ : Rg) (ρ : Rs) : List Res :=
  [blk p tRD [γ.vl, .int .i64 (ρ.fenced : Int), .int .i64 (ρ.now : Int), .int .i64 ρ.left], rowR γ.vl tLn 10 γ.Q.length (lC γ.Q), fam (lI γ.Q), factR (γ.Q.map Prod.fst = ρ.ls ∧ Rgood ρ)]
def RDev (p : Nat) (γ : Rg) (ρ : Rs) : Res := star (rdevL p γ ρ)
section
variable {P : Program} {Γ : Ctx} {E : Env} {H L F : List Res} {ops : Array Oper} {R : Exit → Act → World → Prop} {rest : List Oper} {w0 w w' : World} {S : Nat → Prop} {φ : Act → World → Prop} {ψ : Act → Prop}
  {d : Nat} {dst : Option Tmp} {g : Option (Nat × Bool)} {ty : TypeId} {pos : String} {after : Array Edge} {x y z : Operand} {v u : Value} {p : Nat} {γ : Rg} {ρ ρ' : Rs} {Q : List Lq} {q : Lq}
theorem RDev.facts (h : (RDev p γ ρ).holds w) : γ.Q.map Prod.fst = ρ.ls ∧ Rgood ρ := h.2 (factR (γ.Q.map Prod.fst = ρ.ls ∧ Rgood ρ)) (by simp [rdevL])
theorem first8_of (hQ : γ.Q.map Prod.fst = ρ.ls) (hg : Rgood ρ) : First8 γ.Q := fun x hx => (hg.line x.1 (by rw [← hQ]; exact List.mem_map.2 ⟨x, hx, rfl⟩)).1
/-! ### rows that are owned somewhere in H -/
theorem Val.lenO {t el e sz n : Nat} {xs : List Value} (h : ∀ w, Rep Γ.w0 Γ.S H w → w.ownsRow 0 e sz v n xs) (hsz : 0 < sz) (hu : P.underlying t = some (.slice el)) (hx : ev E x = some v) :
    Val P Γ E H ⟨dst, .call { callee := .builtin .len, args := #[x], argTypes := #[t] }, ty, pos, after, g⟩ (.int .i64 n) := fun a w ha hw => Val.lenRd (row_rd (h w hw) hsz) hu hx a w ha hw
theorem Val.indexO {t el e sz n : Nat} {xs : List Value} {k : IntKind} {j : Int} (h : ∀ w, Rep Γ.w0 Γ.S H w → w.ownsRow 0 e sz v n xs) (m : Nat) (hm : j.toNat * sz = m) (hu : P.underlying t = some (.slice el)) (hs : ∀ w, (sizeOf el).run P w = .ok sz w) (hx : ev E x = some v) (hy : ev E y = some (.int k j))
    (h0 : 0 ≤ j) (h1 : j < n) : Val P Γ E H ⟨dst, .indexAddr t x y, ty, pos, after, g⟩ (.pointer (some ⟨rowB v, m, none⟩)) := fun a w ha hw => by
  rcases (h w hw).2 with ⟨rfl, h2⟩ | ⟨b, cap, cur, rfl, _⟩
  · omega
  · have := Val.indexSl (P := P) (Γ := Γ) (E := E) (H := H) (dst := dst) (g := g) (ty := ty) (pos := pos) (after := after) (y := y) (o := 0) m (by omega) hu hs hx hy h0 h1 a w ha hw
    simpa [rowB, Value.ownBlock] using this
theorem Val.loadO {t e sz n m : Nat} {xs : List Value} (h : ∀ w, Rep Γ.w0 Γ.S H w → w.ownsRow 0 e sz v n xs) (hA : ∀ w, (isAgg t).run P w = .ok false w) (hx : ev E x = some (.pointer (some ⟨rowB v, m, none⟩))) (hv : xs[m]? = some u) :
    Val P Γ E H ⟨dst, .load t x, ty, pos, after, g⟩ u := fun a w ha hw => by
  have := run_loadAt_cell (P := P) hA (row_cell (h w hw) hv)
  simp [execOp, ha.eval hx, Sem.run_bind, this]
theorem fam_puts {i k : Nat} (hi : H[i]? = some (fam (lI Q))) (hk : Q[k]? = some q) (w : World) (hw : Rep w0 S H w) : w.ownsRow 0 tPu 3 q.2.1 q.1.puts.length (pC q.1.puts) := by
  have h : (fam (lI Q)).holds w := hw.all _ (List.mem_of_getElem? hi)
  exact (h.1 k _ (lI_some hk)).2 (purow q.2.1 q.1.puts) (by simp)
theorem fam_fls {i k : Nat} (hi : H[i]? = some (fam (lI Q))) (hk : Q[k]? = some q) (w : World) (hw : Rep w0 S H w) : w.ownsRow 0 tI 1 q.2.2 q.1.fl.length (fC q.1.fl) := by
  have h : (fam (lI Q)).holds w := hw.all _ (List.mem_of_getElem? hi)
  exact (h.1 k _ (lI_some hk)).2 (flrow q.2.2 q.1.fl) (by simp)
theorem At.focusL (i : Nat) {k : Nat} (hi : H[i]? = some (fam (lI Q))) (hk : Q[k]? = some q) (c : At Γ E (purow q.2.1 q.1.puts :: flrow q.2.2 q.1.fl :: fam (upd (lI Q) k none) :: H.eraseIdx i) φ) : At Γ E H φ := fun a w ha hw =>
  c a w ha ((hw.perm (erase_perm H i _ hi)).focus (lI_some hk)).openS
theorem At.unfocusL {k : Nat} {q' : Lq} (hk : k < Q.length) (c : At Γ E (fam (lI (Q.set k q')) :: H) φ) : At Γ E (purow q'.2.1 q'.1.puts :: flrow q'.2.2 q'.1.fl :: fam (upd (lI Q) k none) :: H) φ := fun a w ha hw => by
  have h1 : Rep Γ.w0 Γ.S (star [purow q'.2.1 q'.1.puts, flrow q'.2.2 q'.1.fl] :: fam (upd (lI Q) k none) :: H) w := Rep.shutS (L := [purow q'.2.1 q'.1.puts, flrow q'.2.2 q'.1.fl]) hw
  have h2 := h1.unfocus (upd_at ..)
  rw [lI_set hk] at h2
  exact c a w ha h2
theorem At.appendFl {i j t e by_ b U : Nat} {ti : TypeInfo} {z : Value} {l : List Nat} {c : Nat} (ht : P.underlying t = some (.slice e)) (hti : P.info? e = some ti) (hz : ti.zero = some z) (hsize : ti.size = 1) (hby : ti.bytes = by_) (hzs : z.cells.size = 1) (he : e = tI)
    (hx : ev E x = some v) (hy : ev E y = some (.slice (some ⟨b, 0, none⟩) 1 1)) (hi : H[i]? = some (flrow v l)) (hj : H[j]? = some (blk b U [.int .i64 (c : Int)])) (h63 : (l.length + 1) * by_ ≤ 140737488355328) (h64 : l.length + 1 ≤ 140737488355328) (hn : Nat.blt d Γ.n = true)
    (k : ∀ v', At Γ ((d, v') :: E) (H.set i (flrow v' (l ++ [c]))) (wpList P ops R rest)) :
    At Γ E H (wpList P ops R ({ dst := some d, op := .call { callee := .builtin .append, args := #[x, y], argTypes := #[t, t] }, type := ty, pos, after, guard := none } :: rest)) := by
  subst he
  exact At.append (i := i) (ys := [.int .i64 (c : Int)]) ht hti hz hsize hby hzs rfl hx hy hi rfl (fun w hw j' u hj' => by rw [Nat.zero_add]; exact ((hw.blk hj).cell j').trans hj') (by simp [Value.oneCell']) h63 h64 hn fun v' => by
    have := k v'
    simpa only [flrow, fC, List.map_append, List.map_cons, List.map_nil, List.length_append, List.length_cons, List.length_nil, Nat.zero_add] using this
theorem At.appendPu {i j t e by_ b U : Nat} {ti : TypeInfo} {z : Value} {l : List (Nat × BitVec 64 × Nat)} {c : Nat × BitVec 64 × Nat} (ht : P.underlying t = some (.slice e)) (hti : P.info? e = some ti) (hz : ti.zero = some z) (hsize : ti.size = 3) (hby : ti.bytes = by_) (hzs : z.cells.size = 3) (he : e = tPu)
    (hx : ev E x = some v) (hy : ev E y = some (.slice (some ⟨b, 0, none⟩) 1 1)) (hi : H[i]? = some (purow v l)) (hj : H[j]? = some (blk b U [.int .i64 (c.1 : Int), b64 c.2.1, .int .i64 (c.2.2 : Int)])) (h63 : (l.length + 1) * by_ ≤ 140737488355328) (h64 : l.length + 1 ≤ 140737488355328) (hn : Nat.blt d Γ.n = true)
    (k : ∀ v', At Γ ((d, v') :: E) (H.set i (purow v' (l ++ [c]))) (wpList P ops R rest)) :
    At Γ E H (wpList P ops R ({ dst := some d, op := .call { callee := .builtin .append, args := #[x, y], argTypes := #[t, t] }, type := ty, pos, after, guard := none } :: rest)) := by
  subst he
  exact At.append (i := i) (ys := [.int .i64 (c.1 : Int), b64 c.2.1, .int .i64 (c.2.2 : Int)]) ht hti hz hsize hby hzs rfl hx hy hi rfl (fun w hw j' u hj' => by rw [Nat.zero_add]; exact ((hw.blk hj).cell j').trans hj')
    (by intro u hu; simp only [List.mem_cons, List.not_mem_nil, or_false] at hu; rcases hu with rfl | rfl | rfl <;> rfl) h63 h64 hn fun v' => by
    have := k v'
    simpa only [purow, pC_snoc, List.length_append, List.length_cons, List.length_nil, Nat.zero_add] using this
theorem At.rot2 {a b c : Res} (h : At Γ E (b :: c :: a :: F) φ) : At Γ E (a :: b :: c :: F) φ := fun q w ha hw => h q w ha (hw.perm (List.perm_middle (l₁ := [b, c])).symm)
/-! ### contracts -/
def RDevU (P : Program) (f : FuncId) (vs : List Value) (p : Nat) (γ : Rg) (ρ : Rs) (v : Value) (ρ' : Rs) (w : World) : Prop := Calls P f vs.toArray w fun e w' => ∃ γ', e = .returned v ∧ Rep w (feet [RDev p γ ρ]) [RDev p γ' ρ'] w'
theorem At.callRD (i : Nat) {f : FuncId} {l : List Operand} {vs : List Value} {at_ : Array TypeId} (hi : H[i]? = some (RDev p γ ρ)) (h : ∀ w, Rep Γ.w0 Γ.S H w → (RDev p γ ρ).holds w → RDevU P f vs p γ ρ v ρ' w) (hc : ∀ args w, (callFunc f args).run P w = .ok (.enter f args) w) (hv : evs E l = some vs) (hn : Nat.blt d Γ.n = true)
    (c : ∀ γ', At Γ ((d, v) :: E) (H.set i (RDev p γ' ρ')) (wpList P ops R rest)) :
    At Γ E H (wpList P ops R ({ dst := some d, op := .call { callee := .value (.func f), args := l.toArray, argTypes := at_ }, type := ty, pos, after, guard := none } :: rest)) :=
  At.call hc hv hn fun w hw => (h w hw (hw.all _ (List.mem_of_getElem? hi))).mono fun e w' ⟨γ', he, hr⟩ => ⟨v, _, he, Rep.frame1 (X := []) hi hw hr, c γ'⟩
def NewRDev (P : Program) (f : FuncId) (vs : List Value) (ρ : Rs) (w : World) : Prop := Calls P f vs.toArray w fun e w' => ∃ p γ, e = .returned (.tuple #[.pointer (some ⟨p, 0, none⟩), .int .i64 0]) ∧ Rep w (feet []) [RDev p γ ρ] w'
theorem At.callNRD {f : FuncId} {l : List Operand} {vs : List Value} {at_ : Array TypeId} (h : ∀ w, Rep Γ.w0 Γ.S H w → NewRDev P f vs ρ w) (hc : ∀ args w, (callFunc f args).run P w = .ok (.enter f args) w) (hv : evs E l = some vs) (hn : Nat.blt d Γ.n = true)
    (c : ∀ p γ, At Γ ((d, .tuple #[.pointer (some ⟨p, 0, none⟩), .int .i64 0]) :: E) (RDev p γ ρ :: H) (wpList P ops R rest)) :
    At Γ E H (wpList P ops R ({ dst := some d, op := .call { callee := .value (.func f), args := l.toArray, argTypes := at_ }, type := ty, pos, after, guard := none } :: rest)) :=
  At.call hc hv hn fun w hw => (h w hw).mono fun e w' ⟨p, γ, he, hr⟩ => ⟨_, _, he, by
    have := Rep.frame (H0 := []) (F := H) (by simpa using hw) hr
    simpa using this, c p γ⟩
/-- A call that changes the document's device; something is known of what it is then. -/
def RDevP (P : Program) (f : FuncId) (vs : List Value) (p : Nat) (γ : Rg) (ρ : Rs) (v : Value) (I : Rs → Prop) (w : World) : Prop := Calls P f vs.toArray w fun e w' => ∃ γ' ρ', e = .returned v ∧ I ρ' ∧ Rep w (feet [RDev p γ ρ]) [RDev p γ' ρ'] w'
theorem At.callRP (i : Nat) {I : Rs → Prop} {f : FuncId} {l : List Operand} {vs : List Value} {at_ : Array TypeId} (hi : H[i]? = some (RDev p γ ρ)) (h : ∀ w, Rep Γ.w0 Γ.S H w → (RDev p γ ρ).holds w → RDevP P f vs p γ ρ v I w) (hc : ∀ args w, (callFunc f args).run P w = .ok (.enter f args) w) (hv : evs E l = some vs) (hn : Nat.blt d Γ.n = true)
    (c : ∀ γ' ρ', I ρ' → At Γ ((d, v) :: E) (H.set i (RDev p γ' ρ')) (wpList P ops R rest)) :
    At Γ E H (wpList P ops R ({ dst := some d, op := .call { callee := .value (.func f), args := l.toArray, argTypes := at_ }, type := ty, pos, after, guard := none } :: rest)) :=
  At.call hc hv hn fun w hw => (h w hw (hw.all _ (List.mem_of_getElem? hi))).mono fun e w' ⟨γ', ρ', he, hI, hr⟩ => ⟨v, _, he, Rep.frame1 (X := []) hi hw hr, c γ' ρ' hI⟩
theorem RDevU.toP {f : FuncId} {vs : List Value} {I : Rs → Prop} (h : RDevU P f vs p γ ρ v ρ' w) (hI : I ρ') : RDevP P f vs p γ ρ v I w := h.mono fun e w' ⟨γ', he, hr⟩ => ⟨γ', ρ', he, hI, hr⟩
theorem upd_toP {f : FuncId} {vs : List Value} {I : Rs → Prop} (h : Upd P f vs (RDev p γ ρ) v (RDev p γ ρ) w) (hI : I ρ) : RDevP P f vs p γ ρ v I w := h.mono fun e w' ⟨he, hr⟩ => ⟨γ, ρ, he, hI, hr⟩
/-- A call that reads one resource and makes a row, and answers something around it. -/
def RowKT (P : Program) (f : FuncId) (vs : List Value) (r : Res) (gv : Value → Value) (e sz n : Nat) (xs : List Value) (w : World) : Prop := Calls P f vs.toArray w fun q w' => ∃ v', q = .returned (gv v') ∧ Rep w (feet [r]) [rowR v' e sz n xs, r] w'
theorem At.callRKT (i : Nat) {r : Res} {gv : Value → Value} {e sz n : Nat} {xs : List Value} {f : FuncId} {l : List Operand} {vs : List Value} {at_ : Array TypeId} (hi : H[i]? = some r) (h : ∀ w, Rep Γ.w0 Γ.S H w → r.holds w → RowKT P f vs r gv e sz n xs w) (hc : ∀ args w, (callFunc f args).run P w = .ok (.enter f args) w) (hv : evs E l = some vs) (hn : Nat.blt d Γ.n = true)
    (c : ∀ v', At Γ ((d, gv v') :: E) (rowR v' e sz n xs :: H) (wpList P ops R rest)) :
    At Γ E H (wpList P ops R ({ dst := some d, op := .call { callee := .value (.func f), args := l.toArray, argTypes := at_ }, type := ty, pos, after, guard := none } :: rest)) :=
  At.call hc hv hn fun w hw => (h w hw (hw.all _ (List.mem_of_getElem? hi))).mono fun q w' ⟨v', he, hr⟩ => ⟨gv v', _, he, by
    have h1 : Rep Γ.w0 Γ.S ([r] ++ H.eraseIdx i) w := hw.perm (erase_perm H i r hi)
    exact (h1.frame (H0' := [rowR v' e sz n xs, r]) hr).perm ((erase_perm H i r hi).symm.cons _), c v'⟩
theorem enterR {f : FuncId} {fn : Func} {c : Code} {vs : List Value} {w : World} {R : Ending → World → Prop} {n : Nat} (hd : (RDev p γ ρ).holds w) (hf : P.funcs[f]? = some fn) (hb : fn.body = some c) (hn : fn.ntmps = n) (hl : Nat.ble vs.length n = true)
    (k : At ⟨w, feet [RDev p γ ρ], n, []⟩ (envOf 0 vs) (rdevL p γ ρ) (c.wp P (bodyPost P fn R))) : Calls P f vs.toArray w R := enter (feet [RDev p γ ρ]) (rdevL p γ ρ) hf hb hn hl (Rep.of_star (r := RDev p γ ρ) hd) k
theorem enterRc {f : FuncId} {fn : Func} {c : Code} {vs : List Value} {w : World} {R : Ending → World → Prop} {n : Nat} (hd : (RDev p γ ρ).holds w) (hf : P.funcs[f]? = some fn) (hb : fn.body = some c) (hn : fn.ntmps = n) (hl : Nat.ble vs.length n = true)
    (k : At ⟨w, feet [RDev p γ ρ], n, []⟩ (envOf 0 vs) [RDev p γ ρ] (c.wp P (bodyPost P fn R))) : Calls P f vs.toArray w R := enter (feet [RDev p γ ρ]) [RDev p γ ρ] hf hb hn hl (Rep.one hd) k
theorem retR {F : List Res} (hw : Rep w S (rdevL p γ ρ ++ F) w') : Rep w S [RDev p γ ρ] w' := (hw.shutS).drop ((List.nil_sublist F).cons_cons _)
theorem retRR {r : Res} {F : List Res} (hw : Rep w S (r :: rdevL p γ ρ ++ F) w') : Rep w S [r, RDev p γ ρ] w' := by
  have h1 : Rep w S (rdevL p γ ρ ++ (r :: F)) w' := hw.perm (List.perm_middle (l₁ := rdevL p γ ρ)).symm
  exact ((h1.shutS).perm (List.Perm.swap ..)).drop ((List.nil_sublist F).cons_cons _ |>.cons_cons _)
theorem toRDev {F : List Res} {a b c : Res} (hq : γ.Q.map Prod.fst = ρ.ls) (hg : Rgood ρ) (hw : Rep w S (a :: b :: c :: F) w') (ha : a = blk p tRD [γ.vl, .int .i64 (ρ.fenced : Int), .int .i64 (ρ.now : Int), .int .i64 ρ.left]) (hb : b = rowR γ.vl tLn 10 γ.Q.length (lC γ.Q)) (hc : c = fam (lI γ.Q)) : Rep w S (RDev p γ ρ :: F) w' := by
  subst ha hb hc
  have h1 : Rep w S (factR (γ.Q.map Prod.fst = ρ.ls ∧ Rgood ρ) :: _) w' := Rep.fact ⟨hq, hg⟩ hw
  have h2 : Rep w S (rdevL p γ ρ ++ F) w' := h1.perm (List.perm_middle (l₁ := [_, _, _]) (a := factR (γ.Q.map Prod.fst = ρ.ls ∧ Rgood ρ)) (l₂ := F)).symm
  exact h2.shutS
theorem toRDev1 {F : List Res} {a b c : Res} (hq : γ.Q.map Prod.fst = ρ.ls) (hg : Rgood ρ) (hw : Rep w S (a :: b :: c :: F) w') (ha : a = blk p tRD [γ.vl, .int .i64 (ρ.fenced : Int), .int .i64 (ρ.now : Int), .int .i64 ρ.left]) (hb : b = rowR γ.vl tLn 10 γ.Q.length (lC γ.Q)) (hc : c = fam (lI γ.Q)) : Rep w S [RDev p γ ρ] w' :=
  (toRDev hq hg hw ha hb hc).drop ((List.nil_sublist F).cons_cons _)
end
end Go.Wk
set_option linter.unusedVariables false
set_option linter.unusedSimpArgs false
namespace Go.Proofs.YthhkbbodhghmcaaGreatDoor
open Go Go.Wk
def hasR (ρ : Rs) (a n : Int) : Bool := decide (0 ≤ a ∧ 0 ≤ n ∧ a ≤ 64 * (ρ.ls.length : Int) ∧ n ≤ 64 * (ρ.ls.length : Int) - a)
def wrongE (ρ : Rs) (a : Int) : Int := if 0 ≤ a ∧ a < 64 * (ρ.ls.length : Int) then (if a % 8 = 0 then 0 else 12) else 11
def stepR (ρ : Rs) : Rs := { ρ with now := ρ.now + 1, left := if ρ.left > 0 then ρ.left - 1 else ρ.left }
def fenceR (ρ : Rs) : Rs := { stepR ρ with fenced := ρ.now + 1 }
def armR (ρ : Rs) (m : Nat) : Rs := { ρ with left := (m : Int) }
theorem stepR_good {ρ : Rs} (h : Rgood ρ) (hs : ρ.now + 1 ≤ 1099511627776) : Rgood (stepR ρ) :=
  ⟨h.pos, h.len, hs, Nat.le_succ_of_le h.fen, by have := h.left; unfold stepR; simp only; split <;> omega, fun l hl => by
    obtain ⟨h1, h2, h3, h4, h5⟩ := h.line l hl
    exact ⟨h1, Nat.le_succ_of_le h2, Nat.le_succ_of_le h3, fun c hc => ⟨(h4 c hc).1, Nat.le_succ_of_le (h4 c hc).2⟩, fun t ht => Nat.le_succ_of_le (h5 t ht)⟩⟩
theorem fenceR_good {ρ : Rs} (h : Rgood ρ) (hs : ρ.now + 1 ≤ 1099511627776) : Rgood (fenceR ρ) :=
  have h1 := stepR_good h hs
  ⟨h1.pos, h1.len, h1.now, Nat.le_refl _, h1.left, h1.line⟩
theorem armR_good {ρ : Rs} {m : Nat} (h : Rgood ρ) (hm : m ≤ 9223372036854775807) : Rgood (armR ρ m) := ⟨h.pos, h.len, h.now, h.fen, ⟨by show (-1 : Int) ≤ (m : Int); omega, by show (m : Int) ≤ _; omega⟩, h.line⟩
theorem rsize_k (p : Nat) (γ : Rg) (ρ : Rs) (w : World) (hd : (RDev p γ ρ).holds w) :
    Upd Tryz.prog 31 [.pointer (some ⟨p, 0, none⟩)] (RDev p γ ρ) (.int .i64 (64 * (ρ.ls.length : Int))) (RDev p γ ρ) w := by
 refine enterR hd Tryz.func31 rfl Tryz.ntmps31 rfl ?_
 unfold rdevL
 obtain ⟨hQ, hg⟩ := RDev.facts hd
 have hln := hg.len
 have hps := hg.pos
 have hnw := hg.now
 have h8 := first8_of hQ hg
 have hQl : γ.Q.length = ρ.ls.length := by rw [← hQ, List.length_map]
 simp only [envOf]
 refine tR ?_
 refine tA rfl rfl ?_
 refine tE ?_
 refine tR ?_
 refine tM rfl rfl ?_
 refine At.val (Val.nilCheck rfl) rfl rfl rfl ?_
 refine At.val (Val.field 0 rfl fo_50_0 rfl) rfl rfl rfl ?_
 refine At.val (Val.load (i := 0) Tryz.isAgg48 rfl rfl rfl) rfl rfl rfl ?_
 refine At.val (Val.lenRow (i := 1) Tryz.underlying48 rfl rfl) rfl rfl rfl ?_
 first | refine At.val (Val.mulI rfl rfl (by omega) (by omega)) rfl rfl rfl ?_ | refine At.val (Val.bin rfl rfl rfl) rfl rfl rfl ?_
 refine tA rfl rfl ?_
 refine tE ?_
 refine At.retC ?_
 refine At.ret1 (.inl rfl) rfl rfl rfl (fun w hw => ?_)
 exact ⟨by rw [hQl], retR (F := []) hw⟩
theorem rsteps_k (p : Nat) (γ : Rg) (ρ : Rs) (w : World) (hd : (RDev p γ ρ).holds w) :
    Upd Tryz.prog 43 [.pointer (some ⟨p, 0, none⟩)] (RDev p γ ρ) (.int .i64 (ρ.now : Int)) (RDev p γ ρ) w := by
 refine enterR hd Tryz.func43 rfl Tryz.ntmps43 rfl ?_
 unfold rdevL
 obtain ⟨hQ, hg⟩ := RDev.facts hd
 have hln := hg.len
 have hps := hg.pos
 have hnw := hg.now
 have h8 := first8_of hQ hg
 have hQl : γ.Q.length = ρ.ls.length := by rw [← hQ, List.length_map]
 simp only [envOf]
 refine tR ?_
 refine tA rfl rfl ?_
 refine tE ?_
 refine tR ?_
 refine tM rfl rfl ?_
 refine At.val (Val.nilCheck rfl) rfl rfl rfl ?_
 refine At.val (Val.field 2 rfl fo_50_2 rfl) rfl rfl rfl ?_
 refine At.val (Val.load (i := 0) Tryz.isAgg3 rfl rfl rfl) rfl rfl rfl ?_
 refine tA rfl rfl ?_
 refine tE ?_
 refine At.retC ?_
 refine At.ret1 (.inl rfl) rfl rfl rfl (fun w hw => ?_)
 exact ⟨rfl, retR (F := []) hw⟩
theorem rdead_k (p : Nat) (γ : Rg) (ρ : Rs) (w : World) (hd : (RDev p γ ρ).holds w) :
    Upd Tryz.prog 45 [.pointer (some ⟨p, 0, none⟩)] (RDev p γ ρ) (.bool (ρ.left == 0)) (RDev p γ ρ) w := by
 refine enterR hd Tryz.func45 rfl Tryz.ntmps45 rfl ?_
 unfold rdevL
 obtain ⟨hQ, hg⟩ := RDev.facts hd
 have hln := hg.len
 have hps := hg.pos
 have hnw := hg.now
 have h8 := first8_of hQ hg
 have hQl : γ.Q.length = ρ.ls.length := by rw [← hQ, List.length_map]
 simp only [envOf]
 refine tR ?_
 refine tA rfl rfl ?_
 refine tE ?_
 refine tR ?_
 refine tM rfl rfl ?_
 refine At.val (Val.nilCheck rfl) rfl rfl rfl ?_
 refine At.val (Val.field 3 rfl fo_50_3 rfl) rfl rfl rfl ?_
 refine At.val (Val.load (i := 0) Tryz.isAgg3 rfl rfl rfl) rfl rfl rfl ?_
 refine At.val (Val.bin rfl rfl rfl) rfl rfl rfl ?_
 refine tA rfl rfl ?_
 refine tE ?_
 refine At.retC ?_
 refine At.ret1 (.inl rfl) rfl rfl rfl (fun w hw => ?_)
 exact ⟨rfl, retR (F := []) hw⟩
theorem inside_k (p : Nat) (γ : Rg) (ρ : Rs) (a n : Int) (w : World) (hd : (RDev p γ ρ).holds w) :
    Upd Tryz.prog 79 [.pointer (some ⟨p, 0, none⟩), .int .i64 a, .int .i64 n] (RDev p γ ρ) (.bool (hasR ρ a n)) (RDev p γ ρ) w := by
 refine enterRc hd Tryz.func79 rfl Tryz.ntmps79 rfl ?_
 obtain ⟨hQ, hg⟩ := RDev.facts hd
 have hln := hg.len
 have hps := hg.pos
 have hnw := hg.now
 simp only [envOf]
 refine tR ?_
 refine tA rfl rfl ?_
 refine tE ?_
 refine tR ?_
 refine tM rfl rfl ?_
 refine At.weaken [(0, _), (1, _), (2, _), (6, _), (7, _)] (Sub.cons rfl (Sub.cons rfl (Sub.cons rfl (Sub.cons rfl (Sub.cons rfl Sub.nil))))) ?_
 refine At.boolMeet 19 26 (hasR ρ a n) ?_ ?_
 ·skip
  simp only [List.take_succ_cons, List.take_zero]
  refine At.val (Val.bin rfl rfl rfl) rfl rfl rfl ?_
  refine tM rfl rfl ?_
  refine At.split (t := 9) rfl (fun h1 => ?_) (fun h1 => ?_)
  ·skip
   try simp only [hasB, isSizeB, Bool.not_eq_true', Bool.not_eq_false', bne_iff_ne, ne_eq, bne_eq_false_iff_eq, beq_iff_eq, beq_eq_false_iff_ne, decide_eq_true_eq, decide_eq_false_iff_not, gt_iff_lt, ge_iff_le] at h1
   refine At.yes rfl rfl ?_
   refine tM rfl rfl ?_
   refine At.yes rfl rfl ?_
   refine At.val (Val.bin rfl rfl rfl) rfl rfl rfl ?_
   refine At.val (Val.pickT rfl rfl) rfl rfl rfl ?_
   refine tM rfl rfl ?_
   refine At.split (t := 13) rfl (fun h2 => ?_) (fun h2 => ?_)
   ·skip
    try simp only [hasB, isSizeB, Bool.not_eq_true', Bool.not_eq_false', bne_iff_ne, ne_eq, bne_eq_false_iff_eq, beq_iff_eq, beq_eq_false_iff_ne, decide_eq_true_eq, decide_eq_false_iff_not, gt_iff_lt, ge_iff_le] at h2
    refine At.yes rfl rfl ?_
    refine tM rfl rfl ?_
    refine At.yes rfl rfl ?_
    refine tM rfl rfl ?_
    refine At.yes rfl rfl ?_
    refine At.callK 0 rfl (fun w hw hr => rsize_k _ _ _ w hr) Tryz.call31 rfl rfl ?_
    refine At.yes rfl rfl ?_
    refine At.val (Val.bin rfl rfl rfl) rfl rfl rfl ?_
    refine At.val (Val.pickT rfl rfl) rfl rfl rfl ?_
    refine tM rfl rfl ?_
    refine At.split (t := 19) rfl (fun h3 => ?_) (fun h3 => ?_)
    ·skip
     try simp only [hasB, isSizeB, Bool.not_eq_true', Bool.not_eq_false', bne_iff_ne, ne_eq, bne_eq_false_iff_eq, beq_iff_eq, beq_eq_false_iff_ne, decide_eq_true_eq, decide_eq_false_iff_not, gt_iff_lt, ge_iff_le] at h3
     refine At.yes rfl rfl ?_
     refine tM rfl rfl ?_
     refine At.yes rfl rfl ?_
     refine tM rfl rfl ?_
     refine At.yes rfl rfl ?_
     refine At.callK 0 rfl (fun w hw hr => rsize_k _ _ _ w hr) Tryz.call31 rfl rfl ?_
     refine At.yes rfl rfl ?_
     refine tM rfl rfl ?_
     refine At.yes rfl rfl ?_
     first | refine At.val (Val.subI rfl rfl (by omega) (by omega)) rfl rfl rfl ?_ | refine At.val (Val.bin rfl rfl rfl) rfl rfl rfl ?_
     refine At.yes rfl rfl ?_
     refine At.val (Val.bin rfl rfl rfl) rfl rfl rfl ?_
     refine At.val (Val.pickT rfl rfl) rfl rfl rfl ?_
     refine At.nil ?_
     exact At.boolEnd rfl (by unfold hasR; exact (by first | exact (decide_eq_true (by omega)).symm | exact (decide_eq_false (by omega)).symm | (apply Bool.eq_iff_iff.2; simp only [decide_eq_true_eq, beq_iff_eq, bne_iff_ne, ne_eq, Bool.not_eq_true', decide_eq_false_iff_not]; omega) | rfl | (simp_all; done) | (simp_all; omega))) (by repeat (first | exact Sub.nil | refine Sub.cons rfl ?_))
    ·skip
     try simp only [hasB, isSizeB, Bool.not_eq_true', Bool.not_eq_false', bne_iff_ne, ne_eq, bne_eq_false_iff_eq, beq_iff_eq, beq_eq_false_iff_ne, decide_eq_true_eq, decide_eq_false_iff_not, gt_iff_lt, ge_iff_le] at h3
     refine At.no rfl rfl rfl rfl ?_
     refine At.no rfl rfl rfl rfl ?_
     refine At.no rfl rfl rfl rfl ?_
     refine At.no rfl rfl rfl rfl ?_
     refine At.no rfl rfl rfl rfl ?_
     refine At.no rfl rfl rfl rfl ?_
     refine At.val (Val.pickF rfl rfl) rfl rfl rfl ?_
     refine At.nil ?_
     exact At.boolEnd rfl (by unfold hasR; exact (by first | exact (decide_eq_true (by omega)).symm | exact (decide_eq_false (by omega)).symm | (apply Bool.eq_iff_iff.2; simp only [decide_eq_true_eq, beq_iff_eq, bne_iff_ne, ne_eq, Bool.not_eq_true', decide_eq_false_iff_not]; omega) | rfl | (simp_all; done) | (simp_all; omega))) (by repeat (first | exact Sub.nil | refine Sub.cons rfl ?_))
   ·skip
    try simp only [hasB, isSizeB, Bool.not_eq_true', Bool.not_eq_false', bne_iff_ne, ne_eq, bne_eq_false_iff_eq, beq_iff_eq, beq_eq_false_iff_ne, decide_eq_true_eq, decide_eq_false_iff_not, gt_iff_lt, ge_iff_le] at h2
    refine At.no rfl rfl rfl rfl ?_
    refine At.no rfl rfl rfl rfl ?_
    refine At.no rfl rfl rfl rfl ?_
    refine At.no rfl rfl rfl rfl ?_
    refine At.val (Val.pickF rfl rfl) rfl rfl rfl ?_
    refine tM rfl rfl ?_
    refine At.no rfl rfl rfl rfl ?_
    refine At.no rfl rfl rfl rfl ?_
    refine At.no rfl rfl rfl rfl ?_
    refine At.no rfl rfl rfl rfl ?_
    refine At.no rfl rfl rfl rfl ?_
    refine At.no rfl rfl rfl rfl ?_
    refine At.val (Val.pickF rfl rfl) rfl rfl rfl ?_
    refine At.nil ?_
    exact At.boolEnd rfl (by unfold hasR; exact (by first | exact (decide_eq_true (by omega)).symm | exact (decide_eq_false (by omega)).symm | (apply Bool.eq_iff_iff.2; simp only [decide_eq_true_eq, beq_iff_eq, bne_iff_ne, ne_eq, Bool.not_eq_true', decide_eq_false_iff_not]; omega) | rfl | (simp_all; done) | (simp_all; omega))) (by repeat (first | exact Sub.nil | refine Sub.cons rfl ?_))
  ·skip
   try simp only [hasB, isSizeB, Bool.not_eq_true', Bool.not_eq_false', bne_iff_ne, ne_eq, bne_eq_false_iff_eq, beq_iff_eq, beq_eq_false_iff_ne, decide_eq_true_eq, decide_eq_false_iff_not, gt_iff_lt, ge_iff_le] at h1
   refine At.no rfl rfl rfl rfl ?_
   refine At.no rfl rfl rfl rfl ?_
   refine At.val (Val.pickF rfl rfl) rfl rfl rfl ?_
   refine tM rfl rfl ?_
   refine At.no rfl rfl rfl rfl ?_
   refine At.no rfl rfl rfl rfl ?_
   refine At.no rfl rfl rfl rfl ?_
   refine At.no rfl rfl rfl rfl ?_
   refine At.val (Val.pickF rfl rfl) rfl rfl rfl ?_
   refine tM rfl rfl ?_
   refine At.no rfl rfl rfl rfl ?_
   refine At.no rfl rfl rfl rfl ?_
   refine At.no rfl rfl rfl rfl ?_
   refine At.no rfl rfl rfl rfl ?_
   refine At.no rfl rfl rfl rfl ?_
   refine At.no rfl rfl rfl rfl ?_
   refine At.val (Val.pickF rfl rfl) rfl rfl rfl ?_
   refine At.nil ?_
   exact At.boolEnd rfl (by unfold hasR; exact (by first | exact (decide_eq_true (by omega)).symm | exact (decide_eq_false (by omega)).symm | (apply Bool.eq_iff_iff.2; simp only [decide_eq_true_eq, beq_iff_eq, bne_iff_ne, ne_eq, Bool.not_eq_true', decide_eq_false_iff_not]; omega) | rfl | (simp_all; done) | (simp_all; omega))) (by repeat (first | exact Sub.nil | refine Sub.cons rfl ?_))
 ·skip
  simp only [List.drop_succ_cons, List.drop_zero]
  refine tA rfl rfl ?_
  refine tE ?_
  refine At.retC ?_
  refine At.ret1 (.inl rfl) rfl rfl rfl (fun w hw => ?_)
  exact ⟨rfl, hw⟩
theorem wrong_k (p : Nat) (γ : Rg) (ρ : Rs) (a : Int) (w : World) (hd : (RDev p γ ρ).holds w) :
    Upd Tryz.prog 75 [.pointer (some ⟨p, 0, none⟩), .int .i64 a] (RDev p γ ρ) (.int .i64 (wrongE ρ a)) (RDev p γ ρ) w := by
 refine enterRc hd Tryz.func75 rfl Tryz.ntmps75 rfl ?_
 obtain ⟨hQ, hg⟩ := RDev.facts hd
 have hln := hg.len
 have hps := hg.pos
 have hnw := hg.now
 simp only [envOf]
 refine tR ?_
 refine tA rfl rfl ?_
 refine tE ?_
 refine At.seq ?_
 refine tR ?_
 refine tM rfl rfl ?_
 refine At.weaken [(0, _), (1, _), (4, _), (5, _)] (Sub.cons rfl (Sub.cons rfl (Sub.cons rfl (Sub.cons rfl Sub.nil)))) ?_
 refine At.boolMeet 7 12 (decide (a < 0 ∨ 64 * (ρ.ls.length : Int) ≤ a)) ?_ ?_
 ·skip
  simp only [List.take_succ_cons, List.take_zero]
  refine At.val (Val.bin rfl rfl rfl) rfl rfl rfl ?_
  refine tM rfl rfl ?_
  refine At.split (t := 7) rfl (fun h1 => ?_) (fun h1 => ?_)
  ·skip
   try simp only [hasB, isSizeB, Bool.not_eq_true', Bool.not_eq_false', bne_iff_ne, ne_eq, bne_eq_false_iff_eq, beq_iff_eq, beq_eq_false_iff_ne, decide_eq_true_eq, decide_eq_false_iff_not, gt_iff_lt, ge_iff_le] at h1
   refine At.no rfl rfl rfl rfl ?_
   refine At.no rfl rfl rfl rfl ?_
   refine At.no rfl rfl rfl rfl ?_
   refine At.no rfl rfl rfl rfl ?_
   refine At.val (Val.pickT rfl rfl) rfl rfl rfl ?_
   refine At.nil ?_
   exact At.boolEnd rfl (by first | exact (decide_eq_true (by omega)).symm | exact (decide_eq_false (by omega)).symm | (apply Bool.eq_iff_iff.2; simp only [decide_eq_true_eq, beq_iff_eq, bne_iff_ne, ne_eq, Bool.not_eq_true', decide_eq_false_iff_not]; omega) | rfl | (simp_all; done) | (simp_all; omega)) (by repeat (first | exact Sub.nil | refine Sub.cons rfl ?_))
  ·skip
   try simp only [hasB, isSizeB, Bool.not_eq_true', Bool.not_eq_false', bne_iff_ne, ne_eq, bne_eq_false_iff_eq, beq_iff_eq, beq_eq_false_iff_ne, decide_eq_true_eq, decide_eq_false_iff_not, gt_iff_lt, ge_iff_le] at h1
   refine At.yes rfl rfl ?_
   refine tM rfl rfl ?_
   refine At.yes rfl rfl ?_
   refine tM rfl rfl ?_
   refine At.yes rfl rfl ?_
   refine At.callK 0 rfl (fun w hw hr => rsize_k _ _ _ w hr) Tryz.call31 rfl rfl ?_
   refine At.yes rfl rfl ?_
   refine At.val (Val.bin rfl rfl rfl) rfl rfl rfl ?_
   refine At.val (Val.pickF rfl rfl) rfl rfl rfl ?_
   refine At.nil ?_
   exact At.boolEnd rfl (by first | exact (decide_eq_true (by omega)).symm | exact (decide_eq_false (by omega)).symm | (apply Bool.eq_iff_iff.2; simp only [decide_eq_true_eq, beq_iff_eq, bne_iff_ne, ne_eq, Bool.not_eq_true', decide_eq_false_iff_not]; omega) | rfl | (simp_all; done) | (simp_all; omega)) (by repeat (first | exact Sub.nil | refine Sub.cons rfl ?_))
 ·skip
  simp only [List.drop_succ_cons, List.drop_zero]
  refine tE ?_
  refine At.cond rfl (fun h2 => ?_) (fun h2 => ?_)
  ·skip
   try simp only [hasB, isSizeB, Bool.not_eq_true', Bool.not_eq_false', bne_iff_ne, ne_eq, bne_eq_false_iff_eq, beq_iff_eq, beq_eq_false_iff_ne, decide_eq_true_eq, decide_eq_false_iff_not, gt_iff_lt, ge_iff_le] at h2
   refine tR ?_
   refine tA rfl rfl ?_
   refine tE ?_
   refine At.retC ?_
   refine At.thenR ?_
   refine At.ret1 (.inl rfl) rfl rfl rfl (fun w hw => ?_)
   exact ⟨congrArg (fun z => Ending.returned (Value.int .i64 z)) (by unfold wrongE; (repeat' split) <;> omega), hw⟩
  ·skip
   try simp only [hasB, isSizeB, Bool.not_eq_true', Bool.not_eq_false', bne_iff_ne, ne_eq, bne_eq_false_iff_eq, beq_iff_eq, beq_eq_false_iff_ne, decide_eq_true_eq, decide_eq_false_iff_not, gt_iff_lt, ge_iff_le] at h2
   refine At.skipC ?_
   refine At.thenN ?_
   refine At.seq ?_
   refine tR ?_
   refine tM rfl rfl ?_
   first | refine At.val (Val.remI rfl rfl (by omega) (by decide)) rfl rfl rfl ?_ | refine At.val (Val.rem rfl rfl (by decide)) rfl rfl rfl ?_
   refine At.val (Val.bin rfl rfl rfl) rfl rfl rfl ?_
   refine tE ?_
   refine At.cond rfl (fun h3 => ?_) (fun h3 => ?_)
   ·skip
    try simp only [hasB, isSizeB, Bool.not_eq_true', Bool.not_eq_false', bne_iff_ne, ne_eq, bne_eq_false_iff_eq, beq_iff_eq, beq_eq_false_iff_ne, decide_eq_true_eq, decide_eq_false_iff_not, gt_iff_lt, ge_iff_le] at h3
    refine tR ?_
    refine tA rfl rfl ?_
    refine tE ?_
    refine At.retC ?_
    refine At.thenR ?_
    refine At.ret1 (.inl rfl) rfl rfl rfl (fun w hw => ?_)
    exact ⟨congrArg (fun z => Ending.returned (Value.int .i64 z)) (by unfold wrongE; (repeat' split) <;> omega), hw⟩
   ·skip
    try simp only [hasB, isSizeB, Bool.not_eq_true', Bool.not_eq_false', bne_iff_ne, ne_eq, bne_eq_false_iff_eq, beq_iff_eq, beq_eq_false_iff_ne, decide_eq_true_eq, decide_eq_false_iff_not, gt_iff_lt, ge_iff_le] at h3
    refine At.skipC ?_
    refine At.thenN ?_
    refine tR ?_
    refine tA rfl rfl ?_
    refine tE ?_
    refine At.retC ?_
    refine At.ret1 (.inl rfl) rfl rfl rfl (fun w hw => ?_)
    exact ⟨congrArg (fun z => Ending.returned (Value.int .i64 z)) (by unfold wrongE; (repeat' split) <;> omega), hw⟩
theorem rstep_d (p : Nat) (γ : Rg) (ρ : Rs) (w : World) (hs : ρ.now + 1 ≤ 1099511627776) (hno : ρ.left ≠ 0) (hd : (RDev p γ ρ).holds w) :
    RDevU Tryz.prog 76 [.pointer (some ⟨p, 0, none⟩)] p γ ρ (.int .i64 ((ρ.now + 1 : Nat) : Int)) (stepR ρ) w := by
 refine enterR hd Tryz.func76 rfl Tryz.ntmps76 rfl ?_
 unfold rdevL
 obtain ⟨hQ, hg⟩ := RDev.facts hd
 have hln := hg.len
 have hps := hg.pos
 have hnw := hg.now
 have h8 := first8_of hQ hg
 have hQl : γ.Q.length = ρ.ls.length := by rw [← hQ, List.length_map]
 have hlf := hg.left
 simp only [envOf]
 refine tR ?_
 refine tA rfl rfl ?_
 refine tE ?_
 refine At.seq ?_
 refine tR ?_
 refine tM rfl rfl ?_
 refine At.val (Val.nilCheck rfl) rfl rfl rfl ?_
 refine At.val (Val.field 3 rfl fo_50_3 rfl) rfl rfl rfl ?_
 refine At.val (Val.load (i := 0) Tryz.isAgg3 rfl rfl rfl) rfl rfl rfl ?_
 refine At.val (Val.bin rfl rfl rfl) rfl rfl rfl ?_
 refine tE ?_
 refine At.cond rfl (fun h1 => ?_) (fun h1 => ?_)
 ·skip
  try simp only [hasB, isSizeB, Bool.not_eq_true', Bool.not_eq_false', bne_iff_ne, ne_eq, bne_eq_false_iff_eq, beq_iff_eq, beq_eq_false_iff_ne, decide_eq_true_eq, decide_eq_false_iff_not, gt_iff_lt, ge_iff_le] at h1
  exact absurd h1 hno
 ·skip
  try simp only [hasB, isSizeB, Bool.not_eq_true', Bool.not_eq_false', bne_iff_ne, ne_eq, bne_eq_false_iff_eq, beq_iff_eq, beq_eq_false_iff_ne, decide_eq_true_eq, decide_eq_false_iff_not, gt_iff_lt, ge_iff_le] at h1
  refine At.skipC ?_
  refine At.thenN ?_
  refine At.seq ?_
  refine tR ?_
  refine tM rfl rfl ?_
  refine At.val (Val.nilCheck rfl) rfl rfl rfl ?_
  refine At.val (Val.field 3 rfl fo_50_3 rfl) rfl rfl rfl ?_
  refine At.val (Val.load (i := 0) Tryz.isAgg3 rfl rfl rfl) rfl rfl rfl ?_
  refine At.val (Val.bin rfl rfl rfl) rfl rfl rfl ?_
  refine tE ?_
  refine At.cond rfl (fun h2 => ?_) (fun h2 => ?_)
  ·skip
   try simp only [hasB, isSizeB, Bool.not_eq_true', Bool.not_eq_false', bne_iff_ne, ne_eq, bne_eq_false_iff_eq, beq_iff_eq, beq_eq_false_iff_ne, decide_eq_true_eq, decide_eq_false_iff_not, gt_iff_lt, ge_iff_le] at h2
   refine At.region ?_
   refine tM rfl rfl ?_
   refine tM rfl rfl ?_
   refine At.val (Val.nilCheck rfl) rfl rfl rfl ?_
   refine At.val (Val.field 3 rfl fo_50_3 rfl) rfl rfl rfl ?_
   refine At.val (Val.load (i := 0) Tryz.isAgg3 rfl rfl rfl) rfl rfl rfl ?_
   first | refine At.val (Val.subI rfl rfl (by omega) (by omega)) rfl rfl rfl ?_ | refine At.val (Val.bin rfl rfl rfl) rfl rfl rfl ?_
   refine At.val (Val.nilCheck rfl) rfl rfl rfl ?_
   refine At.val (Val.field 3 rfl fo_50_3 rfl) rfl rfl rfl ?_
   refine At.store (i := 0) Tryz.sizeOf3 rfl rfl rfl rfl (by first | decide | simp) ?_
   simp only [sc0, scS]
   refine tE ?_
   refine tR ?_
   refine tM rfl rfl ?_
   refine tM rfl rfl ?_
   refine At.val (Val.nilCheck rfl) rfl rfl rfl ?_
   refine At.val (Val.field 2 rfl fo_50_2 rfl) rfl rfl rfl ?_
   refine At.val (Val.load (i := 0) Tryz.isAgg3 rfl rfl rfl) rfl rfl rfl ?_
   first | refine At.val (Val.addI rfl rfl (by omega) (by omega)) rfl rfl rfl ?_ | refine At.val (Val.bin rfl rfl rfl) rfl rfl rfl ?_
   refine At.val (Val.nilCheck rfl) rfl rfl rfl ?_
   refine At.val (Val.field 2 rfl fo_50_2 rfl) rfl rfl rfl ?_
   refine At.store (i := 0) Tryz.sizeOf3 rfl rfl rfl rfl (by first | decide | simp) ?_
   simp only [sc0, scS]
   refine tE ?_
   refine tR ?_
   refine tM rfl rfl ?_
   refine At.val (Val.nilCheck rfl) rfl rfl rfl ?_
   refine At.val (Val.field 2 rfl fo_50_2 rfl) rfl rfl rfl ?_
   refine At.val (Val.load (i := 0) Tryz.isAgg3 rfl rfl rfl) rfl rfl rfl ?_
   refine tA rfl rfl ?_
   refine tE ?_
   refine At.retC ?_
   refine At.ret1 (.inl rfl) rfl rfl rfl (fun w hw => ?_)
   exact ⟨γ, rfl, toRDev1 hQ (stepR_good hg hs) hw (by first | rfl | (congr 1; simp [stepR, fenceR, armR, *]; try omega)) rfl rfl⟩
  ·skip
   try simp only [hasB, isSizeB, Bool.not_eq_true', Bool.not_eq_false', bne_iff_ne, ne_eq, bne_eq_false_iff_eq, beq_iff_eq, beq_eq_false_iff_ne, decide_eq_true_eq, decide_eq_false_iff_not, gt_iff_lt, ge_iff_le] at h2
   refine At.skipC ?_
   refine At.thenN ?_
   refine tR ?_
   refine tM rfl rfl ?_
   refine tM rfl rfl ?_
   refine At.val (Val.nilCheck rfl) rfl rfl rfl ?_
   refine At.val (Val.field 2 rfl fo_50_2 rfl) rfl rfl rfl ?_
   refine At.val (Val.load (i := 0) Tryz.isAgg3 rfl rfl rfl) rfl rfl rfl ?_
   first | refine At.val (Val.addI rfl rfl (by omega) (by omega)) rfl rfl rfl ?_ | refine At.val (Val.bin rfl rfl rfl) rfl rfl rfl ?_
   refine At.val (Val.nilCheck rfl) rfl rfl rfl ?_
   refine At.val (Val.field 2 rfl fo_50_2 rfl) rfl rfl rfl ?_
   refine At.store (i := 0) Tryz.sizeOf3 rfl rfl rfl rfl (by first | decide | simp) ?_
   simp only [sc0, scS]
   refine tE ?_
   refine tR ?_
   refine tM rfl rfl ?_
   refine At.val (Val.nilCheck rfl) rfl rfl rfl ?_
   refine At.val (Val.field 2 rfl fo_50_2 rfl) rfl rfl rfl ?_
   refine At.val (Val.load (i := 0) Tryz.isAgg3 rfl rfl rfl) rfl rfl rfl ?_
   refine tA rfl rfl ?_
   refine tE ?_
   refine At.retC ?_
   refine At.ret1 (.inl rfl) rfl rfl rfl (fun w hw => ?_)
   exact ⟨γ, rfl, toRDev1 hQ (stepR_good hg hs) hw (by first | rfl | (congr 1; simp [stepR, fenceR, armR, *]; try omega)) rfl rfl⟩
theorem rstep_0 (p : Nat) (γ : Rg) (ρ : Rs) (w : World) (hno : ρ.left = 0) (hd : (RDev p γ ρ).holds w) :
    Upd Tryz.prog 76 [.pointer (some ⟨p, 0, none⟩)] (RDev p γ ρ) (.int .i64 0) (RDev p γ ρ) w := by
 refine enterR hd Tryz.func76 rfl Tryz.ntmps76 rfl ?_
 unfold rdevL
 obtain ⟨hQ, hg⟩ := RDev.facts hd
 have hln := hg.len
 have hps := hg.pos
 have hnw := hg.now
 have h8 := first8_of hQ hg
 have hQl : γ.Q.length = ρ.ls.length := by rw [← hQ, List.length_map]
 simp only [envOf]
 refine tR ?_
 refine tA rfl rfl ?_
 refine tE ?_
 refine At.seq ?_
 refine tR ?_
 refine tM rfl rfl ?_
 refine At.val (Val.nilCheck rfl) rfl rfl rfl ?_
 refine At.val (Val.field 3 rfl fo_50_3 rfl) rfl rfl rfl ?_
 refine At.val (Val.load (i := 0) Tryz.isAgg3 rfl rfl rfl) rfl rfl rfl ?_
 refine At.val (Val.bin rfl rfl rfl) rfl rfl rfl ?_
 refine tE ?_
 refine At.cond rfl (fun h1 => ?_) (fun h1 => ?_)
 ·skip
  try simp only [hasB, isSizeB, Bool.not_eq_true', Bool.not_eq_false', bne_iff_ne, ne_eq, bne_eq_false_iff_eq, beq_iff_eq, beq_eq_false_iff_ne, decide_eq_true_eq, decide_eq_false_iff_not, gt_iff_lt, ge_iff_le] at h1
  refine tR ?_
  refine tA rfl rfl ?_
  refine tE ?_
  refine At.retC ?_
  refine At.thenR ?_
  refine At.ret1 (.inl rfl) rfl rfl rfl (fun w hw => ?_)
  exact ⟨rfl, retR (F := []) hw⟩
 ·skip
  try simp only [hasB, isSizeB, Bool.not_eq_true', Bool.not_eq_false', bne_iff_ne, ne_eq, bne_eq_false_iff_eq, beq_iff_eq, beq_eq_false_iff_ne, decide_eq_true_eq, decide_eq_false_iff_not, gt_iff_lt, ge_iff_le] at h1
  exact absurd hno h1
theorem rfence_d (p : Nat) (γ : Rg) (ρ : Rs) (w : World) (hs : ρ.now + 1 ≤ 1099511627776) (hno : ρ.left ≠ 0) (hd : (RDev p γ ρ).holds w) :
    RDevU Tryz.prog 32 [.pointer (some ⟨p, 0, none⟩)] p γ ρ (.int .i64 0) (fenceR ρ) w := by
 refine enterRc hd Tryz.func32 rfl Tryz.ntmps32 rfl ?_
 obtain ⟨hQ, hg⟩ := RDev.facts hd
 have hln := hg.len
 have hps := hg.pos
 have hnw := hg.now
 simp only [envOf]
 refine tR ?_
 refine tA rfl rfl ?_
 refine tE ?_
 refine tR ?_
 refine tM rfl rfl ?_
 refine At.callRD 0 rfl (fun w hw hr => rstep_d _ _ _ w hs hno hr) Tryz.call76 rfl rfl (fun y1 => ?_)
 simp only [sc0, scS]
 refine tA rfl rfl ?_
 refine tE ?_
 refine At.seq ?_
 refine tR ?_
 refine tM rfl rfl ?_
 refine At.val (Val.bin rfl rfl rfl) rfl rfl rfl ?_
 refine tE ?_
 refine At.cond rfl (fun h2 => ?_) (fun h2 => ?_)
 ·skip
  try simp only [hasB, isSizeB, Bool.not_eq_true', Bool.not_eq_false', bne_iff_ne, ne_eq, bne_eq_false_iff_eq, beq_iff_eq, beq_eq_false_iff_ne, decide_eq_true_eq, decide_eq_false_iff_not, gt_iff_lt, ge_iff_le] at h2
  omega
 ·skip
  try simp only [hasB, isSizeB, Bool.not_eq_true', Bool.not_eq_false', bne_iff_ne, ne_eq, bne_eq_false_iff_eq, beq_iff_eq, beq_eq_false_iff_ne, decide_eq_true_eq, decide_eq_false_iff_not, gt_iff_lt, ge_iff_le] at h2
  refine At.skipC ?_
  refine At.thenN ?_
  refine At.seq ?_
  refine At.openS 0 rfl ?_
  simp only [rdevL, List.cons_append, List.nil_append, ec0, ecS]
  refine At.fact 3 rfl (fun hf => ?_)
  obtain ⟨hQ1, hg1⟩ := hf
  have h81 := first8_of hQ1 hg1
  have hQl1 : y1.Q.length = (stepR ρ).ls.length := by rw [← hQ1, List.length_map]
  refine At.region ?_
  refine tM rfl rfl ?_
  refine tM rfl rfl ?_
  refine At.val (Val.nilCheck rfl) rfl rfl rfl ?_
  refine At.val (Val.field 1 rfl fo_50_1 rfl) rfl rfl rfl ?_
  refine At.store (i := 0) Tryz.sizeOf3 rfl rfl rfl rfl (by first | decide | simp) ?_
  simp only [sc0, scS]
  refine tE ?_
  refine tR ?_
  refine tA rfl rfl ?_
  refine tE ?_
  refine At.retC ?_
  refine At.ret1 (.inl rfl) rfl rfl rfl (fun w hw => ?_)
  exact ⟨y1, rfl, toRDev1 hQ1 (fenceR_good hg hs) hw rfl rfl rfl⟩
theorem rfence_0 (p : Nat) (γ : Rg) (ρ : Rs) (w : World) (hno : ρ.left = 0) (hd : (RDev p γ ρ).holds w) :
    Upd Tryz.prog 32 [.pointer (some ⟨p, 0, none⟩)] (RDev p γ ρ) (.int .i64 13) (RDev p γ ρ) w := by
 refine enterRc hd Tryz.func32 rfl Tryz.ntmps32 rfl ?_
 obtain ⟨hQ, hg⟩ := RDev.facts hd
 have hln := hg.len
 have hps := hg.pos
 have hnw := hg.now
 simp only [envOf]
 refine tR ?_
 refine tA rfl rfl ?_
 refine tE ?_
 refine tR ?_
 refine tM rfl rfl ?_
 refine At.callK 0 rfl (fun w hw hr => rstep_0 _ _ _ w hno hr) Tryz.call76 rfl rfl ?_
 refine tA rfl rfl ?_
 refine tE ?_
 refine At.seq ?_
 refine tR ?_
 refine tM rfl rfl ?_
 refine At.val (Val.bin rfl rfl rfl) rfl rfl rfl ?_
 refine tE ?_
 refine At.condT rfl ?_
 refine tR ?_
 refine tA rfl rfl ?_
 refine tE ?_
 refine At.retC ?_
 refine At.thenR ?_
 refine At.ret1 (.inl rfl) rfl rfl rfl (fun w hw => ?_)
 exact ⟨rfl, hw⟩
theorem rarm_d (p : Nat) (γ : Rg) (ρ : Rs) (m : Nat) (w : World) (hm : m ≤ 9223372036854775807) (hno : ρ.left ≠ 0) (hd : (RDev p γ ρ).holds w) :
    RDevU Tryz.prog 34 [.pointer (some ⟨p, 0, none⟩), .int .i64 (m : Int)] p γ ρ (.int .i64 0) (armR ρ m) w := by
 refine enterR hd Tryz.func34 rfl Tryz.ntmps34 rfl ?_
 unfold rdevL
 obtain ⟨hQ, hg⟩ := RDev.facts hd
 have hln := hg.len
 have hps := hg.pos
 have hnw := hg.now
 have h8 := first8_of hQ hg
 have hQl : γ.Q.length = ρ.ls.length := by rw [← hQ, List.length_map]
 simp only [envOf]
 refine tR ?_
 refine tA rfl rfl ?_
 refine tE ?_
 refine At.seq ?_
 refine tR ?_
 refine tM rfl rfl ?_
 refine At.val (Val.bin rfl rfl rfl) rfl rfl rfl ?_
 refine tE ?_
 refine At.cond rfl (fun h1 => ?_) (fun h1 => ?_)
 ·skip
  try simp only [hasB, isSizeB, Bool.not_eq_true', Bool.not_eq_false', bne_iff_ne, ne_eq, bne_eq_false_iff_eq, beq_iff_eq, beq_eq_false_iff_ne, decide_eq_true_eq, decide_eq_false_iff_not, gt_iff_lt, ge_iff_le] at h1
  omega
 ·skip
  try simp only [hasB, isSizeB, Bool.not_eq_true', Bool.not_eq_false', bne_iff_ne, ne_eq, bne_eq_false_iff_eq, beq_iff_eq, beq_eq_false_iff_ne, decide_eq_true_eq, decide_eq_false_iff_not, gt_iff_lt, ge_iff_le] at h1
  refine At.skipC ?_
  refine At.thenN ?_
  refine At.seq ?_
  refine tR ?_
  refine tM rfl rfl ?_
  refine At.val (Val.nilCheck rfl) rfl rfl rfl ?_
  refine At.val (Val.field 3 rfl fo_50_3 rfl) rfl rfl rfl ?_
  refine At.val (Val.load (i := 0) Tryz.isAgg3 rfl rfl rfl) rfl rfl rfl ?_
  refine At.val (Val.bin rfl rfl rfl) rfl rfl rfl ?_
  refine tE ?_
  refine At.cond rfl (fun h2 => ?_) (fun h2 => ?_)
  ·skip
   try simp only [hasB, isSizeB, Bool.not_eq_true', Bool.not_eq_false', bne_iff_ne, ne_eq, bne_eq_false_iff_eq, beq_iff_eq, beq_eq_false_iff_ne, decide_eq_true_eq, decide_eq_false_iff_not, gt_iff_lt, ge_iff_le] at h2
   exact absurd h2 hno
  ·skip
   try simp only [hasB, isSizeB, Bool.not_eq_true', Bool.not_eq_false', bne_iff_ne, ne_eq, bne_eq_false_iff_eq, beq_iff_eq, beq_eq_false_iff_ne, decide_eq_true_eq, decide_eq_false_iff_not, gt_iff_lt, ge_iff_le] at h2
   refine At.skipC ?_
   refine At.thenN ?_
   refine tR ?_
   refine tM rfl rfl ?_
   refine tM rfl rfl ?_
   refine At.val (Val.nilCheck rfl) rfl rfl rfl ?_
   refine At.val (Val.field 3 rfl fo_50_3 rfl) rfl rfl rfl ?_
   refine At.store (i := 0) Tryz.sizeOf3 rfl rfl rfl rfl (by first | decide | simp) ?_
   simp only [sc0, scS]
   refine tE ?_
   refine tR ?_
   refine tA rfl rfl ?_
   refine tE ?_
   refine At.retC ?_
   refine At.ret1 (.inl rfl) rfl rfl rfl (fun w hw => ?_)
   exact ⟨γ, rfl, toRDev1 hQ (armR_good hg hm) hw (by first | rfl | (congr 1; simp [stepR, fenceR, armR, *]; try omega)) rfl rfl⟩
theorem rarm_neg (p : Nat) (γ : Rg) (ρ : Rs) (m : Int) (w : World) (hm : m < 0) (hd : (RDev p γ ρ).holds w) :
    Upd Tryz.prog 34 [.pointer (some ⟨p, 0, none⟩), .int .i64 m] (RDev p γ ρ) (.int .i64 14) (RDev p γ ρ) w := by
 refine enterR hd Tryz.func34 rfl Tryz.ntmps34 rfl ?_
 unfold rdevL
 obtain ⟨hQ, hg⟩ := RDev.facts hd
 have hln := hg.len
 have hps := hg.pos
 have hnw := hg.now
 have h8 := first8_of hQ hg
 have hQl : γ.Q.length = ρ.ls.length := by rw [← hQ, List.length_map]
 simp only [envOf]
 refine tR ?_
 refine tA rfl rfl ?_
 refine tE ?_
 refine At.seq ?_
 refine tR ?_
 refine tM rfl rfl ?_
 refine At.val (Val.bin rfl rfl rfl) rfl rfl rfl ?_
 refine tE ?_
 refine At.cond rfl (fun h1 => ?_) (fun h1 => ?_)
 ·skip
  try simp only [hasB, isSizeB, Bool.not_eq_true', Bool.not_eq_false', bne_iff_ne, ne_eq, bne_eq_false_iff_eq, beq_iff_eq, beq_eq_false_iff_ne, decide_eq_true_eq, decide_eq_false_iff_not, gt_iff_lt, ge_iff_le] at h1
  refine tR ?_
  refine tA rfl rfl ?_
  refine tE ?_
  refine At.retC ?_
  refine At.thenR ?_
  refine At.ret1 (.inl rfl) rfl rfl rfl (fun w hw => ?_)
  exact ⟨rfl, retR (F := []) hw⟩
 ·skip
  try simp only [hasB, isSizeB, Bool.not_eq_true', Bool.not_eq_false', bne_iff_ne, ne_eq, bne_eq_false_iff_eq, beq_iff_eq, beq_eq_false_iff_ne, decide_eq_true_eq, decide_eq_false_iff_not, gt_iff_lt, ge_iff_le] at h1
  omega
theorem rarm_dead (p : Nat) (γ : Rg) (ρ : Rs) (m : Int) (w : World) (hm : 0 ≤ m) (hno : ρ.left = 0) (hd : (RDev p γ ρ).holds w) :
    Upd Tryz.prog 34 [.pointer (some ⟨p, 0, none⟩), .int .i64 m] (RDev p γ ρ) (.int .i64 13) (RDev p γ ρ) w := by
 refine enterR hd Tryz.func34 rfl Tryz.ntmps34 rfl ?_
 unfold rdevL
 obtain ⟨hQ, hg⟩ := RDev.facts hd
 have hln := hg.len
 have hps := hg.pos
 have hnw := hg.now
 have h8 := first8_of hQ hg
 have hQl : γ.Q.length = ρ.ls.length := by rw [← hQ, List.length_map]
 simp only [envOf]
 refine tR ?_
 refine tA rfl rfl ?_
 refine tE ?_
 refine At.seq ?_
 refine tR ?_
 refine tM rfl rfl ?_
 refine At.val (Val.bin rfl rfl rfl) rfl rfl rfl ?_
 refine tE ?_
 refine At.cond rfl (fun h1 => ?_) (fun h1 => ?_)
 ·skip
  try simp only [hasB, isSizeB, Bool.not_eq_true', Bool.not_eq_false', bne_iff_ne, ne_eq, bne_eq_false_iff_eq, beq_iff_eq, beq_eq_false_iff_ne, decide_eq_true_eq, decide_eq_false_iff_not, gt_iff_lt, ge_iff_le] at h1
  omega
 ·skip
  try simp only [hasB, isSizeB, Bool.not_eq_true', Bool.not_eq_false', bne_iff_ne, ne_eq, bne_eq_false_iff_eq, beq_iff_eq, beq_eq_false_iff_ne, decide_eq_true_eq, decide_eq_false_iff_not, gt_iff_lt, ge_iff_le] at h1
  refine At.skipC ?_
  refine At.thenN ?_
  refine At.seq ?_
  refine tR ?_
  refine tM rfl rfl ?_
  refine At.val (Val.nilCheck rfl) rfl rfl rfl ?_
  refine At.val (Val.field 3 rfl fo_50_3 rfl) rfl rfl rfl ?_
  refine At.val (Val.load (i := 0) Tryz.isAgg3 rfl rfl rfl) rfl rfl rfl ?_
  refine At.val (Val.bin rfl rfl rfl) rfl rfl rfl ?_
  refine tE ?_
  refine At.cond rfl (fun h2 => ?_) (fun h2 => ?_)
  ·skip
   try simp only [hasB, isSizeB, Bool.not_eq_true', Bool.not_eq_false', bne_iff_ne, ne_eq, bne_eq_false_iff_eq, beq_iff_eq, beq_eq_false_iff_ne, decide_eq_true_eq, decide_eq_false_iff_not, gt_iff_lt, ge_iff_le] at h2
   refine tR ?_
   refine tA rfl rfl ?_
   refine tE ?_
   refine At.retC ?_
   refine At.thenR ?_
   refine At.ret1 (.inl rfl) rfl rfl rfl (fun w hw => ?_)
   exact ⟨rfl, retR (F := []) hw⟩
  ·skip
   try simp only [hasB, isSizeB, Bool.not_eq_true', Bool.not_eq_false', bne_iff_ne, ne_eq, bne_eq_false_iff_eq, beq_iff_eq, beq_eq_false_iff_ne, decide_eq_true_eq, decide_eq_false_iff_not, gt_iff_lt, ge_iff_le] at h2
   exact absurd hno h2
end Go.Proofs.YthhkbbodhghmcaaGreatDoor
