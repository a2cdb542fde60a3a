/- The calculus: stars and families of resources; maps of ints, and a loop over one; windows of rows. -/
import Derived.Test.YtgighokkflchmaaLq
import Derived.Maps.RangeRun
import Derived.ArgAppend
set_option linter.unusedVariables false
set_option linter.unusedSimpArgs false
namespace Go.Wk
open Go Go.ChangeMaps
section
variable {P : Program} {Γ : Ctx} {E : Env} {H L F : List Res} {ops : Array Oper} {Q : Exit → Act → World → Prop} {rest : List Oper} {w0 w w' : World} {S : Nat → Prop} {φ : Act → World → Prop}
  {d : Nat} {dst : Option Tmp} {g : Option (Nat × Bool)} {ty : TypeId} {pos : String} {after : Array Edge} {x y z : Operand} {v u : Value}
/-! ### stars -/
def star (L : List Res) : Res where
  foot := feet L
  holds := fun w => L.Pairwise Apart ∧ ∀ r ∈ L, r.holds w
  stable := fun h hw => ⟨hw.1, fun r hr => r.stable (fun b hb => h b ⟨r, hr, hb⟩) (hw.2 r hr)⟩
  low := fun hw b ⟨r, hr, hb⟩ => r.low (hw.2 r hr) b hb
theorem Rep.openS (h : Rep w0 S (star L :: F) w) : Rep w0 S (L ++ F) w := by
  have hs := List.pairwise_cons.1 h.sep
  have hl := h.all (star L) (List.mem_cons_self ..)
  refine ⟨List.pairwise_append.2 ⟨hl.1, hs.2, fun r hr s hs' b hb hsb => hs.1 s hs' b ⟨r, hr, hb⟩ hsb⟩, fun r hr => ?_, fun r hr b hb => ?_, h.mod⟩
  · rcases List.mem_append.1 hr with h1 | h1
    · exact hl.2 r h1
    · exact h.all r (List.mem_cons_of_mem _ h1)
  · rcases List.mem_append.1 hr with h1 | h1
    · exact h.mine (star L) (List.mem_cons_self ..) b ⟨r, h1, hb⟩
    · exact h.mine r (List.mem_cons_of_mem _ h1) b hb
theorem Rep.shutS (h : Rep w0 S (L ++ F) w) : Rep w0 S (star L :: F) w := by
  have hs := List.pairwise_append.1 h.sep
  refine ⟨List.pairwise_cons.2 ⟨fun s hs' b ⟨r, hr, hb⟩ hsb => hs.2.2 r hr s hs' b hb hsb, hs.2.1⟩, fun r hr => ?_, fun r hr b hb => ?_, h.mod⟩
  · rcases List.mem_cons.1 hr with rfl | h1
    · exact ⟨hs.1, fun r hr => h.all r (List.mem_append_left _ hr)⟩
    · exact h.all r (List.mem_append_right _ h1)
  · rcases List.mem_cons.1 hr with rfl | h1
    · obtain ⟨r, hr, hb⟩ := hb
      exact h.mine r (List.mem_append_left _ hr) b hb
    · exact h.mine r (List.mem_append_right _ h1) b hb
theorem At.openS (i : Nat) (hi : H[i]? = some (star L)) (k : At Γ E (L ++ H.eraseIdx i) φ) : At Γ E H φ := fun a w ha hw => k a w ha (hw.perm (erase_perm H i _ hi)).openS
theorem At.shutS (k : At Γ E (star L :: H) φ) : At Γ E (L ++ H) φ := fun a w ha hw => k a w ha hw.shutS
theorem Rep.of_star {r : Res} (h : (star L).holds w) : Rep w (feet [star L]) L w :=
  ⟨h.1, h.2, fun r hr b hb => .inr ⟨star L, by simp, r, hr, hb⟩, Mod.refl _ _⟩
def factR (p : Prop) : Res where
  foot := fun _ => False
  holds := fun _ => p
  stable := fun _ h => h
  low := fun _ b hb => hb.elim
theorem At.fact {p : Prop} (i : Nat) (hi : H[i]? = some (factR p)) (k : p → At Γ E H φ) : At Γ E H φ := fun a w ha hw => k (hw.all _ (List.mem_of_getElem? hi)) a w ha hw
theorem Rep.fact {p : Prop} (hp : p) (h : Rep w0 S H w) : Rep w0 S (factR p :: H) w :=
  ⟨List.pairwise_cons.2 ⟨fun s _ b hb _ => hb.elim, h.sep⟩, fun r hr => by
    rcases List.mem_cons.1 hr with rfl | h1
    · exact hp
    · exact h.all r h1, fun r hr b hb => by
    rcases List.mem_cons.1 hr with rfl | h1
    · exact hb.elim
    · exact h.mine r h1 b hb, h.mod⟩
/-! ### families -/
def upd {α : Type} (I : Nat → α) (k : Nat) (x : α) : Nat → α := fun j => if j = k then x else I j
theorem upd_at {α : Type} (I : Nat → α) (k : Nat) (x : α) : upd I k x k = x := by simp [upd]
theorem upd_ne {α : Type} (I : Nat → α) {k j : Nat} (x : α) (h : j ≠ k) : upd I k x j = I j := by simp [upd, h]
theorem upd_none {I : Nat → Option Res} {k j : Nat} {r : Res} (h : upd I k none j = some r) : j ≠ k ∧ I j = some r := by
  unfold upd at h; split at h
  · cases h
  · exact ⟨by assumption, h⟩
def fam (I : Nat → Option Res) : Res where
  foot := fun b => ∃ k r, I k = some r ∧ r.foot b
  holds := fun w => (∀ k r, I k = some r → r.holds w) ∧ ∀ k k' r r', I k = some r → I k' = some r' → k ≠ k' → Apart r r'
  stable := fun h hw => ⟨fun k r hk => r.stable (fun b hb => h b ⟨k, r, hk, hb⟩) (hw.1 k r hk), hw.2⟩
  low := fun hw b ⟨k, r, hk, hb⟩ => r.low (hw.1 k r hk) b hb
theorem Rep.focus {I : Nat → Option Res} {k : Nat} {r : Res} (hk : I k = some r) (h : Rep w0 S (fam I :: F) w) : Rep w0 S (r :: fam (upd I k none) :: F) w := by
  have hs := List.pairwise_cons.1 h.sep
  have hl := h.all (fam I) (List.mem_cons_self ..)
  have hm := h.mine (fam I) (List.mem_cons_self ..)
  refine ⟨List.pairwise_cons.2 ⟨fun s hs' b hb hsb => ?_, List.pairwise_cons.2 ⟨fun s hs' b ⟨k', r', hk', hb⟩ hsb => ?_, hs.2⟩⟩, fun s hs' => ?_, fun s hs' b hb => ?_, h.mod⟩
  · rcases List.mem_cons.1 hs' with rfl | h1
    · obtain ⟨k', r', hk', hb'⟩ := hsb
      obtain ⟨h2, h3⟩ := upd_none hk'
      exact hl.2 _ _ _ _ hk h3 (Ne.symm h2) b hb hb'
    · exact hs.1 s h1 b ⟨k, r, hk, hb⟩ hsb
  · exact hs.1 s hs' b ⟨k', r', (upd_none hk').2, hb⟩ hsb
  · rcases List.mem_cons.1 hs' with rfl | h1
    · exact hl.1 _ _ hk
    · rcases List.mem_cons.1 h1 with rfl | h1
      · exact ⟨fun j q hj => hl.1 _ _ (upd_none hj).2, fun j j' q q' hj hj' hne => hl.2 _ _ _ _ (upd_none hj).2 (upd_none hj').2 hne⟩
      · exact h.all s (List.mem_cons_of_mem _ h1)
  · rcases List.mem_cons.1 hs' with rfl | h1
    · exact hm b ⟨k, _, hk, hb⟩
    · rcases List.mem_cons.1 h1 with rfl | h1
      · obtain ⟨k', r', hk', hb'⟩ := hb
        exact hm b ⟨k', r', (upd_none hk').2, hb'⟩
      · exact h.mine s (List.mem_cons_of_mem _ h1) b hb
theorem upd_some {I : Nat → Option Res} {k j : Nat} {r q : Res} (h : upd I k (some r) j = some q) : (j = k ∧ q = r) ∨ (j ≠ k ∧ I j = some q) := by
  unfold upd at h; split at h
  · exact .inl ⟨by assumption, (Option.some.inj h).symm⟩
  · exact .inr ⟨by assumption, h⟩
theorem Rep.unfocus {I : Nat → Option Res} {k : Nat} {r : Res} (hk : I k = none) (h : Rep w0 S (r :: fam I :: F) w) : Rep w0 S (fam (upd I k (some r)) :: F) w := by
  have hs := List.pairwise_cons.1 h.sep
  have hs2 := List.pairwise_cons.1 hs.2
  have hl := h.all (fam I) (by simp)
  have hr := h.all r (by simp)
  refine ⟨List.pairwise_cons.2 ⟨fun s hs' b ⟨k', r', hk', hb⟩ hsb => ?_, hs2.2⟩, fun s hs' => ?_, fun s hs' b hb => ?_, h.mod⟩
  · rcases upd_some hk' with ⟨_, rfl⟩ | ⟨_, h1⟩
    · exact hs.1 s (List.mem_cons_of_mem _ hs') b hb hsb
    · exact hs2.1 s hs' b ⟨k', r', h1, hb⟩ hsb
  · rcases List.mem_cons.1 hs' with rfl | h1
    · refine ⟨fun j q hj => ?_, fun j j' q q' hj hj' hne => ?_⟩
      · rcases upd_some hj with ⟨_, rfl⟩ | ⟨_, h1⟩
        · exact hr
        · exact hl.1 _ _ h1
      · rcases upd_some hj with ⟨e1, rfl⟩ | ⟨_, h1⟩
        · rcases upd_some hj' with ⟨e2, rfl⟩ | ⟨_, h2⟩
          · exact absurd (e1.trans e2.symm) hne
          · exact fun b hb hb' => hs.1 (fam I) (by simp) b hb ⟨_, _, h2, hb'⟩
        · rcases upd_some hj' with ⟨e2, rfl⟩ | ⟨_, h2⟩
          · exact fun b hb hb' => hs.1 (fam I) (by simp) b hb' ⟨_, _, h1, hb⟩
          · exact hl.2 _ _ _ _ h1 h2 hne
    · exact h.all s (List.mem_cons_of_mem _ (List.mem_cons_of_mem _ h1))
  · rcases List.mem_cons.1 hs' with rfl | h1
    · obtain ⟨k', r', hk', hb'⟩ := hb
      rcases upd_some hk' with ⟨_, rfl⟩ | ⟨_, h1⟩
      · exact h.mine _ (by simp) b hb'
      · exact h.mine (fam I) (by simp) b ⟨_, _, h1, hb'⟩
    · exact h.mine s (List.mem_cons_of_mem _ (List.mem_cons_of_mem _ h1)) b hb
/-! ### windows -/
def Win (w : World) (v : Value) (e : TypeId) (xs : List Value) : Prop :=
  (v = .slice none 0 0 ∧ xs = []) ∨ ∃ b o c cur, v = .slice (some ⟨b, o, none⟩) xs.length c ∧ w.heap[b]? = some (.cells cur e (0, 0)) ∧ xs.length ≤ c ∧ c ≤ maxLen ∧ o + c ≤ cur.size ∧ ∀ j u, xs[j]? = some u → cur[o + j]? = some u
def winR (v : Value) (e : TypeId) (xs : List Value) : Res where
  foot := fun x => v.ownBlock = some x
  holds := fun w => Win w v e xs
  stable := fun {w w'} h hw => by
    rcases hw with h1 | ⟨b, o, c, cur, rfl, hb, r⟩
    · exact .inl h1
    · exact .inr ⟨b, o, c, cur, rfl, (h b rfl).trans hb, r⟩
  low := fun {w} hw x hx => by
    rcases hw with ⟨rfl, _⟩ | ⟨b, o, c, cur, rfl, hb, r⟩
    · cases hx
    · simp only [Value.ownBlock, Option.some.injEq] at hx
      subst hx
      exact (Array.getElem?_eq_some_iff.1 hb).1
theorem own_win {base e n : Nat} {xs : List Value} (h : w.ownsRow base e 1 v n xs) : Win w v e xs := by
  obtain ⟨hl, h⟩ := h
  rw [Nat.mul_one] at hl
  subst hl
  rcases h with ⟨rfl, h0⟩ | ⟨b, cap, cur, rfl, _, hb, h1, h2, h3, h4⟩
  · exact .inl ⟨rfl, List.eq_nil_of_length_eq_zero h0⟩
  · refine .inr ⟨b, 0, cap, cur, rfl, hb, h1, h2, by omega, fun j u hj => ?_⟩
    rw [Nat.zero_add, ← Array.getElem?_toList]
    rw [← h4, List.getElem?_take] at hj
    split at hj
    · exact hj
    · cases hj
theorem At.rowWin (i : Nat) {e n : Nat} {xs : List Value} (hi : H[i]? = some (rowR v e 1 n xs)) (k : At Γ E (H.set i (winR v e xs)) φ) : At Γ E H φ := fun a w ha hw =>
  k a w ha (hw.change hi (Mod.refl _ _) (own_win (hw.row hi)) (fun b hb => .inl hb))
theorem Val.lenWin {i t el e : Nat} {xs : List Value} (hi : H[i]? = some (winR v e xs)) (hu : P.underlying t = some (.slice el)) (hx : ev E x = some v) :
    Val P Γ E H ⟨dst, .call { callee := .builtin .len, args := #[x], argTypes := #[t] }, ty, pos, after, g⟩ (.int .i64 xs.length) := fun a w ha hw => by
  have h : Win w v e xs := hw.all _ (List.mem_of_getElem? hi)
  rcases h with ⟨rfl, rfl⟩ | ⟨b, o, c, cur, rfl, _⟩
  · exact Val.len (bt := #[]) hu hx a w ha hw
  · exact Val.len (bt := #[]) hu hx a w ha hw
theorem At.winSome (i : Nat) {e : Nat} {xs : List Value} (hi : H[i]? = some (winR v e xs)) (h0 : 0 < xs.length) (k : ∀ b o c, v = .slice (some ⟨b, o, none⟩) xs.length c → xs.length ≤ c → At Γ E H φ) : At Γ E H φ := fun a w ha hw => by
  have h : Win w v e xs := hw.all _ (List.mem_of_getElem? hi)
  rcases h with ⟨rfl, rfl⟩ | ⟨b, o, c, cur, rfl, _, h1, _⟩
  · simp at h0
  · exact k b o c rfl h1 a w ha hw
theorem Win.at {e b o n c j : Nat} {xs : List Value} (h : Win w (.slice (some ⟨b, o, none⟩) n c) e xs) (hv : xs[j]? = some u) : w.cell? ⟨b, o + j, none⟩ = some u := by
  rcases h with ⟨h1, _⟩ | ⟨b', o', c', cur, h1, hb, _, _, _, h2⟩
  · cases h1
  · simp only [Value.slice.injEq, Option.some.injEq, Addr.mk.injEq] at h1
    obtain ⟨⟨rfl, rfl, _⟩, _, _⟩ := h1
    rw [cell_of_row w _ _ cur e _ hb]
    exact h2 j u hv
theorem Val.loadWin {i t e b o n c j q : Nat} {xs : List Value} (hA : ∀ w, (isAgg t).run P w = .ok false w) (hx : ev E x = some (.pointer (some ⟨b, q, none⟩))) (hi : H[i]? = some (winR (.slice (some ⟨b, o, none⟩) n c) e xs)) (hq : o + j = q) (hv : xs[j]? = some u) :
    Val P Γ E H ⟨dst, .load t x, ty, pos, after, g⟩ u := fun a w ha hw => by
  subst hq
  have h : Win w (.slice (some ⟨b, o, none⟩) n c) e xs := hw.all _ (List.mem_of_getElem? hi)
  have := run_loadAt_cell (P := P) hA (h.at hv)
  simp [execOp, ha.eval hx, Sem.run_bind, this]
theorem At.winCut (i l : Nat) {e b o n c : Nat} {xs : List Value} (hi : H[i]? = some (winR (.slice (some ⟨b, o, none⟩) n c) e xs)) (hl : l ≤ xs.length)
    (k : At Γ E (H.set i (winR (.slice (some ⟨b, if c = l then o else o + l * 1, none⟩) (n - l) (c - l)) e (xs.drop l))) φ) : At Γ E H φ := fun a w ha hw => by
  have h : Win w (.slice (some ⟨b, o, none⟩) n c) e xs := hw.all _ (List.mem_of_getElem? hi)
  refine k a w ha (hw.change hi (Mod.refl _ _) ?_ (fun b' hb => .inl hb))
  rcases h with ⟨h1, _⟩ | ⟨b', o', c', cur, h1, hb, g1, g2, g3, g4⟩
  · cases h1
  · simp only [Value.slice.injEq, Option.some.injEq, Addr.mk.injEq] at h1
    obtain ⟨⟨rfl, rfl, _⟩, rfl, rfl⟩ := h1
    refine .inr ⟨b, _, _, cur, by rw [List.length_drop], hb, by rw [List.length_drop]; omega, by omega, ?_, fun j u hj => ?_⟩
    · split <;> omega
    · rw [List.getElem?_drop] at hj
      have hlt := (List.getElem?_eq_some_iff.1 hj).1
      rw [if_neg (by omega), Nat.mul_one, Nat.add_assoc]
      exact g4 _ _ hj
theorem At.appendWin1 {i j t e by_ b' U : Nat} {ti : TypeInfo} {z : Value} {xs : List Value} (ht : P.underlying t = some (.slice e)) (hti : P.info? e = some ti) (hz : ti.zero = some z) (hsize : ti.size = 1) (hby : ti.bytes = by_) (hzs : z.cells.size = 1)
    (hx : ev E x = some v) (hy : ev E y = some (.slice (some ⟨b', 0, none⟩) 1 1)) (hi : H[i]? = some (winR v e xs)) (hj : H[j]? = some (blk b' U [u])) (h1 : u.oneCell' = true) (h63 : (xs.length + 1) * by_ ≤ 140737488355328) (h64 : xs.length + 1 ≤ 140737488355328) (hn : Nat.blt d Γ.n = true)
    (k : ∀ v', At Γ ((d, v') :: E) (H.set i (winR v' e (xs ++ [u]))) (wpList P ops Q rest)) :
    At Γ E H (wpList P ops Q ({ dst := some d, op := .call { callee := .builtin .append, args := #[x, y], argTypes := #[t, t] }, type := ty, pos, after, guard := none } :: rest)) :=
  At.run rfl rfl hn fun a w ha hw => by
    have h : Win w v e xs := hw.all _ (List.mem_of_getElem? hi)
    have hc : ∀ j' u', ([u] : List Value)[j']? = some u' → w.cell? ((⟨b', 0, none⟩ : Addr).add j') = some u' := fun j' u' hj' => by rw [Addr.add_off, Nat.zero_add]; exact ((hw.blk hj).cell j').trans hj'
    have h1' : ∀ q ∈ [u], q.oneCell' = true := by simpa using h1
    rcases h with ⟨rfl, rfl⟩ | ⟨b, o, c, cur, rfl, hb, g1, g2, g3, g4⟩
    · obtain ⟨v', w', hr, ho, hg, hf⟩ := run_append_row (P := P) (ty := ty) ht hti hz hsize hby hzs (by omega) (w := w) (v := .slice none 0 0) (n := 0) (xs := []) ⟨by simp, .inl ⟨rfl, rfl⟩⟩ (a := ⟨b', 0, none⟩) (m := 1) (c := 1) (news := [u]) rfl hc h1' (by simp [maxLen]) (by simpa using h63)
      exact ⟨v', w', _, by simp [execOp, resolve, invoke, builtin, ha.eval hx, ha.eval hy, Sem.run_bind, hr], hw.change (r' := winR v' e ([] ++ [u])) hi (grown_mod hg) (own_win ho) hf, k v'⟩
    · by_cases hroom : xs.length + 1 ≤ c
      · have hcell : ∀ q, q < cur.size → w.cell? ⟨b, q, none⟩ = some (cur[q]?.getD undef) := fun q hq => by rw [cell_of_row w _ _ cur e _ hb, Array.getElem?_eq_getElem hq]; rfl
        have hr := run_append_room_cells (P := P) (w := w) t ty e ti ht hti b o xs.length c ⟨b', 0, none⟩ 1 1 [u] (by rw [hsize]; rfl) hc h1' hroom
          (fun j' hj' => by simp at hj'; subst hj'; rw [hsize, hcell _ (by omega)]; rfl) (fun j' hj' => by simp [World.frozen?, hb])
        refine ⟨_, _, _, by simp [execOp, resolve, invoke, builtin, ha.eval hx, ha.eval hy, Sem.run_bind, hr]; exact ⟨rfl, rfl⟩, ?_, k _⟩
        refine hw.change (r' := winR (.slice (some ⟨b, o, none⟩) (xs.length + 1) c) e (xs ++ [u])) hi ?_ ?_ (fun b hb => .inl hb)
        · exact (Mod.setCell w ⟨b, _, none⟩ u).mono fun x' hx' => by subst hx'; rfl
        · refine .inr ⟨b, o, c, cur.setIfInBounds (o + xs.length * ti.size) u, by simp, ?_, by simpa using hroom, g2, by simpa using g3, fun j' u' hj' => ?_⟩
          · show (w.setCell ⟨b, o + xs.length * ti.size, none⟩ u).heap[b]? = _
            rw [setCell_eq_setRow w b _ cur e (0, 0) u hb, setRow_heap w b _ _ e (0, 0) hb]
          · rw [hsize, Nat.mul_one]
            rcases Nat.lt_or_ge j' xs.length with hlt | hge
            · rw [List.getElem?_append_left hlt] at hj'
              rw [Array.getElem?_setIfInBounds_ne (by omega)]
              exact g4 _ _ hj'
            · rw [List.getElem?_append_right hge] at hj'
              have : j' = xs.length := by
                have := (List.getElem?_eq_some_iff.1 hj').1
                simp at this; omega
              subst this
              rw [Nat.sub_self] at hj'
              have : u = u' := by simpa using hj'
              subst this
              rw [Array.getElem?_setIfInBounds_self, if_pos (by omega)]
      · obtain ⟨v', w', hr, ho, hg⟩ := run_append_arg_grows (P := P) (w := w) t ty e ti z 1 by_ ht hti hz hsize hby hzs (by omega) ⟨b, o, none⟩ xs.length c xs (by omega)
          (fun j' u' hj' => by rw [Addr.add_off, cell_of_row w _ _ cur e _ hb]; exact g4 _ _ hj') ⟨b', 0, none⟩ 1 1 [u] rfl hc (by omega) (by simp only [maxLen]; omega) h63
        exact ⟨v', w', _, by simp [execOp, resolve, invoke, builtin, ha.eval hx, ha.eval hy, Sem.run_bind, hr], hw.change (r' := winR v' e (xs ++ [u])) hi ((grown_none hg).mono fun b hb => hb.elim) (own_win ho) (fun q hq => .inr (own_block ho q hq)), k v'⟩
/-! ### a pointer against nil -/
theorem Val.neNil {t t' : TypeId} {p : Option Addr} (h : P.underlying t = some (.pointer (P.pointee t))) (hx : ev E x = some (.pointer p)) : Val P Γ E H ⟨dst, .binOp .neq t x (.const (.pointer none)) t', ty, pos, after, g⟩ (.bool p.isSome) := fun a w ha _ => by
  have hc : a.eval (.const (.pointer none)) = .pointer none := rfl
  cases p <;> simp [execOp, ha.eval hx, hc, eqGuard, run_neq_pointer_nil w t _ h]
theorem Val.eqNil {t t' : TypeId} {p : Option Addr} (h : P.underlying t = some (.pointer (P.pointee t))) (hx : ev E x = some (.pointer p)) : Val P Γ E H ⟨dst, .binOp .eql t x (.const (.pointer none)) t', ty, pos, after, g⟩ (.bool p.isNone) := fun a w ha _ => by
  have hc : a.eval (.const (.pointer none)) = .pointer none := rfl
  cases p <;> simp [execOp, ha.eval hx, hc, eqGuard, run_eql_pointer_nil w t _ h]
end
end Go.Wk
