/- Parts of the proof, joined: see the law's text. -/
import Derived.Test.YtfchinibjhcejaaDoorU1
import Derived.Maps.RangeRun
import Derived.ArgAppend
import Derived.Shelf.Sort.Plain
import Derived.Test.YtfchinibjhcejaaDoorChecked
import Derived.Sort.OwnSortedInts
set_option linter.unusedVariables false
set_option linter.unusedSimpArgs false
namespace Go.Wk
open Go Go.ChangeMaps
section
variable {P : Program} {Γ : Ctx} {E : Env} {H L F : List Res} {ops : Array Oper} {Q : Exit → Act → World → Prop} {rest : List Oper} {w0 w w' : World} {S : Nat → Prop} {φ : Act → World → Prop}
  {d : Nat} {dst : Option Tmp} {g : Option (Nat × Bool)} {ty : TypeId} {pos : String} {after : Array Edge} {x y z : Operand} {v u : Value}
def star (L : List Res) : Res where
  foot := feet L
  holds := fun w => L.Pairwise Apart ∧ ∀ r ∈ L, r.holds w
  stable := fun h hw => ⟨hw.1, fun r hr => r.stable (fun b hb => h b ⟨r, hr, hb⟩) (hw.2 r hr)⟩
  low := fun hw b ⟨r, hr, hb⟩ => r.low (hw.2 r hr) b hb
theorem Rep.openS (h : Rep w0 S (star L :: F) w) : Rep w0 S (L ++ F) w := by
  have hs := List.pairwise_cons.1 h.sep
  have hl := h.all (star L) (List.mem_cons_self ..)
  refine ⟨List.pairwise_append.2 ⟨hl.1, hs.2, fun r hr s hs' b hb hsb => hs.1 s hs' b ⟨r, hr, hb⟩ hsb⟩, fun r hr => ?_, fun r hr b hb => ?_, h.mod⟩
  · rcases List.mem_append.1 hr with h1 | h1
    · exact hl.2 r h1
    · exact h.all r (List.mem_cons_of_mem _ h1)
  · rcases List.mem_append.1 hr with h1 | h1
    · exact h.mine (star L) (List.mem_cons_self ..) b ⟨r, h1, hb⟩
    · exact h.mine r (List.mem_cons_of_mem _ h1) b hb
theorem Rep.shutS (h : Rep w0 S (L ++ F) w) : Rep w0 S (star L :: F) w := by
  have hs := List.pairwise_append.1 h.sep
  refine ⟨List.pairwise_cons.2 ⟨fun s hs' b ⟨r, hr, hb⟩ hsb => hs.2.2 r hr s hs' b hb hsb, hs.2.1⟩, fun r hr => ?_, fun r hr b hb => ?_, h.mod⟩
  · rcases List.mem_cons.1 hr with rfl | h1
    · exact ⟨hs.1, fun r hr => h.all r (List.mem_append_left _ hr)⟩
    · exact h.all r (List.mem_append_right _ h1)
  · rcases List.mem_cons.1 hr with rfl | h1
    · obtain ⟨r, hr, hb⟩ := hb
      exact h.mine r (List.mem_append_left _ hr) b hb
    · exact h.mine r (List.mem_append_right _ h1) b hb
theorem At.openS (i : Nat) (hi : H[i]? = some (star L)) (k : At Γ E (L ++ H.eraseIdx i) φ) : At Γ E H φ := fun a w ha hw => k a w ha (hw.perm (erase_perm H i _ hi)).openS
theorem At.shutS (k : At Γ E (star L :: H) φ) : At Γ E (L ++ H) φ := fun a w ha hw => k a w ha hw.shutS
theorem Rep.of_star {r : Res} (h : (star L).holds w) : Rep w (feet [star L]) L w :=
  ⟨h.1, h.2, fun r hr b hb => .inr ⟨star L, by simp, r, hr, hb⟩, Mod.refl _ _⟩
def factR (p : Prop) : Res where
  foot := fun _ => False
  holds := fun _ => p
  stable := fun _ h => h
  low := fun _ b hb => hb.elim
theorem At.fact {p : Prop} (i : Nat) (hi : H[i]? = some (factR p)) (k : p → At Γ E H φ) : At Γ E H φ := fun a w ha hw => k (hw.all _ (List.mem_of_getElem? hi)) a w ha hw
theorem Rep.fact {p : Prop} (hp : p) (h : Rep w0 S H w) : Rep w0 S (factR p :: H) w :=
  ⟨List.pairwise_cons.2 ⟨fun s _ b hb _ => hb.elim, h.sep⟩, fun r hr => by
    rcases List.mem_cons.1 hr with rfl | h1
    · exact hp
    · exact h.all r h1, fun r hr b hb => by
    rcases List.mem_cons.1 hr with rfl | h1
    · exact hb.elim
    · exact h.mine r h1 b hb, h.mod⟩
def upd {α : Type} (I : Nat → α) (k : Nat) (x : α) : Nat → α := fun j => if j = k then x else I j
theorem upd_at {α : Type} (I : Nat → α) (k : Nat) (x : α) : upd I k x k = x := by simp [upd]
theorem upd_ne {α : Type} (I : Nat → α) {k j : Nat} (x : α) (h : j ≠ k) : upd I k x j = I j := by simp [upd, h]
theorem upd_none {I : Nat → Option Res} {k j : Nat} {r : Res} (h : upd I k none j = some r) : j ≠ k ∧ I j = some r := by
  unfold upd at h; split at h
  · cases h
  · exact ⟨by assumption, h⟩
def fam (I : Nat → Option Res) : Res where
  foot := fun b => ∃ k r, I k = some r ∧ r.foot b
  holds := fun w => (∀ k r, I k = some r → r.holds w) ∧ ∀ k k' r r', I k = some r → I k' = some r' → k ≠ k' → Apart r r'
  stable := fun h hw => ⟨fun k r hk => r.stable (fun b hb => h b ⟨k, r, hk, hb⟩) (hw.1 k r hk), hw.2⟩
  low := fun hw b ⟨k, r, hk, hb⟩ => r.low (hw.1 k r hk) b hb
theorem Rep.focus {I : Nat → Option Res} {k : Nat} {r : Res} (hk : I k = some r) (h : Rep w0 S (fam I :: F) w) : Rep w0 S (r :: fam (upd I k none) :: F) w := by
  have hs := List.pairwise_cons.1 h.sep
  have hl := h.all (fam I) (List.mem_cons_self ..)
  have hm := h.mine (fam I) (List.mem_cons_self ..)
  refine ⟨List.pairwise_cons.2 ⟨fun s hs' b hb hsb => ?_, List.pairwise_cons.2 ⟨fun s hs' b ⟨k', r', hk', hb⟩ hsb => ?_, hs.2⟩⟩, fun s hs' => ?_, fun s hs' b hb => ?_, h.mod⟩
  · rcases List.mem_cons.1 hs' with rfl | h1
    · obtain ⟨k', r', hk', hb'⟩ := hsb
      obtain ⟨h2, h3⟩ := upd_none hk'
      exact hl.2 _ _ _ _ hk h3 (Ne.symm h2) b hb hb'
    · exact hs.1 s h1 b ⟨k, r, hk, hb⟩ hsb
  · exact hs.1 s hs' b ⟨k', r', (upd_none hk').2, hb⟩ hsb
  · rcases List.mem_cons.1 hs' with rfl | h1
    · exact hl.1 _ _ hk
    · rcases List.mem_cons.1 h1 with rfl | h1
      · exact ⟨fun j q hj => hl.1 _ _ (upd_none hj).2, fun j j' q q' hj hj' hne => hl.2 _ _ _ _ (upd_none hj).2 (upd_none hj').2 hne⟩
      · exact h.all s (List.mem_cons_of_mem _ h1)
  · rcases List.mem_cons.1 hs' with rfl | h1
    · exact hm b ⟨k, _, hk, hb⟩
    · rcases List.mem_cons.1 h1 with rfl | h1
      · obtain ⟨k', r', hk', hb'⟩ := hb
        exact hm b ⟨k', r', (upd_none hk').2, hb'⟩
      · exact h.mine s (List.mem_cons_of_mem _ h1) b hb
theorem upd_some {I : Nat → Option Res} {k j : Nat} {r q : Res} (h : upd I k (some r) j = some q) : (j = k ∧ q = r) ∨ (j ≠ k ∧ I j = some q) := by
  unfold upd at h; split at h
  · exact .inl ⟨by assumption, (Option.some.inj h).symm⟩
  · exact .inr ⟨by assumption, h⟩
theorem Rep.unfocus {I : Nat → Option Res} {k : Nat} {r : Res} (hk : I k = none) (h : Rep w0 S (r :: fam I :: F) w) : Rep w0 S (fam (upd I k (some r)) :: F) w := by
  have hs := List.pairwise_cons.1 h.sep
  have hs2 := List.pairwise_cons.1 hs.2
  have hl := h.all (fam I) (by simp)
  have hr := h.all r (by simp)
  refine ⟨List.pairwise_cons.2 ⟨fun s hs' b ⟨k', r', hk', hb⟩ hsb => ?_, hs2.2⟩, fun s hs' => ?_, fun s hs' b hb => ?_, h.mod⟩
  · rcases upd_some hk' with ⟨_, rfl⟩ | ⟨_, h1⟩
    · exact hs.1 s (List.mem_cons_of_mem _ hs') b hb hsb
    · exact hs2.1 s hs' b ⟨k', r', h1, hb⟩ hsb
  · rcases List.mem_cons.1 hs' with rfl | h1
    · refine ⟨fun j q hj => ?_, fun j j' q q' hj hj' hne => ?_⟩
      · rcases upd_some hj with ⟨_, rfl⟩ | ⟨_, h1⟩
        · exact hr
        · exact hl.1 _ _ h1
      · rcases upd_some hj with ⟨e1, rfl⟩ | ⟨_, h1⟩
        · rcases upd_some hj' with ⟨e2, rfl⟩ | ⟨_, h2⟩
          · exact absurd (e1.trans e2.symm) hne
          · exact fun b hb hb' => hs.1 (fam I) (by simp) b hb ⟨_, _, h2, hb'⟩
        · rcases upd_some hj' with ⟨e2, rfl⟩ | ⟨_, h2⟩
          · exact fun b hb hb' => hs.1 (fam I) (by simp) b hb' ⟨_, _, h1, hb⟩
          · exact hl.2 _ _ _ _ h1 h2 hne
    · exact h.all s (List.mem_cons_of_mem _ (List.mem_cons_of_mem _ h1))
  · rcases List.mem_cons.1 hs' with rfl | h1
    · obtain ⟨k', r', hk', hb'⟩ := hb
      rcases upd_some hk' with ⟨_, rfl⟩ | ⟨_, h1⟩
      · exact h.mine _ (by simp) b hb'
      · exact h.mine (fam I) (by simp) b ⟨_, _, h1, hb'⟩
    · exact h.mine s (List.mem_cons_of_mem _ (List.mem_cons_of_mem _ h1)) b hb
def Win (w : World) (v : Value) (e : TypeId) (xs : List Value) : Prop :=
  (v = .slice none 0 0 ∧ xs = []) ∨ ∃ b o c cur, v = .slice (some ⟨b, o, none⟩) xs.length c ∧ w.heap[b]? = some (.cells cur e (0, 0)) ∧ xs.length ≤ c ∧ c ≤ maxLen ∧ o + c ≤ cur.size ∧ ∀ j u, xs[j]? = some u → cur[o + j]? = some u
def winR (v : Value) (e : TypeId) (xs : List Value) : Res where
  foot := fun x => v.ownBlock = some x
  holds := fun w => Win w v e xs
  stable := fun {w w'} h hw => by
    rcases hw with h1 | ⟨b, o, c, cur, rfl, hb, r⟩
    · exact .inl h1
    · exact .inr ⟨b, o, c, cur, rfl, (h b rfl).trans hb, r⟩
  low := fun {w} hw x hx => by
    rcases hw with ⟨rfl, _⟩ | ⟨b, o, c, cur, rfl, hb, r⟩
    · cases hx
    · simp only [Value.ownBlock, Option.some.injEq] at hx
      subst hx
      exact (Array.getElem?_eq_some_iff.1 hb).1
theorem own_win {base e n : Nat} {xs : List Value} (h : w.ownsRow base e 1 v n xs) : Win w v e xs := by
  obtain ⟨hl, h⟩ := h
  rw [Nat.mul_one] at hl
  subst hl
  rcases h with ⟨rfl, h0⟩ | ⟨b, cap, cur, rfl, _, hb, h1, h2, h3, h4⟩
  · exact .inl ⟨rfl, List.eq_nil_of_length_eq_zero h0⟩
  · refine .inr ⟨b, 0, cap, cur, rfl, hb, h1, h2, by omega, fun j u hj => ?_⟩
    rw [Nat.zero_add, ← Array.getElem?_toList]
    rw [← h4, List.getElem?_take] at hj
    split at hj
    · exact hj
    · cases hj
theorem Val.lenWin {i t el e : Nat} {xs : List Value} (hi : H[i]? = some (winR v e xs)) (hu : P.underlying t = some (.slice el)) (hx : ev E x = some v) :
    Val P Γ E H ⟨dst, .call { callee := .builtin .len, args := #[x], argTypes := #[t] }, ty, pos, after, g⟩ (.int .i64 xs.length) := fun a w ha hw => by
  have h : Win w v e xs := hw.all _ (List.mem_of_getElem? hi)
  rcases h with ⟨rfl, rfl⟩ | ⟨b, o, c, cur, rfl, _⟩
  · exact Val.len (bt := #[]) hu hx a w ha hw
  · exact Val.len (bt := #[]) hu hx a w ha hw
theorem Win.at {e b o n c j : Nat} {xs : List Value} (h : Win w (.slice (some ⟨b, o, none⟩) n c) e xs) (hv : xs[j]? = some u) : w.cell? ⟨b, o + j, none⟩ = some u := by
  rcases h with ⟨h1, _⟩ | ⟨b', o', c', cur, h1, hb, _, _, _, h2⟩
  · cases h1
  · simp only [Value.slice.injEq, Option.some.injEq, Addr.mk.injEq] at h1
    obtain ⟨⟨rfl, rfl, _⟩, _, _⟩ := h1
    rw [cell_of_row w _ _ cur e _ hb]
    exact h2 j u hv
theorem At.winCut (i l : Nat) {e b o n c : Nat} {xs : List Value} (hi : H[i]? = some (winR (.slice (some ⟨b, o, none⟩) n c) e xs)) (hl : l ≤ xs.length)
    (k : At Γ E (H.set i (winR (.slice (some ⟨b, if c = l then o else o + l * 1, none⟩) (n - l) (c - l)) e (xs.drop l))) φ) : At Γ E H φ := fun a w ha hw => by
  have h : Win w (.slice (some ⟨b, o, none⟩) n c) e xs := hw.all _ (List.mem_of_getElem? hi)
  refine k a w ha (hw.change hi (Mod.refl _ _) ?_ (fun b' hb => .inl hb))
  rcases h with ⟨h1, _⟩ | ⟨b', o', c', cur, h1, hb, g1, g2, g3, g4⟩
  · cases h1
  · simp only [Value.slice.injEq, Option.some.injEq, Addr.mk.injEq] at h1
    obtain ⟨⟨rfl, rfl, _⟩, rfl, rfl⟩ := h1
    refine .inr ⟨b, _, _, cur, by rw [List.length_drop], hb, by rw [List.length_drop]; omega, by omega, ?_, fun j u hj => ?_⟩
    · split <;> omega
    · rw [List.getElem?_drop] at hj
      have hlt := (List.getElem?_eq_some_iff.1 hj).1
      rw [if_neg (by omega), Nat.mul_one, Nat.add_assoc]
      exact g4 _ _ hj
theorem At.appendWin1 {i j t e by_ b' U : Nat} {ti : TypeInfo} {z : Value} {xs : List Value} (ht : P.underlying t = some (.slice e)) (hti : P.info? e = some ti) (hz : ti.zero = some z) (hsize : ti.size = 1) (hby : ti.bytes = by_) (hzs : z.cells.size = 1)
    (hx : ev E x = some v) (hy : ev E y = some (.slice (some ⟨b', 0, none⟩) 1 1)) (hi : H[i]? = some (winR v e xs)) (hj : H[j]? = some (blk b' U [u])) (h1 : u.oneCell' = true) (h63 : (xs.length + 1) * by_ ≤ 140737488355328) (h64 : xs.length + 1 ≤ 140737488355328) (hn : Nat.blt d Γ.n = true)
    (k : ∀ v', At Γ ((d, v') :: E) (H.set i (winR v' e (xs ++ [u]))) (wpList P ops Q rest)) :
    At Γ E H (wpList P ops Q ({ dst := some d, op := .call { callee := .builtin .append, args := #[x, y], argTypes := #[t, t] }, type := ty, pos, after, guard := none } :: rest)) :=
  At.run rfl rfl hn fun a w ha hw => by
    have h : Win w v e xs := hw.all _ (List.mem_of_getElem? hi)
    have hc : ∀ j' u', ([u] : List Value)[j']? = some u' → w.cell? ((⟨b', 0, none⟩ : Addr).add j') = some u' := fun j' u' hj' => by rw [Addr.add_off, Nat.zero_add]; exact ((hw.blk hj).cell j').trans hj'
    have h1' : ∀ q ∈ [u], q.oneCell' = true := by simpa using h1
    rcases h with ⟨rfl, rfl⟩ | ⟨b, o, c, cur, rfl, hb, g1, g2, g3, g4⟩
    · obtain ⟨v', w', hr, ho, hg, hf⟩ := run_append_row (P := P) (ty := ty) ht hti hz hsize hby hzs (by omega) (w := w) (v := .slice none 0 0) (n := 0) (xs := []) ⟨by simp, .inl ⟨rfl, rfl⟩⟩ (a := ⟨b', 0, none⟩) (m := 1) (c := 1) (news := [u]) rfl hc h1' (by simp [maxLen]) (by simpa using h63)
      exact ⟨v', w', _, by simp [execOp, resolve, invoke, builtin, ha.eval hx, ha.eval hy, Sem.run_bind, hr], hw.change (r' := winR v' e ([] ++ [u])) hi (grown_mod hg) (own_win ho) hf, k v'⟩
    · by_cases hroom : xs.length + 1 ≤ c
      · have hcell : ∀ q, q < cur.size → w.cell? ⟨b, q, none⟩ = some (cur[q]?.getD undef) := fun q hq => by rw [cell_of_row w _ _ cur e _ hb, Array.getElem?_eq_getElem hq]; rfl
        have hr := run_append_room_cells (P := P) (w := w) t ty e ti ht hti b o xs.length c ⟨b', 0, none⟩ 1 1 [u] (by rw [hsize]; rfl) hc h1' hroom
          (fun j' hj' => by simp at hj'; subst hj'; rw [hsize, hcell _ (by omega)]; rfl) (fun j' hj' => by simp [World.frozen?, hb])
        refine ⟨_, _, _, by simp [execOp, resolve, invoke, builtin, ha.eval hx, ha.eval hy, Sem.run_bind, hr]; exact ⟨rfl, rfl⟩, ?_, k _⟩
        refine hw.change (r' := winR (.slice (some ⟨b, o, none⟩) (xs.length + 1) c) e (xs ++ [u])) hi ?_ ?_ (fun b hb => .inl hb)
        · exact (Mod.setCell w ⟨b, _, none⟩ u).mono fun x' hx' => by subst hx'; rfl
        · refine .inr ⟨b, o, c, cur.setIfInBounds (o + xs.length * ti.size) u, by simp, ?_, by simpa using hroom, g2, by simpa using g3, fun j' u' hj' => ?_⟩
          · show (w.setCell ⟨b, o + xs.length * ti.size, none⟩ u).heap[b]? = _
            rw [setCell_eq_setRow w b _ cur e (0, 0) u hb, setRow_heap w b _ _ e (0, 0) hb]
          · rw [hsize, Nat.mul_one]
            rcases Nat.lt_or_ge j' xs.length with hlt | hge
            · rw [List.getElem?_append_left hlt] at hj'
              rw [Array.getElem?_setIfInBounds_ne (by omega)]
              exact g4 _ _ hj'
            · rw [List.getElem?_append_right hge] at hj'
              have : j' = xs.length := by
                have := (List.getElem?_eq_some_iff.1 hj').1
                simp at this; omega
              subst this
              rw [Nat.sub_self] at hj'
              have : u = u' := by simpa using hj'
              subst this
              rw [Array.getElem?_setIfInBounds_self, if_pos (by omega)]
      · obtain ⟨v', w', hr, ho, hg⟩ := run_append_arg_grows (P := P) (w := w) t ty e ti z 1 by_ ht hti hz hsize hby hzs (by omega) ⟨b, o, none⟩ xs.length c xs (by omega)
          (fun j' u' hj' => by rw [Addr.add_off, cell_of_row w _ _ cur e _ hb]; exact g4 _ _ hj') ⟨b', 0, none⟩ 1 1 [u] rfl hc (by omega) (by simp only [maxLen]; omega) h63
        exact ⟨v', w', _, by simp [execOp, resolve, invoke, builtin, ha.eval hx, ha.eval hy, Sem.run_bind, hr], hw.change (r' := winR v' e (xs ++ [u])) hi ((grown_none hg).mono fun b hb => hb.elim) (own_win ho) (fun q hq => .inr (own_block ho q hq)), k v'⟩
theorem Val.neNil {t t' : TypeId} {p : Option Addr} (h : P.underlying t = some (.pointer (P.pointee t))) (hx : ev E x = some (.pointer p)) : Val P Γ E H ⟨dst, .binOp .neq t x (.const (.pointer none)) t', ty, pos, after, g⟩ (.bool p.isSome) := fun a w ha _ => by
  have hc : a.eval (.const (.pointer none)) = .pointer none := rfl
  cases p <;> simp [execOp, ha.eval hx, hc, eqGuard, run_neq_pointer_nil w t _ h]
theorem Val.eqNil {t t' : TypeId} {p : Option Addr} (h : P.underlying t = some (.pointer (P.pointee t))) (hx : ev E x = some (.pointer p)) : Val P Γ E H ⟨dst, .binOp .eql t x (.const (.pointer none)) t', ty, pos, after, g⟩ (.bool p.isNone) := fun a w ha _ => by
  have hc : a.eval (.const (.pointer none)) = .pointer none := rfl
  cases p <;> simp [execOp, ha.eval hx, hc, eqGuard, run_eql_pointer_nil w t _ h]
end
end Go.Wk
namespace Go.Wk
open Go Go.ChangeMaps
abbrev kv (k : Int) : Value := .int .i64 k
structure Ent (f : Int → Option Value) (E : Array MapEntry) (clock : Nat) : Prop where
  int : ∀ x ∈ E.toList, ∃ k, x.key = kv k
  keys : (E.toList.map (·.key)).Nodup
  stamps : (E.toList.map (·.born)).Nodup
  old : ∀ x ∈ E.toList, x.born < clock
  get : ∀ k v, f k = some v ↔ ∃ x ∈ E.toList, x.key = kv k ∧ x.val = v
theorem key_inj {l : List MapEntry} (h : (l.map (·.key)).Nodup) {x y : MapEntry} (hx : x ∈ l) (hy : y ∈ l) (e : x.key = y.key) : x = y := by
  induction l with
  | nil => cases hx
  | cons a l ih =>
    simp only [List.map_cons, List.nodup_cons, List.mem_map, not_exists, not_and] at h
    rcases List.mem_cons.1 hx with rfl | hx' <;> rcases List.mem_cons.1 hy with rfl | hy'
    · rfl
    · exact absurd e.symm (h.1 y hy')
    · exact absurd e (h.1 x hx')
    · exact ih h.2 hx' hy'
theorem Ent.find {f : Int → Option Value} {E : Array MapEntry} {clock : Nat} (h : Ent f E clock) (k : Int) :
    (Instr.findNow (.int .i64) (kv k) E.toList 0 = some none ∧ f k = none) ∨ ∃ j e, Instr.findNow (.int .i64) (kv k) E.toList 0 = some (some (j, e.val)) ∧ E.toList[j]? = some e ∧ e.key = kv k ∧ f k = some e.val := by
  have hk : MapKept.IsKey (.int .i64) (kv k) := by simp [MapKept.IsKey]
  rcases MapKept.findNow_spec hk E.toList 0 (fun x hx => by obtain ⟨q, hq⟩ := h.int x hx; rw [hq]; simp [MapKept.IsKey]) with ⟨h1, h2⟩ | ⟨j, e, h1, h2, h3⟩
  · refine .inl ⟨h1, ?_⟩
    cases hf : f k with
    | none => rfl
    | some v => obtain ⟨x, hx, hxk, _⟩ := (h.get k v).1 hf; exact absurd hxk (h2 x hx)
  · exact .inr ⟨j, e, by simpa using h1, h2, h3, (h.get k _).2 ⟨e, List.mem_of_getElem? h2, h3, rfl⟩⟩
theorem Ent.nil (clock : Nat) : Ent (fun _ => none) #[] clock := ⟨by simp, by simp, by simp, by simp, by simp⟩
theorem Ent.push {f : Int → Option Value} {E : Array MapEntry} {clock : Nat} (h : Ent f E clock) {k : Int} (hk : f k = none) (v : Value) : Ent (fun x => if x = k then some v else f x) (E.push { key := kv k, val := v, born := clock }) (clock + 1) := by
  have hno : ∀ x ∈ E.toList, x.key ≠ kv k := fun x hx e => by
    have := (h.get k x.val).2 ⟨x, hx, e, rfl⟩
    rw [hk] at this; cases this
  refine ⟨fun x hx => ?_, ?_, ?_, fun x hx => ?_, fun q u => ?_⟩
  · simp only [Array.toList_push, List.mem_append, List.mem_singleton] at hx
    rcases hx with hx | rfl
    · exact h.int x hx
    · exact ⟨k, rfl⟩
  · simp only [Array.toList_push, List.map_append, List.map_cons, List.map_nil]
    refine List.nodup_append.2 ⟨h.keys, by simp, fun a ha b hb => ?_⟩
    obtain ⟨x, hx, rfl⟩ := List.mem_map.1 ha
    rw [List.mem_singleton.1 hb]
    exact hno x hx
  · simp only [Array.toList_push, List.map_append, List.map_cons, List.map_nil]
    refine List.nodup_append.2 ⟨h.stamps, by simp, fun a ha b hb => ?_⟩
    obtain ⟨x, hx, rfl⟩ := List.mem_map.1 ha
    rw [List.mem_singleton.1 hb]
    have := h.old x hx
    show x.born ≠ clock
    omega
  · simp only [Array.toList_push, List.mem_append, List.mem_singleton] at hx
    rcases hx with hx | rfl
    · have := h.old x hx; omega
    · simp
  · simp only [Array.toList_push, List.mem_append, List.mem_singleton]
    by_cases hq : q = k
    · subst hq
      simp only [if_true]
      constructor
      · intro e; have e := Option.some.inj e; subst e; exact ⟨_, .inr rfl, rfl, rfl⟩
      · rintro ⟨x, hx | rfl, h1, h2⟩
        · exact absurd h1 (hno x hx)
        · rw [← h2]
    · rw [if_neg hq, h.get q u]
      constructor
      · rintro ⟨x, hx, h1, h2⟩; exact ⟨x, .inl hx, h1, h2⟩
      · rintro ⟨x, hx | rfl, h1, h2⟩
        · exact ⟨x, hx, h1, h2⟩
        · simp only [kv, Value.int.injEq, true_and] at h1; exact absurd h1.symm hq
theorem Ent.erase {f : Int → Option Value} {E E' : Array MapEntry} {clock j : Nat} {e : MapEntry} (h : Ent f E clock) {k : Int} (hj : E.toList[j]? = some e) (hk : e.key = kv k) (hE : E'.toList = E.toList.eraseIdx j) : Ent (fun x => if x = k then none else f x) E' clock := by
  have hs : (E.toList.eraseIdx j).Sublist E.toList := List.eraseIdx_sublist ..
  have hm : ∀ x, x ∈ E'.toList ↔ x ∈ E.toList ∧ x.key ≠ kv k := fun x => by
    rw [hE, List.mem_eraseIdx_iff_getElem?]
    constructor
    · rintro ⟨i, hne, hi⟩
      refine ⟨List.mem_of_getElem? hi, fun e1 => hne ?_⟩
      have hxe : x = e := key_inj h.keys (List.mem_of_getElem? hi) (List.mem_of_getElem? hj) (e1.trans hk.symm)
      subst hxe
      have h1 := (List.getElem?_eq_some_iff.1 hi)
      have h2 := (List.getElem?_eq_some_iff.1 hj)
      have hn : E.toList.Nodup := List.Pairwise.imp (fun {a b} hab e => hab (congrArg MapEntry.key e)) (List.pairwise_map.1 h.keys)
      rcases Nat.lt_trichotomy i j with hlt | hlt | hlt
      · exact absurd (h1.2.trans h2.2.symm) (List.pairwise_iff_getElem.1 hn i j h1.1 h2.1 hlt)
      · exact hlt
      · exact absurd (h2.2.trans h1.2.symm) (List.pairwise_iff_getElem.1 hn j i h2.1 h1.1 hlt)
    · rintro ⟨hx, hne⟩
      obtain ⟨i, hi⟩ := List.getElem?_of_mem hx
      refine ⟨i, fun e1 => hne ?_, hi⟩
      rw [e1, hj] at hi; cases hi; exact hk
  refine ⟨fun x hx => h.int x ((hm x).1 hx).1, ?_, ?_, fun x hx => h.old x ((hm x).1 hx).1, fun q u => ?_⟩
  · rw [hE]; exact h.keys.sublist (hs.map _)
  · rw [hE]; exact h.stamps.sublist (hs.map _)
  · by_cases hq : q = k
    · subst hq
      simp only [if_true]
      constructor
      · intro e; cases e
      · rintro ⟨x, hx, h1, h2⟩; exact absurd h1 ((hm x).1 hx).2
    · rw [if_neg hq, h.get q u]
      constructor
      · rintro ⟨x, hx, h1, h2⟩
        refine ⟨x, (hm x).2 ⟨hx, fun e1 => hq ?_⟩, h1, h2⟩
        rw [h1] at e1; simpa [kv] using e1
      · rintro ⟨x, hx, h1, h2⟩; exact ⟨x, ((hm x).1 hx).1, h1, h2⟩
def mapR (b : Nat) (f : Int → Option Value) : Res where
  foot := fun x => x = b
  holds := fun w => ∃ E clock, w.heap[b]? = some (.map E clock) ∧ Ent f E clock
  stable := fun h ⟨E, clock, hb, he⟩ => ⟨E, clock, (h b rfl).trans hb, he⟩
  low := fun ⟨E, clock, hb, he⟩ x hx => by subst hx; exact (Array.getElem?_eq_some_iff.1 hb).1
def iterR (b r : Nat) (f : Int → Option Value) (left : Int → Bool) (cur : Option (Int × Value)) (cnt : Nat) : Res where
  foot := fun x => x = b ∨ x = r
  holds := fun w => ∃ E clock since seen c0, r ≠ b ∧ w.heap[b]? = some (.map E clock) ∧ Ent f E clock ∧ w.heap[r]? = some (.mapIter (some b) since seen c0) ∧ (∀ x ∈ E.toList, x.born < since) ∧ since ≤ c0 ∧ since ≤ clock ∧
    (∀ x ∈ E.toList, ∀ k, x.key = kv k → left k = !seen.contains x.born) ∧ (∀ k, left k = true → f k ≠ none) ∧ (leftOf E seen).size = cnt ∧ (∀ k v, cur = some (k, v) → c0 = clock ∧ ∃ (s : Array Nat) (x : MapEntry), seen = s.push x.born ∧ x ∈ E.toList ∧ x.key = kv k ∧ x.val = v)
  stable := fun h ⟨E, clock, since, seen, c0, hne, hb, he, hr, hh⟩ => ⟨E, clock, since, seen, c0, hne, (h b (.inl rfl)).trans hb, he, (h r (.inr rfl)).trans hr, hh⟩
  low := fun ⟨E, clock, since, seen, c0, hne, hb, he, hr, hh⟩ x hx => by
    rcases hx with rfl | rfl
    · exact (Array.getElem?_eq_some_iff.1 hb).1
    · exact (Array.getElem?_eq_some_iff.1 hr).1
section
variable {P : Program} {Γ : Ctx} {E : Env} {H L F : List Res} {ops : Array Oper} {Q : Exit → Act → World → Prop} {rest : List Oper} {w0 w w' : World} {S : Nat → Prop} {φ : Act → World → Prop}
  {d : Nat} {dst : Option Tmp} {g : Option (Nat × Bool)} {ty : TypeId} {pos : String} {after : Array Edge} {x y z : Operand} {v u : Value} {f : Int → Option Value} {left : Int → Bool} {cur : Option (Int × Value)} {cnt b r i : Nat} {t kt et : TypeId}
theorem Mod.setBlock (w : World) (b : Nat) (o : Obj) : Mod (fun x => x = b) w (setBlock w b o) :=
  ⟨by simp [ChangeMaps.setBlock], fun x _ hn => by simp only [ChangeMaps.setBlock]; rw [Array.getElem?_setIfInBounds_ne (Ne.symm hn)], rfl, rfl, rfl⟩
theorem setBlock_at {w : World} {b : Nat} {o o' : Obj} (h : w.heap[b]? = some o) : (setBlock w b o').heap[b]? = some o' := by
  have := (Array.getElem?_eq_some_iff.1 h).1
  simp [ChangeMaps.setBlock, this]
theorem setBlock_ne {w : World} {b b' : Nat} {o' : Obj} (h : b' ≠ b) : (setBlock w b o').heap[b']? = w.heap[b']? := by
  simp only [ChangeMaps.setBlock]; rw [Array.getElem?_setIfInBounds_ne (Ne.symm h)]
theorem run_setMap {w : World} {r : Nat} {es : Array MapEntry} {clock : Nat} (o : Obj) (hb : w.heap[r]? = some (.map es clock)) : (setObj r o).run P w = .ok () (setBlock w r o) := MapKept.run_setObj_map o hb
theorem Val.look {k : Int} (hu : P.underlying t = some (.map kt et)) (hk : P.underlying kt = some (.int .i64)) (hz : ∀ w, (zeroValue et).run P w = .ok (.pointer none) w) (hx : ev E x = some (.map (some b))) (hy : ev E y = some (.int .i64 k)) (hi : H[i]? = some (mapR b f)) :
    Val P Γ E H ⟨dst, .lookup t x y false, ty, pos, after, g⟩ ((f k).getD (.pointer none)) := fun a w ha hw => by
  obtain ⟨es, clock, hb, he⟩ : ∃ es clock, w.heap[b]? = some (.map es clock) ∧ Ent f es clock := hw.all _ (List.mem_of_getElem? hi)
  have hck := fun e => MapKept.run_checkKey (P := P) (w := w) (k := kv k) hk (by simp [MapKept.IsKey]) e 9999
  rcases he.find k with ⟨h1, h2⟩ | ⟨j, e, h1, h2, h3, h4⟩
  · simp [execOp, ha.eval hx, ha.eval hy, Instr.lookup, Sem.run_bind, run_underlying hu, MapKept.run_getObj_map hb, hck, MapKept.run_findKey hk h1, hz, h2]
  · simp [execOp, ha.eval hx, ha.eval hy, Instr.lookup, Sem.run_bind, run_underlying hu, MapKept.run_getObj_map hb, hck, MapKept.run_findKey hk h1, h4]
theorem At.mapSet {k : Int} (hu : P.underlying t = some (.map kt et)) (hk : P.underlying kt = some (.int .i64)) (hx : ev E x = some (.map (some b))) (hy : ev E y = some (.int .i64 k)) (hz : ev E z = some v) (hi : H[i]? = some (mapR b f)) (hf : f k = none)
    (c : At Γ E (H.set i (mapR b fun q => if q = k then some v else f q)) (wpList P ops Q rest)) : At Γ E H (wpList P ops Q ({ dst := .none, op := .mapUpdate t x y z, type := ty, pos, after, guard := none } :: rest)) :=
  At.skip rfl rfl fun a w ha hw => by
    obtain ⟨es, clock, hb, he⟩ : ∃ es clock, w.heap[b]? = some (.map es clock) ∧ Ent f es clock := hw.all _ (List.mem_of_getElem? hi)
    have hck := fun e => MapKept.run_checkKey (P := P) (w := w) (k := kv k) hk (by simp [MapKept.IsKey]) e 9999
    rcases he.find k with ⟨h1, h2⟩ | ⟨j, e, h1, h2, h3, h4⟩
    · refine ⟨_, _, by simp [execOp, ha.eval hx, ha.eval hy, ha.eval hz, Instr.mapUpdate, Sem.run_bind, run_underlying hu, MapKept.run_getObj_map hb, hck, MapKept.run_findKey hk h1, run_setMap _ hb]; rfl, ?_, c⟩
      exact hw.change (r' := mapR b _) hi (Mod.setBlock w b _) ⟨_, _, setBlock_at hb, he.push hf v⟩ (fun b hb => .inl hb)
    · rw [hf] at h4; cases h4
theorem At.makeMap (hn : Nat.blt d Γ.n = true) (c : ∀ b, At Γ ((d, .map (some b)) :: E) (mapR b (fun _ => none) :: H) (wpList P ops Q rest)) :
    At Γ E H (wpList P ops Q ({ dst := some d, op := .makeMap t .none, type := ty, pos, after, guard := none } :: rest)) :=
  At.run rfl rfl hn fun a w ha hw => ⟨.map (some w.heap.size), w.alloc (.map #[] 0), _, by
    have h0 : (Instr.makeMap t none).run P w = .ok (.map (some w.heap.size)) (w.alloc (.map #[] 0)) := rfl
    simp [execOp, Sem.run_bind, h0], hw.new (r' := mapR w.heap.size fun _ => none) (Mod.alloc w _) ⟨#[], 0, heap_alloc_new w _, Ent.nil 0⟩ (fun b hb => by simp only [mapR] at hb; omega), c _⟩
theorem At.range (hu : P.underlying t = some (.map kt et)) (hx : ev E x = some (.map (some b))) (hi : H[i]? = some (mapR b f)) (hn : Nat.blt d Γ.n = true)
    (c : ∀ r cnt, At Γ ((d, .pointer (some ⟨r, 0, none⟩)) :: E) (H.set i (iterR b r f (fun k => (f k).isSome) none cnt)) (wpList P ops Q rest)) :
    At Γ E H (wpList P ops Q ({ dst := some d, op := .range t x, type := ty, pos, after, guard := none } :: rest)) :=
  At.run rfl rfl hn fun a w ha hw => by
    obtain ⟨es, clock, hb, he⟩ : ∃ es clock, w.heap[b]? = some (.map es clock) ∧ Ent f es clock := hw.all _ (List.mem_of_getElem? hi)
    have hlt := (Array.getElem?_eq_some_iff.1 hb).1
    refine ⟨_, _, _, by simp [execOp, ha.eval hx, Sem.run_bind, run_range_map w t kt et b es clock hu hb]; exact ⟨rfl, rfl⟩, ?_, c _ (leftOf es #[]).size⟩
    refine hw.change (r' := iterR b w.heap.size f _ none _) hi ((Mod.alloc w _).mono fun b hb => hb.elim) ⟨es, clock, clock, #[], clock, by omega, (heap_alloc_old w _ hlt).trans hb, he, heap_alloc_new w _, he.old, Nat.le_refl _, Nat.le_refl _, fun q hq k hk => ?_, fun k hk => ?_, rfl, (fun k v h => by cases h)⟩ (fun q hq => ?_)
    · show (f k).isSome = _
      rw [(he.get k q.val).2 ⟨q, hq, hk, rfl⟩]; simp
    · intro h0
      have hk : (f k).isSome = true := hk
      rw [h0] at hk; cases hk
    · rcases hq with rfl | rfl
      · exact .inl rfl
      · exact .inr (Nat.le_refl _)
theorem At.next (hx : ev E x = some (.pointer (some ⟨r, 0, none⟩))) (hi : H[i]? = some (iterR b r f left cur cnt)) (hn : Nat.blt d Γ.n = true)
    (c0 : (∀ k, left k = false) → At Γ ((d, .tuple #[.bool false]) :: E) H (wpList P ops Q rest))
    (c1 : ∀ k v cnt', left k = true → f k = some v → cnt' < cnt → At Γ ((d, .tuple #[.bool true, .int .i64 k, v]) :: E) (H.set i (iterR b r f (fun q => left q && q != k) (some (k, v)) cnt')) (wpList P ops Q rest)) :
    At Γ E H (wpList P ops Q ({ dst := some d, op := .next x false, type := ty, pos, after, guard := none } :: rest)) :=
  At.run rfl rfl hn fun a w ha hw => by
    obtain ⟨es, clock, since, seen, co, hne, hb, he, hr, hold, hs1, hs2, hl1, hl2, hcnt, hcur⟩ : (iterR b r f left cur cnt).holds w := hw.all _ (List.mem_of_getElem? hi)
    rcases run_next_at (P := P) w ty r b since co seen es clock hr hb hold hs1 with ⟨h0, hrun⟩ | ⟨e, hel, w1, hal, hrun⟩
    · refine ⟨.tuple #[.bool false], w, H, by simp [execOp, ha.eval hx, Sem.run_bind, hrun], hw, c0 fun k => ?_⟩
      cases hk : left k with
      | false => rfl
      | true =>
        have := hl2 k hk
        cases hf : f k with
        | none => exact absurd hf this
        | some v =>
          obtain ⟨q, hq, h1, h2⟩ := (he.get k v).1 hf
          have h3 := hl1 q hq k h1
          rw [all_seen es seen h0 q hq, hk] at h3
          cases h3
    · obtain ⟨hem, hes⟩ := mem_left hel
      obtain ⟨k, hk⟩ := he.int e hem
      have hfk := (he.get k e.val).2 ⟨e, hem, hk, rfl⟩
      have hw1 : Rep Γ.w0 Γ.S H w1 := by rcases hal with rfl | rfl; exact hw; exact hw.drew
      have hr1 : w1.heap[r]? = some (.mapIter (some b) since seen co) := by rcases hal with rfl | rfl <;> exact hr
      have hb1 : w1.heap[b]? = some (.map es clock) := by rcases hal with rfl | rfl <;> exact hb
      refine ⟨_, _, _, by simp [execOp, ha.eval hx, Sem.run_bind, hrun]; exact ⟨rfl, rfl⟩, ?_, by
        have := c1 k e.val (leftOf es (seen.push e.born)).size (by rw [hl1 e hem k hk, hes]; rfl) hfk (by rw [← hcnt]; exact left_shrinks es seen e hel)
        rw [hk]; exact this⟩
      refine hw1.change (r' := iterR b r f _ (some (k, e.val)) _) hi ((Mod.setBlock w1 r _).mono fun q hq => .inr hq) ⟨es, clock, since, seen.push e.born, clock, hne, (setBlock_ne (Ne.symm hne)).trans hb1, he, setBlock_at hr1, hold, hs2, hs2, fun q hq k' hk' => ?_, fun k' hk' => hl2 k' (by simp at hk'; exact hk'.1), rfl, fun k' v' h' => ?_⟩ (fun q hq => .inl hq)
      · show (left k' && k' != k) = _
        rw [contains_push, hl1 q hq k' hk']
        by_cases hqe : q.born = e.born
        · have : q = e := by
            have hn := he.stamps
            exact born_inj hn hq hem hqe
          subst this
          rw [hk] at hk'
          have : k = k' := by simpa [kv] using hk'
          subst this
          simp
        · have h1 : (q.born == e.born) = false := by simpa using hqe
          have h2 : (k' != k) = true := by
            simp only [bne_iff_ne, ne_eq]
            intro e1; subst e1
            exact hqe (congrArg MapEntry.born (key_inj he.keys hq hem (hk'.trans hk.symm)))
          rw [h1, h2]; cases seen.contains q.born <;> rfl
      · simp only [Option.some.injEq, Prod.mk.injEq] at h'
        obtain ⟨rfl, rfl⟩ := h'
        exact ⟨rfl, seen, e, rfl, hem, hk, rfl⟩
theorem Val.entry {k : Int} (hx : ev E x = some (.pointer (some ⟨r, 0, none⟩))) (hi : H[i]? = some (iterR b r f left (some (k, v)) cnt)) :
    Val P Γ E H ⟨dst, .entry x, ty, pos, after, g⟩ (.tuple #[.int .i64 k, v]) := fun a w ha hw => by
  obtain ⟨es, clock, since, seen, co, hne, hb, he, hr, hold, hs1, hs2, hl1, hl2, hcnt, hcur⟩ : (iterR b r f left (some (k, v)) cnt).holds w := hw.all _ (List.mem_of_getElem? hi)
  obtain ⟨rfl, s, e, rfl, hem, hk, rfl⟩ := hcur k v rfl
  have := run_entry_at (P := P) w r b since s es _ e hr hb hem he.stamps
  simp [execOp, ha.eval hx, Sem.run_bind, this, hk]
theorem At.delIt {k : Int} (hu : P.underlying t = some (.map kt et)) (hk : P.underlying kt = some (.int .i64)) (hx : ev E x = some (.map (some b))) (hy : ev E y = some (.int .i64 k)) (hi : H[i]? = some (iterR b r f left cur cnt))
    (c : ∀ cnt', cnt' ≤ cnt → At Γ E (H.set i (iterR b r (fun q => if q = k then none else f q) (fun q => left q && q != k) none cnt')) (wpList P ops Q rest)) :
    At Γ E H (wpList P ops Q ({ dst := .none, op := .call { callee := .builtin .delete, args := #[x, y], argTypes := #[t, kt] }, type := ty, pos, after, guard := none } :: rest)) := fun a w ha hw => by
  obtain ⟨es, clock, since, seen, co, hne, hb, he, hr, hold, hs1, hs2, hl1, hl2, hcnt, hcur⟩ : (iterR b r f left cur cnt).holds w := hw.all _ (List.mem_of_getElem? hi)
  have hck := fun e => MapKept.run_checkKey (P := P) (w := w) (k := kv k) hk (by simp [MapKept.IsKey]) e 9999
  have fin : ∀ (es' : Array MapEntry) (w' : World), (execOp a.eval { dst := .none, op := .call { callee := .builtin .delete, args := #[x, y], argTypes := #[t, kt] }, type := ty, pos, after, guard := none }).run P w = .ok (.value (.tuple #[])) w' → w' = setBlock w b (.map es' clock) →
      Ent (fun q => if q = k then none else f q) es' clock → (∀ q, q ∈ es'.toList → q ∈ es.toList) → (∀ q, q ∈ es'.toList → q.key ≠ kv k) → (leftOf es' seen).size ≤ cnt → wpList P ops Q ({ dst := .none, op := .call { callee := .builtin .delete, args := #[x, y], argTypes := #[t, kt] }, type := ty, pos, after, guard := none } :: rest) a w := fun es' w' hrun hw' he' hsub hnk hle => by
    refine wpList_plain rfl fun K hK => ?_
    unfold Oper.wp
    rw [hrun, Oper.upon_value]
    refine hK _ _ (c _ hle _ _ ha ?_)
    subst hw'
    refine hw.change (r' := iterR b r _ _ none _) hi ((Mod.setBlock w b _).mono fun q hq => .inl hq) ⟨es', clock, since, seen, co, hne, setBlock_at hb, he', (setBlock_ne hne).trans hr, fun q hq => hold q (hsub q hq), hs1, hs2, fun q hq k' hk' => ?_, fun k' hk' => ?_, rfl, (fun k v h => by cases h)⟩ (fun q hq => .inl hq)
    · show (left k' && k' != k) = _
      rw [hl1 q (hsub q hq) k' hk']
      have : (k' != k) = true := by
        simp only [bne_iff_ne, ne_eq]
        intro e1; subst e1
        exact hnk q hq hk'
      rw [this]; simp
    · have hk' : (left k' && k' != k) = true := hk'
      simp only [Bool.and_eq_true, bne_iff_ne, ne_eq] at hk'
      show (if k' = k then none else f k') ≠ none
      rw [if_neg hk'.2]
      exact hl2 k' hk'.1
  rcases he.find k with ⟨h1, h2⟩ | ⟨j, e, h1, h2, h3, h4⟩
  · refine fin es _ (by simp [execOp, resolve, invoke, builtin, ha.eval hx, ha.eval hy, Builtin.delete_, Sem.run_bind, run_underlying hu, MapKept.run_getObj_map hb, hck, MapKept.run_findKey hk h1, run_setMap _ hb]) rfl ?_ (fun q h => h) (fun q hq e => ?_) (Nat.le_of_eq hcnt)
    · have : (fun q => if q = k then none else f q) = f := funext fun q => by split; · rename_i e; rw [e, h2]
                                                                              · rfl
      rw [this]; exact he
    · have := (he.get k q.val).2 ⟨q, hq, e, rfl⟩
      rw [h2] at this; cases this
  · have hjs : j < es.size := by have := (List.getElem?_eq_some_iff.1 h2).1; simpa using this
    have hE : (es.eraseIdxIfInBounds j).toList = es.toList.eraseIdx j := by
      unfold Array.eraseIdxIfInBounds
      rw [dif_pos hjs]; simp
    have he' := he.erase h2 h3 hE
    have hsub : ∀ q, q ∈ (es.eraseIdxIfInBounds j).toList → q ∈ es.toList := fun q hq => (List.eraseIdx_sublist ..).subset (hE ▸ hq)
    refine fin (es.eraseIdxIfInBounds j) _ (by simp [execOp, resolve, invoke, builtin, ha.eval hx, ha.eval hy, Builtin.delete_, Sem.run_bind, run_underlying hu, MapKept.run_getObj_map hb, hck, MapKept.run_findKey hk h1, run_setMap _ hb]) rfl he' hsub (fun q hq e1 => ?_) ?_
    · have := (he'.get k q.val).2 ⟨q, hq, e1, rfl⟩
      simp at this
    · rw [← hcnt]
      unfold leftOf
      have e1 : ∀ (a : Array MapEntry) (p : MapEntry → Bool), (a.filter p).size = (a.toList.filter p).length := fun a p => by rw [← Array.toList_filter, Array.length_toList]
      rw [e1, e1, hE]
      exact ((List.eraseIdx_sublist _ _).filter _).length_le
theorem At.iterEnd (i : Nat) (hi : H[i]? = some (iterR b r f left cur cnt)) (k : At Γ E (H.set i (mapR b f)) φ) : At Γ E H φ := fun a w ha hw => by
  obtain ⟨es, clock, since, seen, co, hne, hb, he, hr, hh⟩ : (iterR b r f left cur cnt).holds w := hw.all _ (List.mem_of_getElem? hi)
  exact k a w ha (hw.change (r' := mapR b f) hi (Mod.refl _ _) ⟨es, clock, hb, he⟩ (fun q hq => .inl (.inl hq)))
end
end Go.Wk
namespace Go.Wk
open Go Go.ChangeMaps
structure Wd where
  old : BitVec 64
  news : List (BitVec 64)
  mark : Nat
structure Ds where
  ws : List Wd
  steps : Nat
  armed : Bool
  left : Nat
structure Gh where
  vo : Value
  mb : Nat
  g : Nat → Nat × Value
abbrev tDv : TypeId := 74
abbrev tDb : TypeId := 103
abbrev tW : TypeId := 38
def olds (ws : List Wd) : List (BitVec 64) := ws.map (·.old)
def dR (p : Nat × Value) (w : Wd) : Res := star [blk p.1 tDb [p.2, .int .i64 (w.mark : Int)], winR p.2 tW (w.news.map b64)]
def dI (ws : List Wd) (g : Nat → Nat × Value) (k : Nat) : Option Res := match ws[k]? with | some w => (match w.news with | [] => none | _ => some (dR (g k) w)) | none => none
def mkN (ws : List Wd) (g : Nat → Nat × Value) (k : Nat) : Option Value := match ws[k]? with | some w => (match w.news with | [] => none | _ => some (.pointer (some ⟨(g k).1, 0, none⟩))) | none => none
def mk (ws : List Wd) (g : Nat → Nat × Value) (x : Int) : Option Value := if 0 ≤ x ∧ x % 8 = 0 then mkN ws g (x / 8).toNat else none
structure Dgood (σ : Ds) : Prop where
  pos : 0 < σ.ws.length
  len : σ.ws.length ≤ 65536
  lines : σ.ws.length % 8 = 0
  steps : σ.steps ≤ 1099511627776
  left : σ.left ≤ 9223372036854775807
  word : ∀ w ∈ σ.ws, w.mark ≤ w.news.length ∧ w.news.length ≤ σ.steps
def devL (p : Nat) (γ : Gh) (σ : Ds) : List Res :=
  [blk p tDv [γ.vo, .map (some γ.mb), .int .i64 (σ.steps : Int), .bool σ.armed, .int .i64 (σ.left : Int)], wrow tW γ.vo (olds σ.ws), mapR γ.mb (mk σ.ws γ.g), fam (dI σ.ws γ.g), factR (Dgood σ)]
def Dev (p : Nat) (γ : Gh) (σ : Ds) : Res := star (devL p γ σ)
theorem Dev.good {p γ σ} {w : World} (h : (Dev p γ σ).holds w) : Dgood σ := h.2 (factR (Dgood σ)) (by simp [devL])
theorem olds_length (ws : List Wd) : (olds ws).length = ws.length := by simp [olds]
theorem olds_at {ws : List Wd} {k : Nat} {wd : Wd} (h : ws[k]? = some wd) : (olds ws)[k]? = some wd.old := by simp [olds, h]
theorem olds_set (ws : List Wd) (k : Nat) (wd : Wd) : olds (ws.set k wd) = (olds ws).set k wd.old := by simp [olds, List.map_set]
theorem olds_same {ws : List Wd} {k : Nat} {wd wd' : Wd} (h : ws[k]? = some wd) (he : wd'.old = wd.old) : olds (ws.set k wd') = olds ws := by
  rw [olds_set, he]
  apply List.ext_getElem?
  intro j
  rw [List.getElem?_set]
  split
  · rename_i e; subst e
    have := olds_at h
    rw [this]; simp [(List.getElem?_eq_some_iff.1 this).1]
  · rfl
theorem dI_some {ws : List Wd} {g : Nat → Nat × Value} {k : Nat} {wd : Wd} (hk : ws[k]? = some wd) (hn : wd.news ≠ []) : dI ws g k = some (dR (g k) wd) := by
  unfold dI; rw [hk]; cases h : wd.news with
  | nil => exact absurd h hn
  | cons a l => simp only [h]
theorem dI_none {ws : List Wd} {g : Nat → Nat × Value} {k : Nat} {wd : Wd} (hk : ws[k]? = some wd) (hn : wd.news = []) : dI ws g k = none := by
  unfold dI; rw [hk]; simp only [hn]
theorem dI_ne {ws : List Wd} {g g' : Nat → Nat × Value} {k j : Nat} {wd : Wd} (hj : j ≠ k) (hg : g' j = g j) : dI (ws.set k wd) g' j = dI ws g j := by
  unfold dI; rw [List.getElem?_set_ne (Ne.symm hj), hg]
theorem mkN_some {ws : List Wd} {g : Nat → Nat × Value} {k : Nat} {wd : Wd} (hk : ws[k]? = some wd) (hn : wd.news ≠ []) : mkN ws g k = some (.pointer (some ⟨(g k).1, 0, none⟩)) := by
  unfold mkN; rw [hk]; cases h : wd.news with
  | nil => exact absurd h hn
  | cons a l => simp only [h]
theorem mkN_none {ws : List Wd} {g : Nat → Nat × Value} {k : Nat} {wd : Wd} (hk : ws[k]? = some wd) (hn : wd.news = []) : mkN ws g k = none := by
  unfold mkN; rw [hk]; simp only [hn]
theorem mkN_ne {ws : List Wd} {g g' : Nat → Nat × Value} {k j : Nat} {wd : Wd} (hj : j ≠ k) (hg : g' j = g j) : mkN (ws.set k wd) g' j = mkN ws g j := by
  unfold mkN; rw [List.getElem?_set_ne (Ne.symm hj), hg]
theorem mk_at (ws : List Wd) (g : Nat → Nat × Value) (k : Nat) : mk ws g (8 * (k : Int)) = mkN ws g k := by
  unfold mk; rw [if_pos (by omega)]; congr 1; omega
theorem mk_inv {ws : List Wd} {g : Nat → Nat × Value} {x : Int} {v : Value} (h : mk ws g x = some v) : ∃ (k : Nat) (wd : Wd), x = 8 * (k : Int) ∧ ws[k]? = some wd ∧ wd.news ≠ [] ∧ v = .pointer (some ⟨(g k).1, 0, none⟩) := by
  unfold mk at h
  split at h
  · rename_i hx
    refine ⟨(x / 8).toNat, ?_⟩
    unfold mkN at h
    split at h
    · rename_i wd hwd
      split at h
      · cases h
      · rename_i hn
        exact ⟨wd, by omega, hwd, fun e => hn e, (Option.some.inj h).symm⟩
    · cases h
  · cases h
theorem mk_set {ws : List Wd} {g g' : Nat → Nat × Value} {k : Nat} {wd : Wd} (hg : ∀ j, j ≠ k → g' j = g j) : mk (ws.set k wd) g' = fun q => if q = 8 * (k : Int) then mkN (ws.set k wd) g' k else mk ws g q := by
  funext q
  by_cases hq : q = 8 * (k : Int)
  · subst hq; rw [if_pos rfl, mk_at]
  · rw [if_neg hq]
    unfold mk
    split
    · rename_i hx
      have hne : (q / 8).toNat ≠ k := fun e => hq (by omega)
      exact mkN_ne hne (hg _ hne)
    · rfl
theorem set_self? {ws : List Wd} {k : Nat} {wd : Wd} (h : k < ws.length) : (ws.set k wd)[k]? = some wd := by simp [h]
theorem mk_push {ws : List Wd} {g : Nat → Nat × Value} {k b : Nat} {v' : Value} {wd : Wd} (h : k < ws.length) (hn : wd.news ≠ []) : mk (ws.set k wd) (upd g k (b, v')) = fun q => if q = 8 * (k : Int) then some (.pointer (some ⟨b, 0, none⟩)) else mk ws g q := by
  rw [mk_set (g := g) (fun j hj => upd_ne g _ hj), mkN_some (set_self? h) hn, upd_at]
theorem mk_keep {ws : List Wd} {g : Nat → Nat × Value} {k : Nat} {v' : Value} {wd wd' : Wd} (h : ws[k]? = some wd) (hn : wd.news ≠ []) (hn' : wd'.news ≠ []) : mk (ws.set k wd') (upd g k ((g k).1, v')) = mk ws g := by
  rw [mk_push (List.getElem?_eq_some_iff.1 h).1 hn']
  funext q
  split
  · rename_i e; subst e; rw [mk_at, mkN_some h hn]
  · rfl
theorem mk_drop {ws : List Wd} {g : Nat → Nat × Value} {k : Nat} {wd : Wd} (h : k < ws.length) (hn : wd.news = []) : mk (ws.set k wd) g = fun q => if q = 8 * (k : Int) then none else mk ws g q := by
  rw [mk_set (g := g) (fun j hj => rfl), mkN_none (set_self? h) hn]
theorem fam_unf {ws : List Wd} {g : Nat → Nat × Value} {k b : Nat} {v' : Value} {wd : Wd} (h : k < ws.length) (hn : wd.news ≠ []) : upd (upd (dI ws g) k none) k (some (dR (b, v') wd)) = dI (ws.set k wd) (upd g k (b, v')) := by
  funext j
  by_cases hj : j = k
  · subst hj; rw [upd_at, dI_some (set_self? h) hn, upd_at]
  · rw [upd_ne _ _ hj, upd_ne _ _ hj, dI_ne hj (upd_ne g _ hj)]
theorem fam_drop {ws : List Wd} {g : Nat → Nat × Value} {k : Nat} {wd : Wd} (h : k < ws.length) (hn : wd.news = []) : upd (dI ws g) k none = dI (ws.set k wd) g := by
  funext j
  by_cases hj : j = k
  · subst hj; rw [upd_at, dI_none (set_self? h) hn]
  · rw [upd_ne _ _ hj, dI_ne hj rfl]
theorem upd_same {α : Type} (g : Nat → α) (k : Nat) : upd g k (g k) = g := by
  funext j; unfold upd; split
  · rename_i e; rw [e]
  · rfl
section
variable {P : Program} {Γ : Ctx} {E : Env} {H L F : List Res} {ops : Array Oper} {Q : Exit → Act → World → Prop} {rest : List Oper} {w0 w w' : World} {S : Nat → Prop} {φ : Act → World → Prop} {ψ : Act → Prop}
  {d : Nat} {dst : Option Tmp} {gd : Option (Nat × Bool)} {ty : TypeId} {pos : String} {after : Array Edge} {x y z : Operand} {v u : Value} {ws : List Wd} {g : Nat → Nat × Value} {k i : Nat} {wd : Wd} {p : Nat} {γ : Gh} {σ σ' : Ds}
theorem fam_dbt (h : (fam (dI ws g)).holds w) (hk : ws[k]? = some wd) (hn : wd.news ≠ []) : Holds w (g k).1 tDb [(g k).2, .int .i64 (wd.mark : Int)] ∧ Win w (g k).2 tW (wd.news.map b64) := by
  have h1 := h.1 k _ (dI_some hk hn)
  exact ⟨h1.2 (blk (g k).1 tDb _) (by simp), h1.2 (winR (g k).2 tW _) (by simp)⟩
theorem Val.loadDbt {t q : Nat} (hA : ∀ w, (isAgg t).run P w = .ok false w) (hx : ev E x = some (.pointer (some ⟨(g k).1, q, none⟩))) (hi : H[i]? = some (fam (dI ws g))) (hk : ws[k]? = some wd) (hn : wd.news ≠ []) (hv : ([(g k).2, .int .i64 (wd.mark : Int)] : List Value)[q]? = some u) :
    Val P Γ E H ⟨dst, .load t x, ty, pos, after, gd⟩ u := fun a w ha hw => by
  have h := (fam_dbt (hw.all _ (List.mem_of_getElem? hi)) hk hn).1
  have := run_loadAt_cell (P := P) hA ((h.cell q).trans hv)
  simp [execOp, ha.eval hx, Sem.run_bind, this]
theorem Val.lenDbt {t el : Nat} (hi : H[i]? = some (fam (dI ws g))) (hk : ws[k]? = some wd) (hn : wd.news ≠ []) (hu : P.underlying t = some (.slice el)) (hx : ev E x = some (g k).2) :
    Val P Γ E H ⟨dst, .call { callee := .builtin .len, args := #[x], argTypes := #[t] }, ty, pos, after, gd⟩ (.int .i64 (wd.news.length : Int)) := fun a w ha hw => by
  have h := (fam_dbt (hw.all _ (List.mem_of_getElem? hi)) hk hn).2
  rcases h with ⟨h1, h2⟩ | ⟨b, o, c, cur, h1, _⟩
  · have := congrArg List.length h2; simp at this; exact absurd this hn
  · rw [h1, List.length_map] at hx
    exact Val.len (bt := #[]) hu hx a w ha hw
theorem At.dbtSome (i : Nat) (hi : H[i]? = some (fam (dI ws g))) (hk : ws[k]? = some wd) (hn : wd.news ≠ []) (c : ∀ b o c, (g k).2 = .slice (some ⟨b, o, none⟩) wd.news.length c → At Γ E H φ) : At Γ E H φ := fun a w ha hw => by
  have h := (fam_dbt (hw.all _ (List.mem_of_getElem? hi)) hk hn).2
  rcases h with ⟨h1, h2⟩ | ⟨b, o, c', cur, h1, _⟩
  · have := congrArg List.length h2; simp at this; exact absurd this hn
  · rw [List.length_map] at h1; exact c b o c' h1 a w ha hw
theorem Val.loadNews {t b o n c j q : Nat} {z' : BitVec 64} (hA : ∀ w, (isAgg t).run P w = .ok false w) (hx : ev E x = some (.pointer (some ⟨b, q, none⟩))) (hi : H[i]? = some (fam (dI ws g))) (hk : ws[k]? = some wd) (hn : wd.news ≠ []) (hg : (g k).2 = .slice (some ⟨b, o, none⟩) n c) (hq : o + j = q) (hv : wd.news[j]? = some z') :
    Val P Γ E H ⟨dst, .load t x, ty, pos, after, gd⟩ (b64 z') := fun a w ha hw => by
  subst hq
  have h := (fam_dbt (hw.all _ (List.mem_of_getElem? hi)) hk hn).2
  rw [hg] at h
  have := run_loadAt_cell (P := P) hA (h.at (u := b64 z') (by rw [List.getElem?_map, hv]; rfl))
  simp [execOp, ha.eval hx, Sem.run_bind, this]
theorem At.focusD (i : Nat) (hi : H[i]? = some (fam (dI ws g))) (hk : ws[k]? = some wd) (hn : wd.news ≠ []) (c : At Γ E (blk (g k).1 tDb [(g k).2, .int .i64 (wd.mark : Int)] :: winR (g k).2 tW (wd.news.map b64) :: fam (upd (dI ws g) k none) :: H.eraseIdx i) φ) : At Γ E H φ := fun a w ha hw =>
  c a w ha ((hw.perm (erase_perm H i _ hi)).focus (dI_some hk hn)).openS
theorem At.unfocusD {b : Nat} {v' : Value} (hk : k < ws.length) (hn : wd.news ≠ []) (c : At Γ E (fam (dI (ws.set k wd) (upd g k (b, v'))) :: H) φ) : At Γ E (blk b tDb [v', .int .i64 (wd.mark : Int)] :: winR v' tW (wd.news.map b64) :: fam (upd (dI ws g) k none) :: H) φ := fun a w ha hw => by
  have h1 : Rep Γ.w0 Γ.S (dR (b, v') wd :: fam (upd (dI ws g) k none) :: H) w := Rep.shutS (L := [blk b tDb [v', .int .i64 (wd.mark : Int)], winR v' tW (wd.news.map b64)]) hw
  have h2 := h1.unfocus (upd_at ..)
  rw [fam_unf hk hn] at h2
  exact c a w ha h2
theorem At.bornD {b : Nat} {v' : Value} {wo : Wd} (hk : ws[k]? = some wo) (ho : wo.news = []) (hn : wd.news ≠ []) (c : At Γ E (fam (dI (ws.set k wd) (upd g k (b, v'))) :: H) φ) : At Γ E (blk b tDb [v', .int .i64 (wd.mark : Int)] :: winR v' tW (wd.news.map b64) :: fam (dI ws g) :: H) φ := by
  have e : upd (dI ws g) k none = dI ws g := by
    funext j; unfold upd; split
    · rename_i e; rw [e, dI_none hk ho]
    · rfl
  have := At.unfocusD (Γ := Γ) (E := E) (H := H) (φ := φ) (g := g) (b := b) (v' := v') (wd := wd) (List.getElem?_eq_some_iff.1 hk).1 hn c
  rwa [e] at this
theorem At.dropD {r1 r2 : Res} (hk : k < ws.length) (hn : wd.news = []) (c : At Γ E (fam (dI (ws.set k wd) g) :: H) φ) : At Γ E (r1 :: r2 :: fam (upd (dI ws g) k none) :: H) φ := fun a w ha hw => by
  rw [fam_drop hk hn] at hw
  exact c a w ha (hw.drop ((List.Sublist.refl _).cons _ |>.cons _))
theorem At.rot3 {a b c f : Res} (h : At Γ E (a :: b :: c :: f :: F) φ) : At Γ E (f :: a :: b :: c :: F) φ := fun q w ha hw => h q w ha (hw.perm (List.perm_middle (l₁ := [a, b, c])).symm)
theorem set_same {α : Type} {H : List α} {i : Nat} {r : α} (hi : H[i]? = some r) : H.set i r = H := by
  apply List.ext_getElem?
  intro q
  rw [List.getElem?_set]
  split
  · rename_i e; subst e
    split
    · rw [hi]
    · rename_i hn; rw [List.getElem?_eq_none (by omega)]
  · rfl
theorem Rep.kept {r : Res} (hi : H[i]? = some r) (h : Rep w0 S H w) (h' : Rep w (feet [r]) [r] w') : Rep w0 S H w' := by
  have := Rep.frame1 (X := []) hi h h'
  rwa [set_same hi] at this
theorem At.callK (i : Nat) {r : Res} {f : FuncId} {l : List Operand} {vs : List Value} {at_ : Array TypeId} (hi : H[i]? = some r) (h : ∀ w, Rep Γ.w0 Γ.S H w → r.holds w → Upd P f vs r v r w) (hc : ∀ args w, (callFunc f args).run P w = .ok (.enter f args) w) (hv : evs E l = some vs) (hn : Nat.blt d Γ.n = true)
    (c : At Γ ((d, v) :: E) H (wpList P ops Q rest)) :
    At Γ E H (wpList P ops Q ({ dst := some d, op := .call { callee := .value (.func f), args := l.toArray, argTypes := at_ }, type := ty, pos, after, guard := none } :: rest)) :=
  At.call hc hv hn fun w hw => (h w hw (hw.all _ (List.mem_of_getElem? hi))).mono fun e w' ⟨he, hr⟩ => ⟨v, _, he, hw.kept hi hr, c⟩
theorem QAt.callK (i : Nat) {r : Res} {f : FuncId} {l : List Operand} {vs : List Value} {at_ : Array TypeId} (hi : H[i]? = some r) (h : ∀ w, Rep Γ.w0 Γ.S H w → r.holds w → Upd P f vs r v r w) (hc : ∀ args w, (callFunc f args).run P w = .ok (.enter f args) w) (hv : evs E l = some vs) (hn : Nat.blt d Γ.n = true)
    (c : QAt P Γ ops ((d, v) :: E) H rest ψ) : QAt P Γ ops E H ({ dst := some d, op := .call { callee := .value (.func f), args := l.toArray, argTypes := at_ }, type := ty, pos, after, guard := none } :: rest) ψ := fun a ha => by
  unfold wpQuiet
  rw [if_pos (by simp [Region.wanted])]
  refine ⟨v, fun w hw => ?_, c _ (ha.put d v hn)⟩
  unfold Oper.quietAt
  rw [run_call ha hc hv w]
  exact ⟨rfl, (h w hw (hw.all _ (List.mem_of_getElem? hi))).mono fun e w' ⟨he, hm⟩ => ⟨he, hw.kept hi hm⟩⟩
def DevU (P : Program) (f : FuncId) (vs : List Value) (p : Nat) (γ : Gh) (σ : Ds) (v : Value) (σ' : Ds) (w : World) : Prop := Calls P f vs.toArray w fun e w' => ∃ γ', e = .returned v ∧ Rep w (feet [Dev p γ σ]) [Dev p γ' σ'] w'
theorem At.callD (i : Nat) {f : FuncId} {l : List Operand} {vs : List Value} {at_ : Array TypeId} (hi : H[i]? = some (Dev p γ σ)) (h : ∀ w, Rep Γ.w0 Γ.S H w → (Dev p γ σ).holds w → DevU P f vs p γ σ v σ' w) (hc : ∀ args w, (callFunc f args).run P w = .ok (.enter f args) w) (hv : evs E l = some vs) (hn : Nat.blt d Γ.n = true)
    (c : ∀ γ', At Γ ((d, v) :: E) (H.set i (Dev p γ' σ')) (wpList P ops Q rest)) :
    At Γ E H (wpList P ops Q ({ dst := some d, op := .call { callee := .value (.func f), args := l.toArray, argTypes := at_ }, type := ty, pos, after, guard := none } :: rest)) :=
  At.call hc hv hn fun w hw => (h w hw (hw.all _ (List.mem_of_getElem? hi))).mono fun e w' ⟨γ', he, hr⟩ => ⟨v, _, he, Rep.frame1 (X := []) hi hw hr, c γ'⟩
def NewDev (P : Program) (f : FuncId) (vs : List Value) (σ : Ds) (w : World) : Prop := Calls P f vs.toArray w fun e w' => ∃ p γ, e = .returned (.tuple #[.pointer (some ⟨p, 0, none⟩), .int .i64 0]) ∧ Rep w (feet []) [Dev p γ σ] w'
theorem At.callND {f : FuncId} {l : List Operand} {vs : List Value} {at_ : Array TypeId} (h : ∀ w, Rep Γ.w0 Γ.S H w → NewDev P f vs σ w) (hc : ∀ args w, (callFunc f args).run P w = .ok (.enter f args) w) (hv : evs E l = some vs) (hn : Nat.blt d Γ.n = true)
    (c : ∀ p γ, At Γ ((d, .tuple #[.pointer (some ⟨p, 0, none⟩), .int .i64 0]) :: E) (Dev p γ σ :: H) (wpList P ops Q rest)) :
    At Γ E H (wpList P ops Q ({ dst := some d, op := .call { callee := .value (.func f), args := l.toArray, argTypes := at_ }, type := ty, pos, after, guard := none } :: rest)) :=
  At.call hc hv hn fun w hw => (h w hw).mono fun e w' ⟨p, γ, he, hr⟩ => ⟨_, _, he, by
    have := Rep.frame (H0 := []) (F := H) (by simpa using hw) hr
    simpa using this, c p γ⟩
theorem enterV {f : FuncId} {fn : Func} {c : Code} {vs : List Value} {w : World} {R : Ending → World → Prop} {n : Nat} (hd : (Dev p γ σ).holds w) (hf : P.funcs[f]? = some fn) (hb : fn.body = some c) (hn : fn.ntmps = n) (hl : Nat.ble vs.length n = true)
    (k : At ⟨w, feet [Dev p γ σ], n, []⟩ (envOf 0 vs) (devL p γ σ) (c.wp P (bodyPost P fn R))) : Calls P f vs.toArray w R := enter (feet [Dev p γ σ]) (devL p γ σ) hf hb hn hl (Rep.of_star (r := Dev p γ σ) hd) k
theorem enterVc {f : FuncId} {fn : Func} {c : Code} {vs : List Value} {w : World} {R : Ending → World → Prop} {n : Nat} (hd : (Dev p γ σ).holds w) (hf : P.funcs[f]? = some fn) (hb : fn.body = some c) (hn : fn.ntmps = n) (hl : Nat.ble vs.length n = true)
    (k : At ⟨w, feet [Dev p γ σ], n, []⟩ (envOf 0 vs) [Dev p γ σ] (c.wp P (bodyPost P fn R))) : Calls P f vs.toArray w R := enter (feet [Dev p γ σ]) [Dev p γ σ] hf hb hn hl (Rep.one hd) k
theorem retK {F : List Res} (hw : Rep w S (devL p γ σ ++ F) w') : Rep w S [Dev p γ σ] w' := (hw.shutS).drop ((List.nil_sublist F).cons_cons _)
theorem toDev {F : List Res} {a b c e : Res} (hg : Dgood σ) (hw : Rep w S (a :: b :: c :: e :: F) w') (ha : a = blk p tDv [γ.vo, .map (some γ.mb), .int .i64 (σ.steps : Int), .bool σ.armed, .int .i64 (σ.left : Int)]) (hb : b = wrow tW γ.vo (olds σ.ws)) (hc : c = mapR γ.mb (mk σ.ws γ.g)) (he : e = fam (dI σ.ws γ.g)) : Rep w S (Dev p γ σ :: F) w' := by
  subst ha hb hc he
  have h1 : Rep w S (factR (Dgood σ) :: _) w' := Rep.fact hg hw
  have h2 : Rep w S (devL p γ σ ++ F) w' := h1.perm (List.perm_middle (l₁ := [_, _, _, _]) (a := factR (Dgood σ)) (l₂ := F)).symm
  exact h2.shutS
end
end Go.Wk
namespace Go.Wk
open Go
def lineL (b : List UInt8) : List UInt8 := closeL (b ++ zs (64 - b.length))
theorem lineL_length {b : List UInt8} (h : b.length ≤ 60) : (lineL b).length = 64 := closeL_length (by simp [zs]; omega)
theorem zs_append (m n : Nat) : zs m ++ zs n = zs (m + n) := by simp [zs]
theorem zs_succ (n : Nat) : zs n ++ [0] = zs (n + 1) := zs_append n 1
theorem lineL_take {b : List UInt8} (h : b.length ≤ 60) : (b ++ zs (64 - b.length)).take 60 = b ++ zs (60 - b.length) := by
  rw [show 64 - b.length = (60 - b.length) + 4 by omega, ← zs_append, ← List.append_assoc, List.take_append_of_le_length (by simp [zs]; omega), List.take_of_length_le (by simp [zs]; omega)]
theorem lineL_row {b : List UInt8} (h : b.length ≤ 60) : lineL b = (b ++ zs (60 - b.length)) ++ le 4 (sumOn 0 (b ++ zs (60 - b.length))).toNat := by
  unfold lineL closeL; rw [lineL_take h]
def superB (p i c : Nat) : List UInt8 := [70, 85, 82, 82, 79, 87, 48, 49] ++ le 4 p ++ le 4 i ++ le 4 c
theorem superB_length (p i c : Nat) : (superB p i c).length = 20 := by simp [superB, le_length]
def zline : Value := .agg ((zs 64).map bv).toArray
def lineV (b : List UInt8) : Value := .agg ((lineL b).map bv).toArray
theorem toU64 {n : Int} (h0 : 0 ≤ n) (h1 : n < 18446744073709551616) : IntKind.u64.wrap n = ((n.toNat : Nat) : Int) := by rw [wrap_u64 h0 h1]; omega
end Go.Wk
namespace Go.Wk
open Go
def num (l : List UInt8) (at_ n : Nat) : Nat := fromLe ((l.drop at_).take n)
theorem fromLe_append : ∀ (a b : List UInt8), fromLe (a ++ b) = fromLe a + 256 ^ a.length * fromLe b
  | [], b => by simp [fromLe]
  | c :: a, b => by
    simp only [List.cons_append, fromLe, fromLe_append a b, List.length_cons, Nat.pow_succ]
    rw [Nat.mul_add, Nat.add_assoc, ← Nat.mul_assoc, Nat.mul_comm 256 (256 ^ a.length)]
theorem num_zero (l : List UInt8) (at_ : Nat) : num l at_ 0 = 0 := by simp [num, fromLe]
theorem num_succ {l : List UInt8} {at_ k : Nat} {c : UInt8} (h : l[at_ + k]? = some c) : num l at_ (k + 1) = num l at_ k + 256 ^ k * c.toNat := by
  have hk : at_ + k < l.length := (List.getElem?_eq_some_iff.1 h).1
  have h1 : (l.drop at_)[k]? = some c := by rw [List.getElem?_drop]; exact h
  unfold num
  rw [List.take_add_one, h1]
  simp only [Option.toList_some]
  rw [fromLe_append]
  simp only [List.length_take, List.length_drop, fromLe]
  rw [show min k (l.length - at_) = k by omega]
  simp
theorem num_lt {l : List UInt8} (at_ n : Nat) : num l at_ n < 256 ^ n := by
  have h := fromLe_lt ((l.drop at_).take n)
  exact Nat.lt_of_lt_of_le h (Nat.pow_le_pow_right (by decide) (by simp; omega))
theorem num_or {l : List UInt8} {at_ k : Nat} {c : UInt8} (h : l[at_ + k]? = some c) (hk : k < 8) :
    ib .or .u64 ((num l at_ k : Nat) : Int) (IntKind.u64.wrap ((c.toNat : Int) * 2 ^ min (8 * (k : Int)).toNat IntKind.u64.bits)) = ((num l at_ (k + 1) : Nat) : Int) := by
  have e8 : (8 * (k : Int)).toNat = 8 * k := by omega
  have h1 : num l at_ k < 256 ^ k := num_lt at_ k
  have hp : 256 ^ k = 2 ^ (8 * k) := by rw [Nat.pow_mul]
  have hle : 256 ^ (k + 1) ≤ 18446744073709551616 := by
    rw [show (18446744073709551616 : Nat) = 256 ^ 8 from rfl]; exact Nat.pow_le_pow_right (by decide) (by omega)
  have h2 : num l at_ (k + 1) < 256 ^ (k + 1) := num_lt at_ (k + 1)
  have h3 := num_succ h
  have hx : (BitVec.ofNat 64 (num l at_ k)).toNat = num l at_ k := by rw [BitVec.toNat_ofNat]; omega
  have hy : (BitVec.ofNat 64 (256 ^ k * c.toNat)).toNat = 256 ^ k * c.toNat := by rw [BitVec.toNat_ofNat]; omega
  have e : IntKind.u64.wrap ((c.toNat : Int) * 2 ^ min (8 * (k : Int)).toNat IntKind.u64.bits) = ((256 ^ k * c.toNat : Nat) : Int) := by
    rw [e8, show min (8 * k) IntKind.u64.bits = 8 * k from Nat.min_eq_left (by show 8 * k ≤ 64; omega)]
    rw [show (c.toNat : Int) * 2 ^ (8 * k) = ((256 ^ k * c.toNat : Nat) : Int) from by rw [hp]; push_cast; rw [Int.mul_comm]]
    exact wrap_u64 (by omega) (by omega)
  rw [e, ← hx, ← hy, or64, BitVec.toNat_or, hx, hy, h3]
  congr 1
  rw [hp, Nat.or_comm, ← Nat.two_pow_add_eq_or_of_lt (by rw [← hp]; exact h1), Nat.add_comm]
abbrev eyeC (L o m c at_ : Nat) : List Value := [.slice (some ⟨L, o, none⟩) m c, .int .i64 (at_ : Nat)]
def allZero (l : List UInt8) : Prop := ∀ c ∈ l, c = 0
instance (l : List UInt8) : Decidable (allZero l) := by unfold allZero; infer_instance
end Go.Wk
namespace Go.Wk
open Go
theorem num_cons {l : List UInt8} {a m : Nat} {c : UInt8} (h : l[a]? = some c) : num l a (m + 1) = num l (a + 1) m * 256 + c.toNat := by
  have hk : a < l.length := (List.getElem?_eq_some_iff.1 h).1
  have e := List.getElem?_eq_getElem hk
  rw [h] at e
  obtain rfl := Option.some.inj e
  unfold num
  rw [List.drop_eq_getElem_cons hk, List.take_succ_cons, fromLe]
  omega
theorem le_num {l : List UInt8} {a n : Nat} (h : a + n ≤ l.length) : le n (num l a n) = (l.drop a).take n := by
  have := le_fromLe ((l.drop a).take n)
  rw [show ((l.drop a).take n).length = n by simp; omega] at this
  exact this
def SupLine (l : List UInt8) : Prop := lineL (superB (num l 8 4) (num l 12 4) (num l 16 4)) = l
instance (l : List UInt8) : Decidable (SupLine l) := by unfold SupLine; infer_instance
end Go.Wk
namespace Go.Wk
open Go
theorem seal_nat {a : BitVec 64} {v : BitVec 32} (h : v ≠ 0) : (sealW a v).toNat = (checkW a v).toNat * 4294967296 + v.toNat := by
  rw [seal_some h, BitVec.toNat_or, BitVec.toNat_shiftLeft, BitVec.toNat_setWidth, BitVec.toNat_setWidth]
  have h1 := (checkW a v).isLt
  have h2 := v.isLt
  rw [Nat.mod_eq_of_lt (a := (checkW a v).toNat) (by omega), Nat.mod_eq_of_lt (a := v.toNat) (by omega), Nat.shiftLeft_eq, Nat.mod_eq_of_lt (by omega), Nat.mul_comm]
  rw [show 2 ^ 32 * (checkW a v).toNat ||| v.toNat = 2 ^ 32 * (checkW a v).toNat + v.toNat from (Nat.two_pow_add_eq_or_of_lt (by omega) _).symm]
theorem i64_32 (v : BitVec 32) : IntKind.i64.wrap (v.toNat : Int) = (v.toNat : Int) := wrap_i64 (by omega) (by have := v.isLt; omega)
end Go.Wk
namespace Go.Wk
open Go
def one (b : Bool) : BitVec 32 := if b then 1 else 0
end Go.Wk
namespace Go.Wk
open Go
end Go.Wk
namespace Go.Wk
open Go
theorem seal_low (a : BitVec 64) (v : BitVec 32) : (sealW a v).setWidth 32 = v := by
  by_cases h : v = 0
  · rw [seal_zero h, h]; rfl
  · apply BitVec.eq_of_toNat_eq
    rw [BitVec.toNat_setWidth, seal_nat h]
    have := v.isLt
    omega
end Go.Wk
namespace Go.Wk
open Go
end Go.Wk
namespace Go.Wk
open Go
def wdA (l : List UInt8) (a : Nat) : BitVec 64 := BitVec.ofNat 64 (num l a 8)
theorem num_lt64 (l : List UInt8) (a : Nat) : num l a 8 < 18446744073709551616 := num_lt a 8
theorem wdA_nat (l : List UInt8) (a : Nat) : (wdA l a).toNat = num l a 8 := by
  unfold wdA; rw [BitVec.toNat_ofNat, Nat.mod_eq_of_lt (num_lt64 l a)]
theorem wdA_val (l : List UInt8) (a : Nat) : Value.int .u64 ((num l a 8 : Nat) : Int) = b64 (wdA l a) := by unfold b64; rw [wdA_nat]
theorem or_low {V c : Nat} (hV : V < 72057594037927936) (hc : c < 256) : ib .or .u64 (IntKind.u64.wrap ((V : Int) * 2 ^ min (8 : Int).toNat IntKind.u64.bits)) (c : Int) = ((V * 256 + c : Nat) : Int) := by
  have e1 : IntKind.u64.wrap ((V : Int) * 2 ^ min (8 : Int).toNat IntKind.u64.bits) = ((V * 256 : Nat) : Int) := by
    rw [show ((V : Int) * 2 ^ min (8 : Int).toNat IntKind.u64.bits) = ((V * 256 : Nat) : Int) by rw [show min (8 : Int).toNat IntKind.u64.bits = 8 from rfl]; omega]
    exact wrap_u64 (by omega) (by omega)
  rw [e1]
  show IntKind.u64.wrap ((BitVec.ofInt 64 ((V * 256 : Nat) : Int) ||| BitVec.ofInt 64 (c : Int)).toNat : Int) = _
  have t : ∀ n : Nat, n < 18446744073709551616 → (BitVec.ofInt 64 (n : Int)).toNat = n := fun n hn => by
    rw [BitVec.toNat_ofInt, show ((n : Int) % ((2 ^ 64 : Nat) : Int)) = n from Int.emod_eq_of_lt (by omega) (by omega)]; omega
  rw [BitVec.toNat_or, t _ (by omega), t _ (by omega)]
  have : V * 256 ||| c = V * 256 + c := by
    have := Nat.two_pow_add_eq_or_of_lt (i := 8) (show c < 2 ^ 8 by omega) V
    rw [show 2 ^ 8 * V = V * 256 from by omega] at this
    exact this.symm
  rw [this]
  exact wrap_u64 (by omega) (by omega)
theorem shr_byte (x : BitVec 64) {i : Nat} (h : i < 8) : (x.toNat : Int).fdiv (2 ^ min (8 * (i : Int)).toNat IntKind.u64.bits) = ((x.toNat / 256 ^ i : Nat) : Int) := by
  have e : min (8 * (i : Int)).toNat IntKind.u64.bits = 8 * i := by rw [show IntKind.u64.bits = 64 from rfl]; omega
  rw [e, show (256 : Nat) ^ i = 2 ^ (8 * i) from by rw [Nat.pow_mul]]
  rw [Int.fdiv_eq_ediv_of_nonneg _ (Int.pow_nonneg (by decide))]
  norm_cast
abbrev le8 (x : BitVec 64) : List UInt8 := le 8 x.toNat
theorem num_le8 (x : BitVec 64) : BitVec.ofNat 64 (fromLe (le8 x)) = x := by
  apply BitVec.eq_of_toNat_eq
  have h := le_fromLe (le8 x)
  rw [le_length] at h
  rw [BitVec.toNat_ofNat]
  have key : ∀ (n a b : Nat), a < 256 ^ n → b < 256 ^ n → le n a = le n b → a = b := by
    intro n
    induction n with
    | zero => intro a b ha hb _; simp at ha hb; omega
    | succ n ih =>
      intro a b ha hb he
      simp only [le, List.cons.injEq] at he
      have h1 : a % 256 = b % 256 := by
        have := congrArg UInt8.toNat he.1
        simpa using this
      have h2 := ih (a / 256) (b / 256) (by rw [Nat.pow_succ] at ha; omega) (by rw [Nat.pow_succ] at hb; omega) he.2
      omega
  have hlt : fromLe (le8 x) < 256 ^ 8 := by
    have := num_lt (l := le8 x) 0 8
    unfold num at this
    rwa [List.drop_zero, List.take_of_length_le (by rw [le_length]; exact Nat.le_refl _)] at this
  rw [Nat.mod_eq_of_lt (by simpa using hlt)]
  exact key 8 _ _ hlt (by have := x.isLt; omega) h
end Go.Wk
namespace Go.Proofs.YtfchinibjhcejaaDoor
open Go Go.Wk
def isSizeB (n : Int) : Bool := decide (512 ≤ n ∧ n ≤ 524288 ∧ n % 512 = 0)
def hasB (σ : Ds) (a n : Int) : Bool := decide (0 ≤ a ∧ 0 ≤ n ∧ a ≤ 8 * (σ.ws.length : Int) ∧ n ≤ 8 * (σ.ws.length : Int) - a)
def placeE (σ : Ds) (a : Int) : Int := if 0 ≤ a ∧ a < 8 * (σ.ws.length : Int) then (if a % 8 = 0 then 0 else 12) else 11
def deadB (σ : Ds) : Bool := σ.armed && decide (σ.left = 0)
def stepD (σ : Ds) : Ds := { σ with steps := σ.steps + 1, left := if σ.armed then σ.left - 1 else σ.left }
def nowW (w : Wd) : BitVec 64 := w.news.getLast?.getD w.old
def zWd : Wd := ⟨0, [], 0⟩
def wz (n : Nat) : List Wd := List.replicate n zWd
def zeroD (n : Nat) : Ds := ⟨wz n, 0, false, 0⟩
theorem dgood_step {σ : Ds} (h : Dgood σ) (hs : σ.steps + 1 ≤ 1099511627776) : Dgood (stepD σ) :=
  ⟨h.pos, h.len, h.lines, hs, by have := h.left; unfold stepD; simp only; split <;> omega, fun w hw => ⟨(h.word w hw).1, by have := (h.word w hw).2; show _ ≤ σ.steps + 1; omega⟩⟩
theorem isSize_p (n : Int) (w : World) :
    PureC Tryd.prog 58 [.int .i64 n] (.bool (isSizeB n)) w := by
 refine enter0 Tryd.func58 rfl Tryd.ntmps58 rfl ?_
 simp only [envOf]
 refine tR (tA rfl rfl (tE (tR (tM rfl rfl (At.weaken [(0, _), (2, _), (3, _)] (Sub.cons rfl (Sub.cons rfl (Sub.cons rfl Sub.nil))) ?_)))))
 refine At.boolMeet 10 13 (isSizeB n) ?_ ?_
 ·simp only [List.take_succ_cons, List.take_zero]
  refine tV (Val.bin rfl rfl rfl) rfl (tM rfl rfl ?_)
  refine At.split (t := 5) rfl (fun h1 => ?_) (fun h1 => ?_)
  ·try simp only [hasB, isSizeB, sB] at h1
   refine At.yes rfl rfl (tM rfl rfl (At.yes rfl rfl (tV (Val.bin rfl rfl rfl) rfl (tV (Val.pickT rfl rfl) rfl (tM rfl rfl ?_)))))
   refine At.split (t := 9) rfl (fun h2 => ?_) (fun h2 => ?_)
   ·try simp only [hasB, isSizeB, sB] at h2
    refine At.yes rfl rfl (tM rfl rfl (At.yes rfl rfl ?_))
    first | refine tV (Val.remI rfl rfl (by omega) (by decide)) rfl ?_ | refine tV (Val.rem rfl rfl (by decide)) rfl ?_
    refine At.yes rfl rfl (tV (Val.bin rfl rfl rfl) rfl (tV (Val.pickT rfl rfl) rfl (At.nil ?_)))
    exact At.boolEnd rfl (by unfold isSizeB; exact (by first | exact (decide_eq_true (by omega)).symm | exact (decide_eq_false (by omega)).symm | (apply Bool.eq_iff_iff.2; simp only [decide_eq_true_eq, beq_iff_eq, bne_iff_ne, ne_eq, Bool.not_eq_true', decide_eq_false_iff_not]; omega) | rfl | (simp_all; done) | (simp_all; omega))) (by repeat (first | exact Sub.nil | refine Sub.cons rfl ?_))
   ·try simp only [hasB, isSizeB, sB] at h2
    refine At.no rfl rfl rfl rfl (At.no rfl rfl rfl rfl (At.no rfl rfl rfl rfl (tV (Val.pickF rfl rfl) rfl (At.nil ?_))))
    exact At.boolEnd rfl (by unfold isSizeB; exact (by first | exact (decide_eq_true (by omega)).symm | exact (decide_eq_false (by omega)).symm | (apply Bool.eq_iff_iff.2; simp only [decide_eq_true_eq, beq_iff_eq, bne_iff_ne, ne_eq, Bool.not_eq_true', decide_eq_false_iff_not]; omega) | rfl | (simp_all; done) | (simp_all; omega))) (by repeat (first | exact Sub.nil | refine Sub.cons rfl ?_))
  ·try simp only [hasB, isSizeB, sB] at h1
   refine At.no rfl rfl rfl rfl (At.no rfl rfl rfl rfl (tV (Val.pickF rfl rfl) rfl (tM rfl rfl (At.no rfl rfl rfl rfl (At.no rfl rfl rfl rfl (At.no rfl rfl rfl rfl (tV (Val.pickF rfl rfl) rfl (At.nil ?_))))))))
   exact At.boolEnd rfl (by unfold isSizeB; exact (by first | exact (decide_eq_true (by omega)).symm | exact (decide_eq_false (by omega)).symm | (apply Bool.eq_iff_iff.2; simp only [decide_eq_true_eq, beq_iff_eq, bne_iff_ne, ne_eq, Bool.not_eq_true', decide_eq_false_iff_not]; omega) | rfl | (simp_all; done) | (simp_all; omega))) (by repeat (first | exact Sub.nil | refine Sub.cons rfl ?_))
 ·simp only [List.drop_succ_cons, List.drop_zero]
  refine tA rfl rfl (tE (At.retC (At.ret1 (.inl rfl) rfl rfl rfl (fun w hw => ?_))))
  exact ⟨rfl, hw.mod⟩
theorem size_k (p : Nat) (γ : Gh) (σ : Ds) (w : World) (hd : (Dev p γ σ).holds w) :
    Upd Tryd.prog 33 [.pointer (some ⟨p, 0, none⟩)] (Dev p γ σ) (.int .i64 (8 * (σ.ws.length : Int))) (Dev p γ σ) w := by
 refine enterV hd Tryd.func33 rfl Tryd.ntmps33 rfl ?_
 unfold devL
 have hgd := Dev.good hd
 have hln := hgd.len
 have hol := olds_length σ.ws
 simp only [envOf]
 refine tR (tA rfl rfl (tE (tR (tM rfl rfl (tV (Val.nilCheck rfl) rfl (tV (Val.field 0 rfl fo_74_0 rfl) rfl (tV (Val.load (i := 0) Tryd.isAgg60 rfl rfl rfl) rfl (tV (Val.lenRow (i := 1) Tryd.underlying60 rfl rfl) rfl ?_))))))))
 first | refine tV (Val.mulI rfl rfl (by omega) (by omega)) rfl ?_ | refine tV (Val.bin rfl rfl rfl) rfl ?_
 refine tA rfl rfl (tE (At.retC (At.ret1 (.inl rfl) rfl rfl rfl (fun w hw => ?_))))
 exact ⟨congrArg (fun z => Ending.returned (Value.int .i64 z)) (by omega), retK (F := []) hw⟩
theorem has_k (p : Nat) (γ : Gh) (σ : Ds) (a n : Int) (w : World) (hd : (Dev p γ σ).holds w) :
    Upd Tryd.prog 49 [.pointer (some ⟨p, 0, none⟩), .int .i64 a, .int .i64 n] (Dev p γ σ) (.bool (hasB σ a n)) (Dev p γ σ) w := by
 refine enterVc hd Tryd.func49 rfl Tryd.ntmps49 rfl ?_
 have hgd := Dev.good hd
 have hln := hgd.len
 simp only [envOf]
 refine tR (tA rfl rfl (tE (tR (tM rfl rfl (At.weaken [(0, _), (1, _), (2, _), (6, _), (7, _)] (Sub.cons rfl (Sub.cons rfl (Sub.cons rfl (Sub.cons rfl (Sub.cons rfl Sub.nil))))) ?_)))))
 refine At.boolMeet 19 26 (hasB σ a n) ?_ ?_
 ·simp only [List.take_succ_cons, List.take_zero]
  refine tV (Val.bin rfl rfl rfl) rfl (tM rfl rfl ?_)
  refine At.split (t := 9) rfl (fun h1 => ?_) (fun h1 => ?_)
  ·try simp only [hasB, isSizeB, sB] at h1
   refine At.yes rfl rfl (tM rfl rfl (At.yes rfl rfl (tV (Val.bin rfl rfl rfl) rfl (tV (Val.pickT rfl rfl) rfl (tM rfl rfl ?_)))))
   refine At.split (t := 13) rfl (fun h2 => ?_) (fun h2 => ?_)
   ·try simp only [hasB, isSizeB, sB] at h2
    refine At.yes rfl rfl (tM rfl rfl (At.yes rfl rfl (tM rfl rfl (At.yes rfl rfl (At.callK 0 rfl (fun w hw hr => size_k _ _ _ w hr) Tryd.call33 rfl rfl (At.yes rfl rfl (tV (Val.bin rfl rfl rfl) rfl (tV (Val.pickT rfl rfl) rfl (tM rfl rfl ?_)))))))))
    refine At.split (t := 19) rfl (fun h3 => ?_) (fun h3 => ?_)
    ·try simp only [hasB, isSizeB, sB] at h3
     refine At.yes rfl rfl (tM rfl rfl (At.yes rfl rfl (tM rfl rfl (At.yes rfl rfl (At.callK 0 rfl (fun w hw hr => size_k _ _ _ w hr) Tryd.call33 rfl rfl (At.yes rfl rfl (tM rfl rfl (At.yes rfl rfl ?_))))))))
     first | refine tV (Val.subI rfl rfl (by omega) (by omega)) rfl ?_ | refine tV (Val.bin rfl rfl rfl) rfl ?_
     refine At.yes rfl rfl (tV (Val.bin rfl rfl rfl) rfl (tV (Val.pickT rfl rfl) rfl (At.nil ?_)))
     exact At.boolEnd rfl (by unfold hasB; exact (by first | exact (decide_eq_true (by omega)).symm | exact (decide_eq_false (by omega)).symm | (apply Bool.eq_iff_iff.2; simp only [decide_eq_true_eq, beq_iff_eq, bne_iff_ne, ne_eq, Bool.not_eq_true', decide_eq_false_iff_not]; omega) | rfl | (simp_all; done) | (simp_all; omega))) (by repeat (first | exact Sub.nil | refine Sub.cons rfl ?_))
    ·try simp only [hasB, isSizeB, sB] at h3
     refine At.no rfl rfl rfl rfl (At.no rfl rfl rfl rfl (At.no rfl rfl rfl rfl (At.no rfl rfl rfl rfl (At.no rfl rfl rfl rfl (At.no rfl rfl rfl rfl (tV (Val.pickF rfl rfl) rfl (At.nil ?_)))))))
     exact At.boolEnd rfl (by unfold hasB; exact (by first | exact (decide_eq_true (by omega)).symm | exact (decide_eq_false (by omega)).symm | (apply Bool.eq_iff_iff.2; simp only [decide_eq_true_eq, beq_iff_eq, bne_iff_ne, ne_eq, Bool.not_eq_true', decide_eq_false_iff_not]; omega) | rfl | (simp_all; done) | (simp_all; omega))) (by repeat (first | exact Sub.nil | refine Sub.cons rfl ?_))
   ·try simp only [hasB, isSizeB, sB] at h2
    refine At.no rfl rfl rfl rfl (At.no rfl rfl rfl rfl (At.no rfl rfl rfl rfl (At.no rfl rfl rfl rfl (tV (Val.pickF rfl rfl) rfl (tM rfl rfl (At.no rfl rfl rfl rfl (At.no rfl rfl rfl rfl (At.no rfl rfl rfl rfl (At.no rfl rfl rfl rfl (At.no rfl rfl rfl rfl (At.no rfl rfl rfl rfl (tV (Val.pickF rfl rfl) rfl (At.nil ?_)))))))))))))
    exact At.boolEnd rfl (by unfold hasB; exact (by first | exact (decide_eq_true (by omega)).symm | exact (decide_eq_false (by omega)).symm | (apply Bool.eq_iff_iff.2; simp only [decide_eq_true_eq, beq_iff_eq, bne_iff_ne, ne_eq, Bool.not_eq_true', decide_eq_false_iff_not]; omega) | rfl | (simp_all; done) | (simp_all; omega))) (by repeat (first | exact Sub.nil | refine Sub.cons rfl ?_))
  ·try simp only [hasB, isSizeB, sB] at h1
   refine At.no rfl rfl rfl rfl (At.no rfl rfl rfl rfl (tV (Val.pickF rfl rfl) rfl (tM rfl rfl (At.no rfl rfl rfl rfl (At.no rfl rfl rfl rfl (At.no rfl rfl rfl rfl (At.no rfl rfl rfl rfl (tV (Val.pickF rfl rfl) rfl (tM rfl rfl (At.no rfl rfl rfl rfl (At.no rfl rfl rfl rfl (At.no rfl rfl rfl rfl (At.no rfl rfl rfl rfl (At.no rfl rfl rfl rfl (At.no rfl rfl rfl rfl (tV (Val.pickF rfl rfl) rfl (At.nil ?_)))))))))))))))))
   exact At.boolEnd rfl (by unfold hasB; exact (by first | exact (decide_eq_true (by omega)).symm | exact (decide_eq_false (by omega)).symm | (apply Bool.eq_iff_iff.2; simp only [decide_eq_true_eq, beq_iff_eq, bne_iff_ne, ne_eq, Bool.not_eq_true', decide_eq_false_iff_not]; omega) | rfl | (simp_all; done) | (simp_all; omega))) (by repeat (first | exact Sub.nil | refine Sub.cons rfl ?_))
 ·simp only [List.drop_succ_cons, List.drop_zero]
  refine tA rfl rfl (tE (At.retC (At.ret1 (.inl rfl) rfl rfl rfl (fun w hw => ?_))))
  exact ⟨rfl, hw⟩
theorem dead_k (p : Nat) (γ : Gh) (σ : Ds) (w : World) (hd : (Dev p γ σ).holds w) :
    Upd Tryd.prog 31 [.pointer (some ⟨p, 0, none⟩)] (Dev p γ σ) (.bool (deadB σ)) (Dev p γ σ) w := by
 refine enterV hd Tryd.func31 rfl Tryd.ntmps31 rfl ?_
 unfold devL
 have hgd := Dev.good hd
 simp only [envOf]
 refine tR (tA rfl rfl (tE (tR (tM rfl rfl (tV (Val.nilCheck rfl) rfl (tV (Val.field 3 rfl fo_74_3 rfl) rfl (tV (Val.load (i := 0) Tryd.isAgg4 rfl rfl rfl) rfl (At.weaken [(0, _), (2, _), (6, _)] (Sub.cons rfl (Sub.cons rfl (Sub.cons rfl Sub.nil))) ?_))))))))
 refine At.boolMeet 7 13 (deadB σ) ?_ ?_
 ·simp only [List.take_succ_cons, List.take_zero]
  refine tM rfl rfl ?_
  refine At.split (t := 7) rfl (fun h1 => ?_) (fun h1 => ?_)
  ·try simp only [hasB, isSizeB, sB] at h1
   refine At.yes rfl rfl (tM rfl rfl (At.yes rfl rfl (tV (Val.nilCheck rfl) rfl (At.yes rfl rfl (tV (Val.field 4 rfl fo_74_4 rfl) rfl (At.yes rfl rfl (tV (Val.load (i := 0) Tryd.isAgg3 rfl rfl rfl) rfl (At.yes rfl rfl (tV (Val.bin rfl rfl rfl) rfl (tV (Val.pickT rfl rfl) rfl (At.nil ?_)))))))))))
   exact At.boolEnd rfl (by unfold deadB; first | (rw [show σ.armed = true from by assumption]; simp only [Bool.true_and]; apply Bool.eq_iff_iff.2; simp only [beq_iff_eq, decide_eq_true_eq]; omega) | (rw [show σ.armed = false from by assumption]; rfl)) (by repeat (first | exact Sub.nil | refine Sub.cons rfl ?_))
  ·try simp only [hasB, isSizeB, sB] at h1
   refine At.no rfl rfl rfl rfl (At.no rfl rfl rfl rfl (At.no rfl rfl rfl rfl (At.no rfl rfl rfl rfl (At.no rfl rfl rfl rfl (tV (Val.pickF rfl rfl) rfl (At.nil ?_))))))
   exact At.boolEnd rfl (by unfold deadB; first | (rw [show σ.armed = true from by assumption]; simp only [Bool.true_and]; apply Bool.eq_iff_iff.2; simp only [beq_iff_eq, decide_eq_true_eq]; omega) | (rw [show σ.armed = false from by assumption]; rfl)) (by repeat (first | exact Sub.nil | refine Sub.cons rfl ?_))
 ·simp only [List.drop_succ_cons, List.drop_zero]
  refine tA rfl rfl (tE (At.retC (At.ret1 (.inl rfl) rfl rfl rfl (fun w hw => ?_))))
  exact ⟨rfl, retK (F := []) hw⟩
theorem steps_k (p : Nat) (γ : Gh) (σ : Ds) (w : World) (hd : (Dev p γ σ).holds w) :
    Upd Tryd.prog 10 [.pointer (some ⟨p, 0, none⟩)] (Dev p γ σ) (.int .i64 (σ.steps : Int)) (Dev p γ σ) w := by
 refine enterV hd Tryd.func10 rfl Tryd.ntmps10 rfl ?_
 unfold devL
 have hgd := Dev.good hd
 simp only [envOf]
 refine tR (tA rfl rfl (tE (tR (tM rfl rfl (tV (Val.nilCheck rfl) rfl (tV (Val.field 2 rfl fo_74_2 rfl) rfl (tV (Val.load (i := 0) Tryd.isAgg3 rfl rfl rfl) rfl (tA rfl rfl (tE (At.retC (At.ret1 (.inl rfl) rfl rfl rfl (fun w hw => ?_))))))))))))
 exact ⟨rfl, retK (F := []) hw⟩
theorem place_k (p : Nat) (γ : Gh) (σ : Ds) (a : Int) (w : World) (hd : (Dev p γ σ).holds w) :
    Upd Tryd.prog 23 [.pointer (some ⟨p, 0, none⟩), .int .i64 a] (Dev p γ σ) (.int .i64 (placeE σ a)) (Dev p γ σ) w := by
 refine enterVc hd Tryd.func23 rfl Tryd.ntmps23 rfl ?_
 have hgd := Dev.good hd
 have hln := hgd.len
 simp only [envOf]
 refine tR (tA rfl rfl (tE (At.seq (tR (tM rfl rfl (tM rfl rfl (At.callK 0 rfl (fun w hw hr => has_k _ _ _ _ _ w hr) Tryd.call49 rfl rfl (tV (Val.not rfl) rfl (tE ?_)))))))))
 refine At.cond rfl (fun h1 => ?_) (fun h1 => ?_)
 ·try simp only [hasB, isSizeB, sB] at h1
  refine tR (tA rfl rfl (tE (At.retC (At.thenR (At.ret1 (.inl rfl) rfl rfl rfl (fun w hw => ?_))))))
  exact ⟨congrArg (fun z => Ending.returned (Value.int .i64 z)) (by unfold placeE; (repeat' split) <;> omega), hw⟩
 ·try simp only [hasB, isSizeB, sB] at h1
  refine At.skipC (At.thenN (At.seq (tR (tM rfl rfl ?_))))
  first | refine tV (Val.remI rfl rfl (by omega) (by decide)) rfl ?_ | refine tV (Val.rem rfl rfl (by decide)) rfl ?_
  refine tV (Val.bin rfl rfl rfl) rfl (tE ?_)
  refine At.cond rfl (fun h2 => ?_) (fun h2 => ?_)
  ·try simp only [hasB, isSizeB, sB] at h2
   refine tR (tA rfl rfl (tE (At.retC (At.thenR (At.ret1 (.inl rfl) rfl rfl rfl (fun w hw => ?_))))))
   exact ⟨congrArg (fun z => Ending.returned (Value.int .i64 z)) (by unfold placeE; (repeat' split) <;> omega), hw⟩
  ·try simp only [hasB, isSizeB, sB] at h2
   refine At.skipC (At.thenN (tR (tA rfl rfl (tE (At.retC (At.ret1 (.inl rfl) rfl rfl rfl (fun w hw => ?_)))))))
   exact ⟨congrArg (fun z => Ending.returned (Value.int .i64 z)) (by unfold placeE; (repeat' split) <;> omega), hw⟩
theorem step_d (p : Nat) (γ : Gh) (σ : Ds) (w : World) (hs : σ.steps + 1 ≤ 1099511627776) (hno : deadB σ = false) (hd : (Dev p γ σ).holds w) :
    DevU Tryd.prog 68 [.pointer (some ⟨p, 0, none⟩)] p γ σ (.int .i64 0) (stepD σ) w := by
 refine enterVc hd Tryd.func68 rfl Tryd.ntmps68 rfl ?_
 have hgd := Dev.good hd
 have hln := hgd.len
 have hlf := hgd.left
 simp only [envOf]
 refine tR (tA rfl rfl (tE (At.seq (tR (tM rfl rfl (At.callK 0 rfl (fun w hw hr => dead_k _ _ _ w hr) Tryd.call31 rfl rfl (tE ?_)))))))
 refine At.cond rfl (fun h1 => ?_) (fun h1 => ?_)
 ·try simp only [hasB, isSizeB, sB] at h1
  rw [hno] at h1; cases h1
 ·try simp only [hasB, isSizeB, sB] at h1
  refine At.skipC (At.thenN (At.seq (At.openS 0 rfl ?_)))
  simp only [devL, List.cons_append, List.nil_append, ec0, ecS]
  refine At.region (tM rfl rfl (tV (Val.nilCheck rfl) rfl (tV (Val.field 2 rfl fo_74_2 rfl) rfl (tV (Val.load (i := 0) Tryd.isAgg3 rfl rfl rfl) rfl ?_))))
  first | refine tV (Val.addI rfl rfl (by omega) (by omega)) rfl ?_ | refine tV (Val.bin rfl rfl rfl) rfl ?_
  refine tV (Val.nilCheck rfl) rfl (tV (Val.field 2 rfl fo_74_2 rfl) rfl (At.store (i := 0) Tryd.sizeOf3 rfl rfl rfl rfl (by first | decide | simp) ?_))
  simp only [sc0, scS]
  refine tE (At.seq (tR (tM rfl rfl (tV (Val.nilCheck rfl) rfl (tV (Val.field 3 rfl fo_74_3 rfl) rfl (tV (Val.load (i := 0) Tryd.isAgg4 rfl rfl rfl) rfl (tE ?_)))))))
  refine At.cond rfl (fun h2 => ?_) (fun h2 => ?_)
  ·try simp only [hasB, isSizeB, sB] at h2
   have hlp : 1 ≤ σ.left := by rcases Nat.eq_zero_or_pos σ.left with h0 | h0; exact absurd hno (by unfold deadB; simp [h0, h2]); exact h0
   refine At.region (tM rfl rfl (tV (Val.nilCheck rfl) rfl (tV (Val.field 4 rfl fo_74_4 rfl) rfl (tV (Val.load (i := 0) Tryd.isAgg3 rfl rfl rfl) rfl ?_))))
   first | refine tV (Val.subI rfl rfl (by omega) (by omega)) rfl ?_ | refine tV (Val.bin rfl rfl rfl) rfl ?_
   refine tV (Val.nilCheck rfl) rfl (tV (Val.field 4 rfl fo_74_4 rfl) rfl (At.store (i := 0) Tryd.sizeOf3 rfl rfl rfl rfl (by first | decide | simp) ?_))
   simp only [sc0, scS]
   refine tE (tR (tA rfl rfl (tE (At.retC (At.ret1 (.inl rfl) rfl rfl rfl (fun w hw => ?_))))))
   exact ⟨γ, rfl, toDev (F := []) (dgood_step hgd hs) (hw.drop (show List.Sublist [_, _, _, _] _ from (List.Sublist.refl _ |>.cons _ |>.cons_cons _ |>.cons_cons _ |>.cons_cons _ |>.cons_cons _))) (by congr 1; simp [stepD, *]; try omega) rfl rfl rfl⟩
  ·try simp only [hasB, isSizeB, sB] at h2
   refine At.skipC (At.thenN (tR (tA rfl rfl (tE (At.retC (At.ret1 (.inl rfl) rfl rfl rfl (fun w hw => ?_)))))))
   exact ⟨γ, rfl, toDev (F := []) (dgood_step hgd hs) (hw.drop (show List.Sublist [_, _, _, _] _ from (List.Sublist.refl _ |>.cons _ |>.cons_cons _ |>.cons_cons _ |>.cons_cons _ |>.cons_cons _))) (by congr 1; simp [stepD, *]; try omega) rfl rfl rfl⟩
theorem step_0 (p : Nat) (γ : Gh) (σ : Ds) (w : World) (hno : deadB σ = true) (hd : (Dev p γ σ).holds w) :
    Upd Tryd.prog 68 [.pointer (some ⟨p, 0, none⟩)] (Dev p γ σ) (.int .i64 13) (Dev p γ σ) w := by
 refine enterVc hd Tryd.func68 rfl Tryd.ntmps68 rfl ?_
 have hgd := Dev.good hd
 simp only [envOf]
 refine tR (tA rfl rfl (tE (At.seq (tR (tM rfl rfl (At.callK 0 rfl (fun w hw hr => dead_k _ _ _ w hr) Tryd.call31 rfl rfl (tE ?_)))))))
 refine At.cond rfl (fun h1 => ?_) (fun h1 => ?_)
 ·try simp only [hasB, isSizeB, sB] at h1
  refine tR (tA rfl rfl (tE (At.retC (At.thenR (At.ret1 (.inl rfl) rfl rfl rfl (fun w hw => ?_))))))
  exact ⟨rfl, hw⟩
 ·try simp only [hasB, isSizeB, sB] at h1
  rw [hno] at h1; cases h1
end Go.Proofs.YtfchinibjhcejaaDoor
namespace Go.Wk
open Go
section
variable {P : Program} {Γ : Ctx} {E : Env} {H L F : List Res} {ops : Array Oper} {Q : Exit → Act → World → Prop} {rest : List Oper} {w0 w w' : World} {S : Nat → Prop} {φ : Act → World → Prop} {ψ : Act → Prop}
  {d : Nat} {dst : Option Tmp} {gd : Option (Nat × Bool)} {ty : TypeId} {pos : String} {after : Array Edge} {x y z : Operand} {v u : Value} {ws : List Wd} {g : Nat → Nat × Value}
theorem Rep.famNil {I : Nat → Option Res} (hI : ∀ k, I k = none) (h : Rep w0 S H w) : Rep w0 S (fam I :: H) w :=
  ⟨List.pairwise_cons.2 ⟨fun s _ b ⟨k, r, hk, _⟩ _ => (by rw [hI k] at hk; cases hk), h.sep⟩, fun r hr => by
    rcases List.mem_cons.1 hr with rfl | h1
    · exact ⟨fun k r hk => (by rw [hI k] at hk; cases hk), fun k k' r r' hk => (by rw [hI k] at hk; cases hk)⟩
    · exact h.all r h1, fun r hr b hb => by
    rcases List.mem_cons.1 hr with rfl | h1
    · obtain ⟨k, r, hk, _⟩ := hb; rw [hI k] at hk; cases hk
    · exact h.mine r h1 b hb, h.mod⟩
theorem dI_calm (h : ∀ w ∈ ws, w.news = []) (k : Nat) : dI ws g k = none := by
  cases hk : ws[k]? with
  | none => unfold dI; rw [hk]
  | some wd => exact dI_none hk (h wd (List.mem_of_getElem? hk))
theorem dI_calm' {ws' : List Wd} {g' : Nat → Nat × Value} (h : ∀ w ∈ ws, w.news = []) (h' : ∀ w ∈ ws', w.news = []) : dI ws g = dI ws' g' := funext fun k => by rw [dI_calm h, dI_calm h']
theorem mk_calm (h : ∀ w ∈ ws, w.news = []) : mk ws g = fun _ => none := by
  funext q
  unfold mk
  split
  · cases hk : ws[(q / 8).toNat]? with
    | none => unfold mkN; rw [hk]
    | some wd => exact mkN_none hk (h wd (List.mem_of_getElem? hk))
  · rfl
theorem made_w (n : Nat) : (madeCells #[Value.int .u64 0] (n * 1)).toList = (List.replicate n (0 : BitVec 64)).map b64 := by
  rw [Nat.mul_one]
  apply List.ext_getElem
  · simp [madeCells]
  · intro i h1 h2
    simp [madeCells, Nat.mod_one]
theorem At.makeRowW {t e n : Nat} {ti : TypeInfo} (ht : P.underlying t = some (.slice e)) (hti : P.info? e = some ti) (hz : ti.zero = some (.int .u64 0)) (hsize : ti.size = 1) (hb : ti.bytes = 8)
    (hx : ev E x = some (.int .i64 (n : Int))) (hy : ev E y = some (.int .i64 (n : Int))) (h63 : n ≤ 1073741824) (hn : Nat.blt d Γ.n = true)
    (k : ∀ v, At Γ ((d, v) :: E) (wrow e v (List.replicate n 0) :: H) (wpList P ops Q rest)) :
    At Γ E H (wpList P ops Q ({ dst := some d, op := .makeSlice t x y, type := ty, pos, after, guard := none } :: rest)) :=
  At.makeRow ht hti hz hsize (made_w n) hx hy (by rw [hb]; omega) (by omega) hn fun v => by
    have := k v
    unfold wrow at this
    rwa [List.length_replicate] at this
theorem now_last {wd : Wd} (hn : wd.news ≠ []) {y : BitVec 64} (hy : y = wd.news.getLast?.getD wd.old) : wd.news[wd.news.length - 1]? = some y := by
  rw [hy, ← List.getLast?_eq_getElem?]
  cases h : wd.news.getLast? with
  | none => rw [List.getLast?_eq_none_iff] at h; exact absurd h hn
  | some z => rfl
theorem Rep.modF (h : Rep w0 (feet []) H w) : Mod (fun _ => False) w0 w := h.mod.mono (fun b hb => by simp [feet] at hb)
theorem run_callV {n : Nat} {D : List Deferred} {a : Act} (ha : Agrees n D E a) {f : FuncId} {fx : Operand} {caps : List Value} {l : List Operand} {vs : List Value} {at_ : Array TypeId} (hf : ev E fx = some (.func (.func f) #[] caps.toArray)) (hc : ∀ args w, (callFunc f args).run P w = .ok (.enter f args) w) (hv : evs E l = some vs) (w : World) :
    (execOp a.eval { dst := dst, op := .call { callee := .value fx, args := l.toArray, argTypes := at_ }, type := ty, pos, after, guard := gd }).run P w = .ok (.enter f (vs ++ caps).toArray) w := by
  have hev := ha.evals hv
  simp [execOp, resolve, ha.eval hf, Deferred.ofValue, Sem.run_bind, invoke, hev, hc]
theorem At.winNil (e : Nat) (k : At Γ E (winR (.slice none 0 0) e [] :: H) φ) : At Γ E H φ := fun a w ha hw =>
  k a w ha (hw.new (r' := winR (.slice none 0 0) e []) (Mod.refl _ _) (.inl ⟨rfl, rfl⟩) (fun b hb => by simp [winR, Value.ownBlock] at hb))
theorem At.bornD0 {k b : Nat} {v' : Value} {wo wd : Wd} (hm : wd.mark = 0) (hk : ws[k]? = some wo) (ho : wo.news = []) (hn : wd.news ≠ []) (c : At Γ E (fam (dI (ws.set k wd) (upd g k (b, v'))) :: H) φ) : At Γ E (blk b tDb [v', .int .i64 0] :: winR v' tW (wd.news.map b64) :: fam (dI ws g) :: H) φ := by
  have := At.bornD (Γ := Γ) (E := E) (H := H) (φ := φ) (g := g) (b := b) (v' := v') hk ho hn c
  rwa [hm] at this
theorem At.unfocusZ {k b : Nat} {v' : Value} {wd : Wd} (hm : wd.mark = 0) (hk : k < ws.length) (hn : wd.news ≠ []) (c : At Γ E (fam (dI (ws.set k wd) (upd g k (b, v'))) :: H) φ) : At Γ E (blk b tDb [v', .int .i64 0] :: winR v' tW (wd.news.map b64) :: fam (upd (dI ws g) k none) :: H) φ := by
  have := At.unfocusD (Γ := Γ) (E := E) (H := H) (φ := φ) (g := g) (b := b) (v' := v') hk hn c
  rwa [hm] at this
theorem At.dbtCap {k : Nat} {wd : Wd} {b o n c : Nat} (i : Nat) (hi : H[i]? = some (fam (dI ws g))) (hk : ws[k]? = some wd) (hn : wd.news ≠ []) (hv : (g k).2 = .slice (some ⟨b, o, none⟩) n c) (q : wd.news.length ≤ c → At Γ E H φ) : At Γ E H φ := fun a w ha hw => by
  have h := (fam_dbt (hw.all _ (List.mem_of_getElem? hi)) hk hn).2
  rw [hv] at h
  rcases h with ⟨h1, _⟩ | ⟨b', o', c', cur, h1, _, h2, _⟩
  · cases h1
  · simp only [Value.slice.injEq] at h1
    obtain ⟨_, _, rfl⟩ := h1
    rw [List.length_map] at h2
    exact q h2 a w ha hw
theorem At.winOne (i : Nat) {e : Nat} {xs : List Value} (hi : H[i]? = some (winR v e xs)) (k : v.oneCell' = true → At Γ E H φ) : At Γ E H φ := fun a w ha hw => by
  have h : Win w v e xs := hw.all _ (List.mem_of_getElem? hi)
  rcases h with ⟨rfl, rfl⟩ | ⟨b, o, c, cur, rfl, _⟩ <;> exact k rfl a w ha hw
theorem At.bring (i : Nat) {r : Res} (hi : H[i]? = some r) (k : At Γ E (r :: H.eraseIdx i) φ) : At Γ E H φ := fun a w ha hw => k a w ha (hw.perm (erase_perm H i r hi))
def putK (l : List UInt8) (o : Nat) (x : BitVec 64) (k : Nat) : List UInt8 := l.take o ++ (le8 x).take k ++ l.drop (o + k)
abbrev put8 (l : List UInt8) (o : Nat) (x : BitVec 64) : List UInt8 := putK l o x 8
theorem putK_zero (l : List UInt8) (o : Nat) (x : BitVec 64) : putK l o x 0 = l := by simp [putK]
theorem putK_length {l : List UInt8} {o k : Nat} (x : BitVec 64) (h : o + k ≤ l.length) (hk : k ≤ 8) : (putK l o x k).length = l.length := by
  unfold putK; simp [le_length]; omega
theorem putK_step {l : List UInt8} {o k : Nat} (x : BitVec 64) (h : o + k < l.length) (hk : k < 8) : (putK l o x k).set (o + k) (UInt8.ofNat (x.toNat / 256 ^ k)) = putK l o x (k + 1) := by
  unfold putK
  rw [le_take_succ 8 _ k hk]
  have e : (l.take o ++ (le8 x).take k).length = o + k := by simp [le_length]; omega
  rw [List.set_append_right _ _ (by omega), e, Nat.sub_self, List.drop_eq_getElem_cons h, List.set_cons_zero]
  simp [Nat.add_assoc]
end
end Go.Wk
namespace Go.Proofs.YtfchinibjhcejaaDoor
open Go Go.Wk
theorem wz_calm (n : Nat) : ∀ w ∈ wz n, w.news = [] := fun w hw => by rw [(List.mem_replicate.1 hw).2]; rfl
theorem olds_wz (n : Nat) : olds (wz n) = List.replicate n 0 := by simp [olds, wz, zWd]
theorem zeroD_good {n : Nat} (h : isSizeB (8 * (n : Int)) = true) : Dgood (zeroD n) := by
  unfold isSizeB at h
  rw [decide_eq_true_eq] at h
  have e : (zeroD n).ws.length = n := by simp [zeroD, wz]
  exact ⟨by rw [e]; omega, by rw [e]; omega, by rw [e]; omega, by simp [zeroD], by simp [zeroD], fun w hw => by
    have := (List.mem_replicate.1 hw).2
    subst this; exact ⟨Nat.le_refl _, Nat.le_refl _⟩⟩
theorem now_old {wd : Wd} (h : wd.news = []) : nowW wd = wd.old := by unfold nowW; rw [h]; rfl
theorem bld_dev (a : Option Addr) (n c m : Nat) (w : World) : (Instr.build 74 #[(0, .slice a n c), (1, .map (some m))]).run Tryd.prog w = .ok (.agg #[.slice a n c, .map (some m), .int .i64 0, .bool false, .int .i64 0]) w := by kernel_rfl
theorem wordOf_p (v : Value) (l : List UInt8) (w : World) (hv : RdB w v l) (h8 : 8 ≤ l.length) :
    PureC Tryd.prog 30 [v] (b64 (wdA l 0)) w := by
 refine enter0 Tryd.func30 rfl Tryd.ntmps30 rfl ?_
 simp only [envOf]
 refine tR (tA rfl rfl (tE (tR (tA rfl rfl (tE (At.seq (tR (tA rfl rfl (tE (At.block ?_))))))))))
 skip
 refine At.loop (σ := Nat) (fun k => k ≤ 8) (fun k => [(0, v), (3, .int .u64 ((num l k (8 - k) : Nat) : Int)), (4, .int .i64 ((k : Int) - 1))]) (fun k => []) (fun k => k) 8 (Nat.le_refl _) (Sub.cons rfl (Sub.cons (congrArg (fun z => some (Value.int IntKind.u64 z)) (by rw [Nat.sub_self, num_zero]; rfl)) (Sub.cons rfl Sub.nil))) (List.Perm.refl _) ?_
 intro k hs
 refine At.seq (tR (tM rfl rfl (tV (Val.bin rfl rfl rfl) rfl (tE ?_))))
 refine At.cond rfl (fun h1 => ?_) (fun h1 => ?_)
 ·try simp only [hasB, isSizeB, sB] at h1
  have hk : 1 ≤ k := by omega
  refine At.skipC (At.thenN (At.seq (At.block (At.region (tM rfl rfl (tV (Val.shl rfl rfl (by decide)) rfl (tM rfl rfl (tM rfl rfl (At.idxB hv Tryd.underlying29 Tryd.sizeOf5 rfl rfl (by omega) (by omega) rfl rfl (fun b2 o3 q4 hq5 hl6 hc7 => (tV (Val.loadOld Tryd.isAgg5 rfl hc7 (fun h => h)) rfl (tV (Val.toU Tryd.underlying5 Tryd.underlying38 rfl (by omega) (by omega)) rfl ?_))))))))))))
  have hq8 := hq5
  have e1 : ((k : Int) - 1).toNat = k - 1 := by omega
  rw [e1] at hq8
  have hlt := num_lt (l := l) k (8 - k)
  have hlt' : num l k (8 - k) < 72057594037927936 := Nat.lt_of_lt_of_le hlt (Nat.pow_le_pow_right (n := 256) (i := 8 - k) (j := 7) (by decide) (by omega))
  refine tV (Val.bin rfl rfl rfl) rfl ?_
  rw [or_low hlt' (UInt8.toNat_lt _)]
  refine tA rfl rfl (At.nil (At.blkN (At.thenN (At.region (tM rfl rfl ?_)))))
  first | refine tV (Val.subI rfl rfl (by omega) (by omega)) rfl ?_ | refine tV (Val.bin rfl rfl rfl) rfl ?_
  refine tA rfl rfl (tE ?_)
  exact At.again (k - 1) (show k - 1 ≤ 8 by omega) (show k - 1 < k by omega) (Sub.cons rfl (Sub.cons (congrArg (fun z => some (Value.int IntKind.u64 z)) (by rw [show 8 - (k - 1) = 8 - k + 1 by omega, num_cons hq8, show k - 1 + 1 = k by omega])) (Sub.cons (congrArg (fun z => some (Value.int IntKind.i64 z)) (by omega)) Sub.nil))) (List.Perm.refl _)
 ·try simp only [hasB, isSizeB, sB] at h1
  obtain rfl : k = 0 := by omega
  refine At.exitC (At.thenX (At.thenX (At.blkX (At.thenN (tR (tM rfl rfl (tA rfl rfl (tE (At.retC (At.ret1 (.inl rfl) rfl rfl rfl (fun w hw => ?_)))))))))))
  exact ⟨congrArg Ending.returned (wdA_val l 0), hw.mod⟩
theorem putW_b (b U : Nat) (cs : List Value) (x : BitVec 64) (w : World) (hcs : cs.length = 8) (hr : (blk b U cs).holds w) :
    Upd Tryd.prog 61 [.slice (some ⟨b, 0, none⟩) 8 8, b64 x] (blk b U cs) (.tuple #[]) (blk b U ((le8 x).map bv)) w := by
 refine enter (feet [blk b U cs]) [blk b U cs] Tryd.func61 rfl Tryd.ntmps61 rfl (Rep.one hr) ?_
 have hll : ((le8 x).map bv).length = cs.length := by rw [List.length_map, le_length, hcs]
 simp only [envOf]
 refine tR (tM rfl rfl (tE (At.block ?_)))
 skip
 refine At.loop (σ := Nat) (fun k => k ≤ 8) (fun k => [(0, .slice (some ⟨b, 0, none⟩) 8 8), (1, b64 x), (5, .int .i64 (k : Int))]) (fun k => [blk b U (fillG ((le8 x).map bv) cs k)]) (fun k => 8 - k) 0 (Nat.zero_le _) (Sub.cons rfl (Sub.cons rfl (Sub.cons rfl Sub.nil))) (by rw [fillG_zero]) ?_
 intro k hs
 refine tR (tV (Val.bin rfl rfl rfl) rfl (tE (At.seq ?_)))
 refine At.cond rfl (fun h1 => ?_) (fun h1 => ?_)
 ·try simp only [hasB, isSizeB, sB] at h1
  have hk : k < 8 := by omega
  refine At.skipC (At.thenN (At.seq (At.block (tR (tM rfl rfl (tA rfl rfl (tE (At.region (tM rfl rfl (tM rfl rfl (tM rfl rfl (tM rfl rfl (tV (Val.mulI rfl rfl (by omega) (by omega)) rfl (tV (Val.shr rfl rfl (by omega)) rfl ?_))))))))))))))
  rw [shr_byte x hk]
  refine tV (Val.toB Tryd.underlying38 Tryd.underlying5 rfl (Int.natCast_nonneg _)) rfl ?_
  rw [Int.toNat_natCast]
  refine tV (Val.indexSl k (by omega) Tryd.underlying29 Tryd.sizeOf5 rfl rfl (by omega) (by omega)) rfl ?_
  have hfl := fillG_length hll k
  refine At.store (i := 0) Tryd.sizeOf5 rfl rfl rfl rfl (by rw [hfl, List.length_map, le_length]; exact hk) ?_
  simp only [sc0, scS]
  rw [fillG_step (by rw [List.getElem?_map, le_get 8 _ k hk]; rfl) hll]
  refine At.nil (At.blkN (At.thenN (At.region ?_)))
  first | refine tV (Val.addI rfl rfl (by omega) (by omega)) rfl ?_ | refine tV (Val.bin rfl rfl rfl) rfl ?_
  refine tM rfl rfl (tE ?_)
  exact At.again (k + 1) (show k + 1 ≤ 8 by omega) (by omega) (Sub.cons rfl (Sub.cons rfl (Sub.cons (congrArg (fun z => some (Value.int IntKind.i64 z)) (by omega)) Sub.nil))) (List.Perm.refl _)
 ·try simp only [hasB, isSizeB, sB] at h1
  obtain rfl : k = 8 := by omega
  refine At.exitC (At.thenX (At.thenX (At.blkX (At.ret0 (.inr rfl) rfl rfl  (fun w hw => ?_)))))
  rw [fillG_all (by rw [List.length_map, le_length]) hcs] at hw
  exact ⟨rfl, hw⟩
theorem now_k (p : Nat) (γ : Gh) (σ : Ds) (k : Nat) (wd : Wd) (w : World) (hk : σ.ws[k]? = some wd) (hd : (Dev p γ σ).holds w) :
    Upd Tryd.prog 24 [.pointer (some ⟨p, 0, none⟩), .int .i64 (8 * (k : Int))] (Dev p γ σ) (b64 (nowW wd)) (Dev p γ σ) w := by
 refine enterV hd Tryd.func24 rfl Tryd.ntmps24 rfl ?_
 unfold devL
 have hgd := Dev.good hd
 have hln := hgd.len
 have hkl := (List.getElem?_eq_some_iff.1 hk).1
 have hst := hgd.steps
 have hwd := hgd.word wd (List.mem_of_getElem? hk)
 simp only [envOf]
 refine tR (tA rfl rfl (tE (At.seq (tR (tM rfl rfl (tV (Val.nilCheck rfl) rfl (tV (Val.field 1 rfl fo_74_1 rfl) rfl (tV (Val.load (i := 0) Tryd.isAgg72 rfl rfl rfl) rfl (tM rfl rfl (tV (Val.look (i := 2) Tryd.underlying72 Tryd.underlying3 Tryd.zeroValue101 rfl rfl rfl) rfl ?_))))))))))
 by_cases hn : wd.news = []
 ·rw [mk_at, mkN_none hk hn]
  refine tA rfl rfl (tE (tR (tM rfl rfl (tV (Val.neNil (t := 101) (by kernel_rfl) rfl) rfl (tE (At.condF rfl (At.skipC (At.thenN (tR (tM rfl rfl (tV (Val.nilCheck rfl) rfl (tV (Val.field 0 rfl fo_74_0 rfl) rfl (tV (Val.load (i := 0) Tryd.isAgg60 rfl rfl rfl) rfl (tM rfl rfl (tV (Val.quoI rfl rfl (by omega) (by omega) (by decide)) rfl ?_)))))))))))))))
  rw [show 8 * (k : Int) / 8 = (k : Int) from by omega]
  refine tV (Val.indexRow (i := 1) k (by omega) Tryd.underlying60 Tryd.sizeOf38 rfl rfl rfl (by omega) (by rw [olds_length]; omega)) rfl ?_
  refine tV (Val.loadRow (i := 1) Tryd.isAgg38 rfl rfl (by rw [List.getElem?_map, olds_at hk]; rfl)) rfl ?_
  refine tA rfl rfl (tE (At.retC (At.ret1 (.inl rfl) rfl rfl rfl (fun w hw => ?_))))
  exact ⟨congrArg (fun z => Ending.returned (b64 z)) (now_old hn).symm, retK (F := []) hw⟩
 ·rw [mk_at, mkN_some hk hn]
  have hpos := List.length_pos_iff.2 hn
  refine tA rfl rfl (tE (tR (tM rfl rfl (tV (Val.neNil (t := 101) (by kernel_rfl) rfl) rfl (tE (At.condT rfl (At.seq (At.dbtSome 3 rfl hk hn (fun b o c hv => (At.quiet rfl (by decide +kernel) (qM rfl rfl (qV (Val.nilCheck rfl) rfl (qV (Val.field 0 rfl fo_103_0 rfl) rfl (qV (Val.loadDbt (i := 3) Tryd.isAgg60 rfl rfl hk hn rfl) rfl (qM rfl rfl (qV (Val.nilCheck rfl) rfl (qV (Val.field 0 rfl fo_103_0 rfl) rfl (qV (Val.loadDbt (i := 3) Tryd.isAgg60 rfl rfl hk hn rfl) rfl (qV (Val.lenDbt (i := 3) rfl hk hn Tryd.underlying60 rfl) rfl (qV (Val.subI rfl rfl (by omega) (by omega)) rfl ?_))))))))))))))))))))
  rw [hv]
  refine qV (Val.indexSl (o + (wd.news.length - 1)) (by omega) Tryd.underlying60 Tryd.sizeOf38 rfl rfl (by omega) (by omega)) rfl (qV (Val.loadNews (i := 3) Tryd.isAgg38 rfl rfl hk hn hv rfl (now_last hn (y := nowW wd) rfl)) rfl (qV (Val.assign rfl) rfl (QAt.fin (At.thenN (At.retC (At.thenR (At.ret1 (.inl rfl) rfl rfl rfl (fun w hw => ?_))))))))
  exact ⟨rfl, retK (F := []) hw⟩
end Go.Proofs.YtfchinibjhcejaaDoor
namespace Go.Proofs.YtfchinibjhcejaaDoor
open Go Go.Wk
def loadWs (l : List UInt8) : List Wd := (List.range (l.length / 8)).map fun i => ⟨wdA l (8 * i), [], 0⟩
def loadD (l : List UInt8) : Ds := ⟨loadWs l, 0, false, 0⟩
theorem loadWs_length (l : List UInt8) : (loadWs l).length = l.length / 8 := by simp [loadWs]
theorem loadWs_calm (l : List UInt8) : ∀ w ∈ loadWs l, w.news = [] := fun w hw => by
  obtain ⟨i, _, rfl⟩ := List.mem_map.1 hw; rfl
theorem loadD_good {l : List UInt8} (h : isSizeB (l.length : Int) = true) : Dgood (loadD l) := by
  unfold isSizeB at h
  rw [decide_eq_true_eq] at h
  have e : (loadD l).ws.length = l.length / 8 := loadWs_length l
  exact ⟨by rw [e]; omega, by rw [e]; omega, by rw [e]; omega, by simp [loadD], by simp [loadD], fun w hw => by
    obtain ⟨i, _, rfl⟩ := List.mem_map.1 hw
    exact ⟨Nat.le_refl _, Nat.le_refl _⟩⟩
def fillW (l : List UInt8) (k : Nat) : List (BitVec 64) := ((List.range k).map fun i => wdA l (8 * i)) ++ List.replicate (l.length / 8 - k) 0
theorem fillW_length {l : List UInt8} {k : Nat} (h : k ≤ l.length / 8) : (fillW l k).length = l.length / 8 := by unfold fillW; simp; omega
theorem fillW_step {l : List UInt8} {k : Nat} (h : k < l.length / 8) : (fillW l k).set k (wdA l (8 * k)) = fillW l (k + 1) := by
  unfold fillW
  rw [List.set_append_right _ _ (by simp), List.length_map, List.length_range, Nat.sub_self, List.range_succ, List.map_append]
  obtain ⟨m, hm⟩ : ∃ m, l.length / 8 - k = m + 1 := ⟨l.length / 8 - k - 1, by omega⟩
  rw [hm, List.replicate_succ, List.set_cons_zero, show l.length / 8 - (k + 1) = m from by omega]
  simp
theorem fillW_all (l : List UInt8) : fillW l (l.length / 8) = olds (loadD l).ws := by
  unfold fillW olds loadD loadWs
  simp [Function.comp_def]
theorem wdA_drop (l : List UInt8) (a : Nat) : wdA (l.drop a) 0 = wdA l a := by unfold wdA num; rw [List.drop_zero]
def armD (σ : Ds) (m : Nat) : Ds := { σ with armed := true, left := m }
theorem armD_good {σ : Ds} {m : Nat} (h : Dgood σ) (hm : m ≤ 9223372036854775807) : Dgood (armD σ m) := ⟨h.pos, h.len, h.lines, h.steps, hm, h.word⟩
theorem place_at {σ : Ds} {k : Nat} (h : k < σ.ws.length) : placeE σ (8 * (k : Int)) = 0 := by unfold placeE; rw [if_pos (by omega), if_pos (by omega)]
theorem rot3p {a b c f : Res} : List.Perm [f, a, b, c] [a, c, b, f] := by
  refine (List.perm_middle (l₁ := [a, b, c]) (l₂ := [])).symm.trans ?_
  exact ((List.Perm.swap c b [f])).cons a
theorem new_d (N : Nat) (w : World) (hn : isSizeB (8 * (N : Int)) = true) :
    NewDev Tryd.prog 29 [.int .i64 (8 * (N : Int))] (zeroD N) w := by
 refine enter (feet []) [] Tryd.func29 rfl Tryd.ntmps29 rfl ⟨by simp, by simp, by simp, Mod.refl _ _⟩ ?_
 have hnn := hn
 unfold isSizeB at hnn
 rw [decide_eq_true_eq] at hnn
 simp only [envOf]
 refine tR (tA rfl rfl (tA rfl rfl (tE (At.seq (tR (tM rfl rfl (At.callP (fun w hw => isSize_p _ w) Tryd.call58 rfl rfl (tV (Val.not rfl) rfl (tE ?_)))))))))
 refine At.cond rfl (fun h1 => ?_) (fun h1 => ?_)
 ·try simp only [hasB, isSizeB, sB] at h1
  omega
 ·try simp only [hasB, isSizeB, sB] at h1
  refine At.skipC (At.thenN (tR (tM rfl rfl (tV (Val.quoI rfl rfl (by omega) (by omega) (by decide)) rfl ?_))))
  rw [show 8 * (N : Int) / 8 = (N : Int) from by omega]
  refine At.makeRowW Tryd.underlying60 info_38 rfl rfl rfl rfl rfl (by omega) rfl (fun v2 => (At.makeMap rfl (fun mb3 => (At.rowIs (i := 1) rfl (fun A4 c5 hv => ?_)))))
  subst hv
  refine tV (Val.build (fun a ha => by simp only [List.map_toArray, List.map_cons, List.map_nil, ha.eval (x := (.tmp 9)) rfl, ha.eval (x := (.tmp 10)) rfl] <;> rfl) (bld_dev _ _ _ _)) rfl (At.box rfl rfl rfl (fun b6 => (tA rfl rfl (tA rfl rfl (tE (At.retC (At.ret2 (.inl rfl) rfl rfl rfl rfl (fun w hw => ?_))))))))
  have hgz := zeroD_good hn
  exact ⟨b6, ⟨(.slice A4 ((List.replicate N (0 : BitVec 64)).length) c5), mb3, fun _ => (0, .slice none 0 0)⟩, rfl, toDev (F := []) hgz (Rep.famNil (I := dI (zeroD N).ws (fun _ => (0, .slice none 0 0))) (dI_calm (wz_calm _)) hw |>.perm (rot3p)) rfl (by rw [show olds (zeroD N).ws = List.replicate N 0 from olds_wz N]) (by rw [mk_calm (ws := (zeroD N).ws) (wz_calm _)]) rfl⟩
theorem new_n (n : Int) (w : World) (hn : isSizeB n = true) (N : Nat) (hN : 8 * (N : Int) = n) : NewDev Tryd.prog 29 [.int .i64 n] (zeroD N) w := by
  subst hN; exact new_d N w hn
theorem word_k (p : Nat) (γ : Gh) (σ : Ds) (k : Nat) (wd : Wd) (w : World) (hk : σ.ws[k]? = some wd) (hd : (Dev p γ σ).holds w) :
    Upd Tryd.prog 9 [.pointer (some ⟨p, 0, none⟩), .int .i64 (8 * (k : Int))] (Dev p γ σ) (.tuple #[b64 (nowW wd), .int .i64 0]) (Dev p γ σ) w := by
 refine enterVc hd Tryd.func9 rfl Tryd.ntmps9 rfl ?_
 have hgd := Dev.good hd
 have hkl := (List.getElem?_eq_some_iff.1 hk).1
 have hpl := place_at hkl
 simp only [envOf]
 refine tR (tA rfl rfl (tA rfl rfl (tE (At.seq (tR (tM rfl rfl (tM rfl rfl (At.callK 0 rfl (fun w hw hr => place_k _ _ _ _ w hr) Tryd.call23 rfl rfl (tA rfl rfl (tE (tR (tM rfl rfl (tV (Val.bin rfl rfl rfl) rfl (tE ?_))))))))))))))
 refine At.cond rfl (fun h1 => ?_) (fun h1 => ?_)
 ·try simp only [hasB, isSizeB, sB] at h1
  omega
 ·try simp only [hasB, isSizeB, sB] at h1
  refine At.skipC (At.thenN (tR (tM rfl rfl (tM rfl rfl (At.callK 0 rfl (fun w hw hr => now_k _ _ _ _ _ w hk hr) Tryd.call24 rfl rfl (tA rfl rfl (tA rfl rfl (tE (At.retC (At.ret2 (.inl rfl) rfl rfl rfl rfl (fun w hw => ?_)))))))))))
  exact ⟨rfl, hw⟩
theorem arm_d (p : Nat) (γ : Gh) (σ : Ds) (m : Nat) (w : World) (hm : m ≤ 9223372036854775807) (hno : deadB σ = false) (hd : (Dev p γ σ).holds w) :
    DevU Tryd.prog 14 [.pointer (some ⟨p, 0, none⟩), .int .i64 (m : Int)] p γ σ (.int .i64 0) (armD σ m) w := by
 refine enterVc hd Tryd.func14 rfl Tryd.ntmps14 rfl ?_
 have hgd := Dev.good hd
 simp only [envOf]
 refine tR (tA rfl rfl (tE (At.seq (tR (tM rfl rfl (tV (Val.bin rfl rfl rfl) rfl (tE ?_)))))))
 refine At.cond rfl (fun h1 => ?_) (fun h1 => ?_)
 ·try simp only [hasB, isSizeB, sB] at h1
  omega
 ·try simp only [hasB, isSizeB, sB] at h1
  refine At.skipC (At.thenN (At.seq (tR (tM rfl rfl (At.callK 0 rfl (fun w hw hr => dead_k _ _ _ w hr) Tryd.call31 rfl rfl (tE ?_))))))
  refine At.cond rfl (fun h2 => ?_) (fun h2 => ?_)
  ·try simp only [hasB, isSizeB, sB] at h2
   rw [hno] at h2; cases h2
  ·try simp only [hasB, isSizeB, sB] at h2
   refine At.skipC (At.thenN (At.seq (At.openS 0 rfl ?_)))
   simp only [devL, List.cons_append, List.nil_append, ec0, ecS]
   refine At.region (tM rfl rfl (tM rfl rfl (tM rfl rfl (tV (Val.nilCheck rfl) rfl (tV (Val.field 3 rfl fo_74_3 rfl) rfl (At.store (i := 0) Tryd.sizeOf4 rfl rfl rfl rfl (by first | decide | simp) ?_))))))
   simp only [sc0, scS]
   refine tV (Val.nilCheck rfl) rfl (tV (Val.field 4 rfl fo_74_4 rfl) rfl (At.store (i := 0) Tryd.sizeOf3 rfl rfl rfl rfl (by first | decide | simp) ?_))
   simp only [sc0, scS]
   refine tE (tR (tA rfl rfl (tE (At.retC (At.ret1 (.inl rfl) rfl rfl rfl (fun w hw => ?_))))))
   exact ⟨γ, rfl, toDev (F := []) (armD_good hgd hm) (hw.drop (show List.Sublist [_, _, _, _] _ from (List.Sublist.refl _ |>.cons _ |>.cons_cons _ |>.cons_cons _ |>.cons_cons _ |>.cons_cons _))) rfl rfl rfl rfl⟩
theorem load_d (v : Value) (l : List UInt8) (w : World) (hv : RdB w v l) (hn : isSizeB (l.length : Int) = true) :
    NewDev Tryd.prog 13 [v] (loadD l) w := by
 refine enter (feet []) [] Tryd.func13 rfl Tryd.ntmps13 rfl ⟨by simp, by simp, by simp, Mod.refl _ _⟩ ?_
 have hnn := hn
 unfold isSizeB at hnn
 rw [decide_eq_true_eq] at hnn
 have hlz : (((olds (zeroD (l.length / 8)).ws).length : Nat) : Int) = ((l.length / 8 : Nat) : Int) := by rw [olds_length]; simp [zeroD, wz]
 have hf0 : fillW l 0 = olds (zeroD (l.length / 8)).ws := by rw [show olds (zeroD (l.length / 8)).ws = List.replicate (l.length / 8) 0 from olds_wz _]; unfold fillW; simp
 simp only [envOf]
 refine tR (tA rfl rfl (tA rfl rfl (tE (tR (tM rfl rfl (tV (Val.lenRd hv Tryd.underlying29 rfl) rfl (At.callND (fun w hw => new_n _ w hn (l.length / 8) (by omega)) Tryd.call29 rfl rfl (fun p1 y2 => (tM rfl rfl (tV (Val.extract rfl rfl) rfl (tV (Val.extract rfl rfl) rfl (tA rfl rfl (tA rfl rfl (tE (At.seq (tR (tM rfl rfl (tV (Val.bin rfl rfl rfl) rfl (tE ?_)))))))))))))))))))
 refine At.cond rfl (fun h3 => ?_) (fun h3 => ?_)
 ·try simp only [hasB, isSizeB, sB] at h3
  simp at h3
 ·try simp only [hasB, isSizeB, sB] at h3
  refine At.skipC (At.thenN (At.seq (At.seq (At.openS 0 rfl ?_))))
  simp only [devL, List.cons_append, List.nil_append, ec0, ecS]
  refine At.region (tM rfl rfl (tV (Val.nilCheck rfl) rfl (tV (Val.field 0 rfl fo_74_0 rfl) rfl (tV (Val.load (i := 0) Tryd.isAgg60 rfl rfl rfl) rfl (tV (Val.lenRow (i := 1) Tryd.underlying60 rfl rfl) rfl (tM rfl rfl (tE (At.block ?_))))))))
  skip
  refine At.loop (σ := Nat) (fun k => k ≤ l.length / 8) (fun k => [(0, v), (4, .pointer (some ⟨p1, 0, none⟩)), (20, .int .i64 ((l.length / 8 : Nat) : Int)), (21, .int .i64 (k : Int))]) (fun k => [blk p1 tDv [y2.vo, .map (some y2.mb), .int .i64 0, .bool false, .int .i64 0], wrow tW y2.vo (fillW l k), mapR y2.mb (mk (zeroD (l.length / 8)).ws y2.g), fam (dI (zeroD (l.length / 8)).ws y2.g), factR (Dgood (zeroD (l.length / 8)))]) (fun k => l.length / 8 - k) 0 (Nat.zero_le _) (Sub.cons rfl (Sub.cons rfl (Sub.cons (congrArg (fun z => some (Value.int IntKind.i64 z)) hlz) (Sub.cons rfl Sub.nil)))) (by rw [show fillW l 0 = olds (zeroD (l.length / 8)).ws from hf0]; exact List.Perm.refl _) ?_
  intro k hs
  have hkl8 : 8 * k ≤ l.length := by omega
  have hfl := fillW_length hs
  refine tR (tV (Val.bin rfl rfl rfl) rfl (tE (At.seq ?_)))
  refine At.cond rfl (fun h4 => ?_) (fun h4 => ?_)
  ·try simp only [hasB, isSizeB, sB] at h4
   have hk : k < l.length / 8 := by omega
   have hk8 : 8 * k + 8 ≤ l.length := by omega
   refine At.skipC (At.thenN (At.seq (At.block (tR (tM rfl rfl (tA rfl rfl (tE (At.tail 11 rfl (by decide +kernel) ?_))))))))
   simp only [List.take_succ_cons, List.take_zero, List.drop_succ_cons, List.drop_zero]
   refine qM rfl rfl (qV (Val.nilCheck rfl) rfl (qV (Val.field 0 rfl fo_74_0 rfl) rfl (qV (Val.load (i := 0) Tryd.isAgg60 rfl rfl rfl) rfl (qM rfl rfl (qM rfl rfl (qM rfl rfl (qV (Val.mulI rfl rfl (by omega) (by omega)) rfl ?_)))))))
   rw [show (k : Int) * 8 = ((8 * k : Nat) : Int) from by omega]
   refine QAt.cutB (8 * k) (l.length) hv Tryd.underlying29 Tryd.sizeOf5 rfl ⟨_, _, rfl, by omega, by omega⟩ rfl (by omega) (by omega) rfl rfl (fun v5 hv6 => ?_)
   refine QAt.callP (fun w hw => wordOf_p _ _ w (hv6.mod hw.modF) (by rw [List.length_take, List.length_drop]; omega)) Tryd.call30 rfl rfl (qV (Val.indexRow (i := 1) k (by omega) Tryd.underlying60 Tryd.sizeOf38 rfl rfl rfl (by omega) (by omega)) rfl (QAt.fin ?_))
   rw [show wdA ((l.drop (8 * k)).take (l.length - 8 * k)) 0 = wdA l (8 * k) from by rw [List.take_of_length_le (by rw [List.length_drop]; omega), wdA_drop]]
   refine At.storeRow (i := 1) Tryd.sizeOf38 rfl rfl rfl rfl (by rw [List.length_map]; omega) ?_
   simp only [sc0, scS]
   rw [← List.map_set, fillW_step hk, show (fillW l k).length = (fillW l (k + 1)).length from by rw [hfl, fillW_length (by omega)]]
   refine At.nil (At.blkN (At.thenN (At.region ?_)))
   first | refine tV (Val.addI rfl rfl (by omega) (by omega)) rfl ?_ | refine tV (Val.bin rfl rfl rfl) rfl ?_
   refine tM rfl rfl (tE ?_)
   exact At.again (k + 1) (show k + 1 ≤ _ by omega) (by omega) (Sub.cons rfl (Sub.cons rfl (Sub.cons rfl (Sub.cons (congrArg (fun z => some (Value.int IntKind.i64 z)) (by omega)) Sub.nil)))) (List.Perm.refl _)
  ·try simp only [hasB, isSizeB, sB] at h4
   obtain rfl : k = l.length / 8 := by omega
   refine At.exitC (At.thenX (At.thenX (At.blkX (At.thenN (tR (tM rfl rfl (tA rfl rfl (tA rfl rfl (tE (At.retC (At.ret2 (.inl rfl) rfl rfl rfl rfl (fun w hw => ?_))))))))))))
   exact ⟨p1, ⟨y2.vo, y2.mb, y2.g⟩, rfl, toDev (F := []) (loadD_good hn) (hw.drop (show List.Sublist [_, _, _, _] _ from (List.Sublist.refl _ |>.cons _ |>.cons_cons _ |>.cons_cons _ |>.cons_cons _ |>.cons_cons _))) rfl (by rw [fillW_all]) (by rw [mk_calm (ws := (zeroD (l.length / 8)).ws) (wz_calm _)]; exact congrArg (mapR _) (mk_calm (ws := (loadD l).ws) (loadWs_calm l)).symm) (congrArg fam (dI_calm' (ws := (zeroD (l.length / 8)).ws) (ws' := (loadD l).ws) (wz_calm _) (loadWs_calm l)))⟩
end Go.Proofs.YtfchinibjhcejaaDoor
namespace Go.Proofs.YtfchinibjhcejaaDoor
open Go Go.Wk
def pushW (w : Wd) (x : BitVec 64) : Wd := { w with news := w.news ++ [x] }
def markW (w : Wd) : Wd := { w with mark := w.news.length }
def setD (σ : Ds) (k : Nat) (w : Wd) : Ds := { σ with ws := σ.ws.set k w }
theorem mem_set_or {ws : List Wd} {k : Nat} {a w : Wd} (h : w ∈ ws.set k a) : w = a ∨ w ∈ ws := by
  rcases List.mem_or_eq_of_mem_set h with h | h
  · exact .inr h
  · exact .inl h
theorem push_good {σ : Ds} {k : Nat} {wd : Wd} {x : BitVec 64} (hg : Dgood σ) (hk : σ.ws[k]? = some wd) (hs : σ.steps + 1 ≤ 1099511627776) : Dgood (setD (stepD σ) k (pushW wd x)) := by
  have h1 := dgood_step hg hs
  have hw := hg.word wd (List.mem_of_getElem? hk)
  refine ⟨by simpa [setD] using h1.pos, by simpa [setD] using h1.len, by simpa [setD] using h1.lines, h1.steps, h1.left, fun w hm => ?_⟩
  rcases mem_set_or hm with rfl | h2
  · simp only [pushW, setD, stepD, List.length_append, List.length_singleton]; omega
  · exact h1.word w h2
theorem mark_good {σ : Ds} {k : Nat} {wd : Wd} (hg : Dgood σ) (hk : σ.ws[k]? = some wd) : Dgood (setD σ k (markW wd)) := by
  have hw := hg.word wd (List.mem_of_getElem? hk)
  refine ⟨by simpa [setD] using hg.pos, by simpa [setD] using hg.len, by simpa [setD] using hg.lines, hg.steps, hg.left, fun w hm => ?_⟩
  rcases mem_set_or hm with rfl | h2
  · exact ⟨Nat.le_refl _, hw.2⟩
  · exact hg.word w h2
def flushK (σ : Ds) (f : Nat) : Nat → Ds
  | 0 => σ
  | j + 1 => match (flushK σ f j).ws[f + j]? with | some w => setD (flushK σ f j) (f + j) (markW w) | none => flushK σ f j
theorem flushK_rest (σ : Ds) (f : Nat) : ∀ j, (flushK σ f j).steps = σ.steps ∧ (flushK σ f j).armed = σ.armed ∧ (flushK σ f j).left = σ.left ∧ (flushK σ f j).ws.length = σ.ws.length ∧ olds (flushK σ f j).ws = olds σ.ws
  | 0 => ⟨rfl, rfl, rfl, rfl, rfl⟩
  | j + 1 => by
    obtain ⟨h1, h2, h3, h4, h5⟩ := flushK_rest σ f j
    unfold flushK
    split
    · rename_i w hw
      exact ⟨h1, h2, h3, by simpa [setD] using h4, (olds_same (wd' := markW w) hw rfl).trans h5⟩
    · exact ⟨h1, h2, h3, h4, h5⟩
theorem flushK_good {σ : Ds} (f : Nat) (hg : Dgood σ) : ∀ j, Dgood (flushK σ f j)
  | 0 => hg
  | j + 1 => by
    unfold flushK
    split
    · rename_i w hw; exact mark_good (flushK_good f hg j) hw
    · exact flushK_good f hg j
theorem flushK_succ {σ : Ds} {f j : Nat} {w : Wd} (h : (flushK σ f j).ws[f + j]? = some w) : flushK σ f (j + 1) = setD (flushK σ f j) (f + j) (markW w) := by
  conv => lhs; unfold flushK
  rw [h]
theorem set_get {ws : List Wd} {k : Nat} {w : Wd} (h : ws[k]? = some w) : ws.set k w = ws := set_same h
theorem flushK_nil {σ : Ds} {f j : Nat} {w : Wd} (hg : Dgood σ) (h : (flushK σ f j).ws[f + j]? = some w) (hn : w.news = []) : flushK σ f (j + 1) = flushK σ f j := by
  rw [flushK_succ h]
  have hw := ((flushK_good f hg j).word w (List.mem_of_getElem? h)).1
  have : markW w = w := by cases w; simp only [markW] at *; subst hn; simp at hw ⊢; omega
  unfold setD
  rw [this, set_get h]
theorem store_d (p : Nat) (γ : Gh) (σ : Ds) (k : Nat) (wd : Wd) (x : BitVec 64) (w : World) (hk : σ.ws[k]? = some wd) (hs : σ.steps + 1 ≤ 1099511627776) (hno : deadB σ = false) (hd : (Dev p γ σ).holds w) :
    DevU Tryd.prog 41 [.pointer (some ⟨p, 0, none⟩), .int .i64 (8 * (k : Int)), b64 x] p γ σ (.int .i64 0) (setD (stepD σ) k (pushW wd x)) w := by
 refine enterVc hd Tryd.func41 rfl Tryd.ntmps41 rfl ?_
 have hgd := Dev.good hd
 have hkl := (List.getElem?_eq_some_iff.1 hk).1
 have hk1 : (stepD σ).ws[k]? = some wd := hk
 have hkl1 : k < (stepD σ).ws.length := hkl
 have hwd := hgd.word wd (List.mem_of_getElem? hk)
 have hpn : (pushW wd x).news ≠ [] := by simp [pushW]
 simp only [envOf]
 refine tR (tA rfl rfl (tE (At.seq (tR (tM rfl rfl (tM rfl rfl (At.callK 0 rfl (fun w hw hr => (place_at (σ := σ) hkl) ▸ place_k _ _ _ _ w hr) Tryd.call23 rfl rfl (tA rfl rfl (tE (tR (tM rfl rfl (tV (Val.bin rfl rfl rfl) rfl (tE (At.condF rfl (At.skipC (At.thenN (At.seq (tR (tM rfl rfl (At.callD 0 rfl (fun w hw hr => step_d _ _ _ w hs hno hr) Tryd.call68 rfl rfl (fun y1 => ?_)))))))))))))))))))))
 simp only [sc0, scS]
 refine tA rfl rfl (tE (tR (tM rfl rfl (tV (Val.bin rfl rfl rfl) rfl (tE (At.condF rfl (At.skipC (At.thenN (At.seq (At.openS 0 rfl ?_))))))))))
 simp only [devL, List.cons_append, List.nil_append, ec0, ecS]
 refine At.region (tM rfl rfl (tV (Val.nilCheck rfl) rfl (tV (Val.field 1 rfl fo_74_1 rfl) rfl (tV (Val.load (i := 0) Tryd.isAgg72 rfl rfl rfl) rfl (tM rfl rfl (tV (Val.look (i := 2) Tryd.underlying72 Tryd.underlying3 Tryd.zeroValue101 rfl rfl rfl) rfl ?_))))))
 by_cases hn : wd.news = []
 ·rw [mk_at, mkN_none hk1 hn]
  refine tA rfl rfl (tE (At.seq (tR (tM rfl rfl (tV (Val.eqNil (t := 101) (by kernel_rfl) rfl) rfl (tE (At.condT rfl (tR ?_))))))))
  refine tV (Val.build (fun a ha => by simp only [List.map_toArray, List.map_cons, List.map_nil] <;> rfl) (bld_103_)) rfl (At.box rfl rfl rfl (fun b2 => (tA rfl rfl (tE (At.region (tM rfl rfl (tV (Val.nilCheck rfl) rfl (tV (Val.field 1 rfl fo_74_1 rfl) rfl (tV (Val.load (i := 1) Tryd.isAgg72 rfl rfl rfl) rfl (tM rfl rfl (tM rfl rfl (At.mapSet (i := 3) Tryd.underlying72 Tryd.underlying3 rfl rfl rfl rfl (by rw [mk_at, mkN_none hk1 hn]) ?_))))))))))))
  simp only [sc0, scS]
  refine tE (At.seq (At.winNil tW ?_))
  have hwl : ([] : List Value).length = 0 := rfl
  refine At.region (tM rfl rfl (tM rfl rfl (tV (Val.nilCheck rfl) rfl (tV (Val.field 0 rfl fo_103_0 rfl) rfl (tV (Val.load (i := 1) Tryd.isAgg60 rfl rfl rfl) rfl (tM rfl rfl (At.buildSl (fun a ha => by simp only [List.map_toArray, List.map_cons, List.map_nil, ha.eval (x := (.tmp 42)) rfl]; try rfl) (bs_60_1 _ ) rfl (fun b3 => ?_))))))))
  refine At.appendWin1 (i := 1) (j := 0) (by_ := 8) Tryd.underlying60 info_38 rfl rfl rfl rfl rfl rfl rfl rfl rfl (by rw [hwl]; omega) (by rw [hwl]; omega) rfl (fun v4 => ?_)
  simp only [sc0, scS]
  refine At.drop 0 ?_
  simp only [ec0, ecS]
  refine tV (Val.nilCheck rfl) rfl (tV (Val.field 0 rfl fo_103_0 rfl) rfl (At.winOne 0 rfl (fun ho => (At.store (i := 1) Tryd.sizeOf60 rfl rfl ho rfl (by simp) ?_))))
  simp only [sc0, scS]
  refine At.nil (At.bring 5 rfl ?_)
  simp only [ec0, ecS]
  refine At.bring 1 rfl ?_
  simp only [ec0, ecS]
  refine At.bring 2 rfl ?_
  simp only [ec0, ecS]
  rw [show ([] : List Value) ++ [b64 x] = (pushW wd x).news.map b64 from by simp [pushW, hn]]
  refine At.bornD0 (wd := pushW wd x) (by have := hwd.1; rw [hn] at this; simpa [pushW] using this) hk1 hn hpn (At.rot3 (At.thenN (tR (tA rfl rfl (tE (At.retC (At.ret1 (.inl rfl) rfl rfl rfl (fun w hw => ?_))))))))
  exact ⟨⟨y1.vo, y1.mb, upd y1.g k (b2, v4)⟩, rfl, toDev (F := []) (push_good hgd hk hs) (hw.drop (show List.Sublist [_, _, _, _] _ from (List.Sublist.refl _ |>.cons _ |>.cons_cons _ |>.cons_cons _ |>.cons_cons _ |>.cons_cons _))) rfl (congrArg (wrow tW y1.vo) (olds_same (ws := (stepD σ).ws) (wd' := pushW wd x) hk1 rfl).symm) (congrArg (mapR y1.mb) (mk_push hkl1 hpn).symm) rfl⟩
 ·rw [mk_at, mkN_some hk1 hn]
  refine tA rfl rfl (tE (At.seq (At.seq (At.focusD 3 rfl hk1 hn ?_))))
  simp only [ec0, ecS]
  refine At.region (tM rfl rfl (tV (Val.eqNil (t := 101) (by kernel_rfl) rfl) rfl (tE (At.condF rfl (At.skipC (At.thenN (At.seq ?_)))))))
  have hwl : (wd.news.map b64).length = wd.news.length := List.length_map ..
  refine At.region (tM rfl rfl (tM rfl rfl (tV (Val.nilCheck rfl) rfl (tV (Val.field 0 rfl fo_103_0 rfl) rfl (tV (Val.load (i := 0) Tryd.isAgg60 rfl rfl rfl) rfl (tM rfl rfl (At.buildSl (fun a ha => by simp only [List.map_toArray, List.map_cons, List.map_nil, ha.eval (x := (.tmp 42)) rfl]; try rfl) (bs_60_1 _ ) rfl (fun b5 => ?_))))))))
  refine At.appendWin1 (i := 2) (j := 0) (by_ := 8) Tryd.underlying60 info_38 rfl rfl rfl rfl rfl rfl rfl rfl rfl (by rw [hwl]; omega) (by rw [hwl]; omega) rfl (fun v6 => ?_)
  simp only [sc0, scS]
  refine At.drop 0 ?_
  simp only [ec0, ecS]
  refine tV (Val.nilCheck rfl) rfl (tV (Val.field 0 rfl fo_103_0 rfl) rfl (At.winOne 1 rfl (fun ho => (At.store (i := 0) Tryd.sizeOf60 rfl rfl ho rfl (by simp) ?_))))
  simp only [sc0, scS]
  refine At.nil (At.bring 2 rfl ?_)
  simp only [ec0, ecS]
  refine At.bring 2 rfl ?_
  simp only [ec0, ecS]
  refine At.bring 2 rfl ?_
  simp only [ec0, ecS]
  rw [show wd.news.map b64 ++ [b64 x] = (pushW wd x).news.map b64 from by simp [pushW]]
  refine At.unfocusD (wd := pushW wd x) hkl1 hpn (At.rot3 (At.thenN (tR (tA rfl rfl (tE (At.retC (At.ret1 (.inl rfl) rfl rfl rfl (fun w hw => ?_))))))))
  exact ⟨⟨y1.vo, y1.mb, upd y1.g k ((y1.g k).1, v6)⟩, rfl, toDev (F := []) (push_good hgd hk hs) (hw.drop (show List.Sublist [_, _, _, _] _ from (List.Sublist.refl _ |>.cons _ |>.cons_cons _ |>.cons_cons _ |>.cons_cons _ |>.cons_cons _))) rfl (congrArg (wrow tW y1.vo) (olds_same (ws := (stepD σ).ws) (wd' := pushW wd x) hk1 rfl).symm) (congrArg (mapR y1.mb) (mk_keep hk1 hn hpn).symm) rfl⟩
theorem store_0 (p : Nat) (γ : Gh) (σ : Ds) (a : Int) (x : BitVec 64) (w : World) (ha : placeE σ a = 0) (hno : deadB σ = true) (hd : (Dev p γ σ).holds w) :
    Upd Tryd.prog 41 [.pointer (some ⟨p, 0, none⟩), .int .i64 a, b64 x] (Dev p γ σ) (.int .i64 13) (Dev p γ σ) w := by
 refine enterVc hd Tryd.func41 rfl Tryd.ntmps41 rfl ?_
 have hgd := Dev.good hd
 simp only [envOf]
 refine tR (tA rfl rfl (tE (At.seq (tR (tM rfl rfl (tM rfl rfl (At.callK 0 rfl (fun w hw hr => place_k _ _ _ _ w hr) Tryd.call23 rfl rfl (tA rfl rfl (tE (tR (tM rfl rfl (tV (Val.bin rfl rfl rfl) rfl (tE ?_)))))))))))))
 refine At.cond rfl (fun h1 => ?_) (fun h1 => ?_)
 ·try simp only [hasB, isSizeB, sB] at h1
  omega
 ·try simp only [hasB, isSizeB, sB] at h1
  refine At.skipC (At.thenN (At.seq (tR (tM rfl rfl (At.callK 0 rfl (fun w hw hr => step_0 _ _ _ w hno hr) Tryd.call68 rfl rfl (tA rfl rfl (tE (tR (tM rfl rfl (tV (Val.bin rfl rfl rfl) rfl (tE (At.condT rfl (tR (tM rfl rfl (tA rfl rfl (tE (At.retC (At.thenR (At.ret1 (.inl rfl) rfl rfl rfl (fun w hw => ?_))))))))))))))))))))
  exact ⟨rfl, hw⟩
end Go.Proofs.YtfchinibjhcejaaDoor
namespace Go.Proofs.YtfchinibjhcejaaDoor
open Go Go.Wk
def fenceW (w : Wd) : Wd := if w.mark = 0 then w else ⟨(w.news[w.mark - 1]?).getD w.old, w.news.drop w.mark, 0⟩
def fenceD (σ : Ds) : Ds := { σ with ws := σ.ws.map fenceW }
theorem fenceW_calm {w : Wd} (h : w.mark = 0) : fenceW w = w := if_pos h
theorem fence_good {σ : Ds} (hg : Dgood σ) : Dgood (fenceD σ) :=
  ⟨by simpa [fenceD] using hg.pos, by simpa [fenceD] using hg.len, by simpa [fenceD] using hg.lines, hg.steps, hg.left, fun w hm => by
    obtain ⟨u, hu, rfl⟩ := List.mem_map.1 hm
    have := hg.word u hu
    unfold fenceW
    split
    · exact this
    · simp only [List.length_drop, fenceD]; omega⟩
def FInv (W ws : List Wd) (left : Int → Bool) : Prop := ws.length = W.length ∧ ∀ (k : Nat) w, W[k]? = some w → ws[k]? = some (if left (8 * (k : Int)) then w else fenceW w)
theorem finv_start {σ : Ds} (hg : Dgood σ) (g : Nat → Nat × Value) : FInv σ.ws σ.ws (fun k => (mk σ.ws g k).isSome) := ⟨rfl, fun k w hk => by
  rw [hk]
  congr 1
  show w = if (mk σ.ws g (8 * (k : Int))).isSome = true then w else fenceW w
  rw [mk_at]
  by_cases hn : w.news = []
  · rw [mkN_none hk hn]
    have := (hg.word w (List.mem_of_getElem? hk)).1
    rw [hn] at this
    exact (fenceW_calm (by simpa using this)).symm
  · rw [mkN_some hk hn]; rfl⟩
theorem finv_step {W ws : List Wd} {left left' : Int → Bool} {k : Nat} {wd : Wd} (h : FInv W ws left) (hl : left (8 * (k : Int)) = true) (hk : ws[k]? = some wd) (h1 : left' (8 * (k : Int)) = false) (h2 : ∀ q, q ≠ 8 * (k : Int) → left' q = left q) : FInv W (ws.set k (fenceW wd)) left' := ⟨by simpa using h.1, fun j w hj => by
  by_cases e : j = k
  · subst e
    have := h.2 j w hj
    rw [hl, if_pos rfl, hk] at this
    have := Option.some.inj this
    subst this
    rw [h1, if_neg (by simp), List.getElem?_set_self (List.getElem?_eq_some_iff.1 hk).1]
  · rw [List.getElem?_set_ne (Ne.symm e), h2 _ (by omega)]
    exact h.2 j w hj⟩
theorem finv_end {W ws : List Wd} {left : Int → Bool} (h : FInv W ws left) (hl : ∀ k, left k = false) : ws = W.map fenceW := by
  apply List.ext_getElem?
  intro j
  rw [List.getElem?_map]
  cases hj : W[j]? with
  | none => rw [List.getElem?_eq_none (by have := List.getElem?_eq_none_iff.1 hj; rw [h.1]; exact this)]; rfl
  | some w => rw [h.2 j w hj, hl, if_neg (by simp)]; rfl
theorem finv_word {W ws : List Wd} {left : Int → Bool} {k : Nat} {wd : Wd} (h : FInv W ws left) (hl : left (8 * (k : Int)) = true) (hk : ws[k]? = some wd) : W[k]? = some wd := by
  cases hj : W[k]? with
  | none =>
    have h1 := List.getElem?_eq_none_iff.1 hj
    have h2 := (List.getElem?_eq_some_iff.1 hk).1
    rw [h.1] at h2; omega
  | some w =>
    have := h.2 k w hj
    rw [hl, if_pos rfl, hk] at this
    exact this.symm
theorem flush_d (p : Nat) (γ : Gh) (σ : Ds) (a : Int) (f : Nat) (w : World) (h0 : 0 ≤ a) (hl : a < 8 * (σ.ws.length : Int)) (hf : 8 * (f : Int) = a - a % 64) (hs : σ.steps + 1 ≤ 1099511627776) (hno : deadB σ = false) (hd : (Dev p γ σ).holds w) :
    DevU Tryd.prog 70 [.pointer (some ⟨p, 0, none⟩), .int .i64 a] p γ σ (.int .i64 0) (flushK (stepD σ) f 8) w := by
 refine enterVc hd Tryd.func70 rfl Tryd.ntmps70 rfl ?_
 have hgd := Dev.good hd
 have hln := hgd.len
 have hll := hgd.lines
 have hg1 := dgood_step hgd hs
 have hsl : (stepD σ).ws.length = σ.ws.length := rfl
 have hf8 : f % 8 = 0 := by omega
 simp only [envOf]
 refine tR (tA rfl rfl (tE (At.seq (tR (tM rfl rfl (tM rfl rfl (At.callK 0 rfl (fun w hw hr => has_k _ _ _ _ _ w hr) Tryd.call49 rfl rfl (tV (Val.not rfl) rfl (tE ?_)))))))))
 refine At.cond rfl (fun h1 => ?_) (fun h1 => ?_)
 ·try simp only [hasB, isSizeB, sB] at h1
  omega
 ·try simp only [hasB, isSizeB, sB] at h1
  refine At.skipC (At.thenN (At.seq (tR (tM rfl rfl (At.callD 0 rfl (fun w hw hr => step_d _ _ _ w hs hno hr) Tryd.call68 rfl rfl (fun y2 => ?_))))))
  simp only [sc0, scS]
  refine tA rfl rfl (tE (tR (tM rfl rfl (tV (Val.bin rfl rfl rfl) rfl (tE (At.condF rfl (At.skipC (At.thenN (tR (tM rfl rfl (tM rfl rfl (tV (Val.remI rfl rfl (by omega) (by decide)) rfl (tV (Val.subI rfl rfl (by omega) (by omega)) rfl ?_)))))))))))))
  rw [← hf]
  refine tA rfl rfl (tE (At.seq (At.seq (At.openS 0 rfl ?_))))
  simp only [devL, List.cons_append, List.nil_append, ec0, ecS]
  refine At.region (tM rfl rfl (tA rfl rfl (tE (At.block ?_))))
  skip
  refine At.loop (σ := Nat) (fun j => j ≤ 8) (fun j => [(0, .pointer (some ⟨p, 0, none⟩)), (6, .int .i64 (8 * (f : Int))), (7, .int .i64 (8 * ((f + j : Nat) : Int)))]) (fun j => [blk p tDv [y2.vo, .map (some y2.mb), .int .i64 ((stepD σ).steps : Int), .bool (stepD σ).armed, .int .i64 ((stepD σ).left : Int)], wrow tW y2.vo (olds (stepD σ).ws), mapR y2.mb (mk (flushK (stepD σ) f j).ws y2.g), fam (dI (flushK (stepD σ) f j).ws y2.g), factR (Dgood (stepD σ))]) (fun j => 8 - j) 0 (Nat.zero_le _) (Sub.cons rfl (Sub.cons rfl (Sub.cons rfl Sub.nil))) (List.Perm.refl _) ?_
  intro j hs
  have hfr := flushK_rest (stepD σ) f j
  refine At.seq (tR (tM rfl rfl (tM rfl rfl ?_)))
  first | refine tV (Val.addI rfl rfl (by omega) (by omega)) rfl ?_ | refine tV (Val.bin rfl rfl rfl) rfl ?_
  refine tV (Val.bin rfl rfl rfl) rfl (tE ?_)
  refine At.cond rfl (fun h3 => ?_) (fun h3 => ?_)
  ·try simp only [hasB, isSizeB, sB] at h3
   have hj : j < 8 := by omega
   have hfj : f + j < (stepD σ).ws.length := by omega
   refine At.skipC (At.thenN (At.seq (At.block (tR (tM rfl rfl (tV (Val.nilCheck rfl) rfl (tV (Val.field 1 rfl fo_74_1 rfl) rfl (tV (Val.load (i := 0) Tryd.isAgg72 rfl rfl rfl) rfl (tM rfl rfl (tV (Val.look (i := 2) Tryd.underlying72 Tryd.underlying3 Tryd.zeroValue101 rfl rfl rfl) rfl ?_))))))))))
   obtain ⟨wd, hkw⟩ : ∃ wd, (flushK (stepD σ) f j).ws[f + j]? = some wd := ⟨_, List.getElem?_eq_getElem (by rw [hfr.2.2.2.1]; exact hfj)⟩
   by_cases hn : wd.news = []
   ·rw [mk_at, mkN_none hkw hn]
    refine tA rfl rfl (tE (tR (tM rfl rfl (tV (Val.neNil (t := 101) (by kernel_rfl) rfl) rfl (tE (At.condF rfl (At.skipC (At.blkN (At.thenN (At.region (tM rfl rfl ?_)))))))))))
    first | refine tV (Val.addI rfl rfl (by omega) (by omega)) rfl ?_ | refine tV (Val.bin rfl rfl rfl) rfl ?_
    refine tA rfl rfl (tE ?_)
    exact At.again (j + 1) (show j + 1 ≤ 8 by omega) (by omega) (Sub.cons rfl (Sub.cons rfl (Sub.cons (congrArg (fun z => some (Value.int IntKind.i64 z)) (by omega)) Sub.nil))) (by rw [flushK_nil hg1 hkw hn])
   ·rw [mk_at, mkN_some hkw hn]
    refine tA rfl rfl (tE (tR (tM rfl rfl (tV (Val.neNil (t := 101) (by kernel_rfl) rfl) rfl (tE (At.condT rfl (At.focusD 3 rfl hkw hn ?_)))))))
    simp only [ec0, ecS]
    refine At.region (tM rfl rfl (tM rfl rfl (tV (Val.nilCheck rfl) rfl (tV (Val.field 0 rfl fo_103_0 rfl) rfl (tV (Val.load (i := 0) Tryd.isAgg60 rfl rfl rfl) rfl (tV (Val.lenWin (i := 1) rfl Tryd.underlying60 rfl) rfl (tV (Val.nilCheck rfl) rfl (tV (Val.field 1 rfl fo_103_1 rfl) rfl (At.store (i := 0) Tryd.sizeOf3 rfl rfl rfl rfl (by first | decide | simp) ?_)))))))))
    simp only [sc0, scS]
    refine At.nil ?_
    rw [List.length_map]
    refine At.unfocusD (wd := markW wd) (List.getElem?_eq_some_iff.1 hkw).1 hn ?_
    refine At.rot3 ?_
    rw [← mk_keep (v' := (y2.g (f + j)).2) (wd' := markW wd) hkw hn hn, show upd y2.g (f + j) ((y2.g (f + j)).1, (y2.g (f + j)).2) = y2.g from upd_same _ _, show (flushK (stepD σ) f j).ws.set (f + j) (markW wd) = (flushK (stepD σ) f (j + 1)).ws from by rw [flushK_succ hkw]; rfl]
    refine At.blkN (At.thenN (At.region (tM rfl rfl ?_)))
    first | refine tV (Val.addI rfl rfl (by omega) (by omega)) rfl ?_ | refine tV (Val.bin rfl rfl rfl) rfl ?_
    refine tA rfl rfl (tE ?_)
    exact At.again (j + 1) (show j + 1 ≤ 8 by omega) (by omega) (Sub.cons rfl (Sub.cons rfl (Sub.cons (congrArg (fun z => some (Value.int IntKind.i64 z)) (by omega)) Sub.nil))) (List.Perm.refl _)
  ·try simp only [hasB, isSizeB, sB] at h3
   obtain rfl : j = 8 := by omega
   refine At.exitC (At.thenX (At.thenX (At.blkX (At.thenN (tR (tA rfl rfl (tE (At.retC (At.ret1 (.inl rfl) rfl rfl rfl (fun w hw => ?_))))))))))
   obtain ⟨e1, e2, e3, _, e5⟩ := flushK_rest (stepD σ) f 8
   exact ⟨⟨y2.vo, y2.mb, y2.g⟩, rfl, toDev (F := []) (flushK_good f hg1 8) (hw.drop (show List.Sublist [_, _, _, _] _ from (List.Sublist.refl _ |>.cons _ |>.cons_cons _ |>.cons_cons _ |>.cons_cons _ |>.cons_cons _))) (by rw [e1, e2, e3]) (by rw [e5]) rfl rfl⟩
theorem flush_0 (p : Nat) (γ : Gh) (σ : Ds) (a : Int) (w : World) (h0 : 0 ≤ a) (hl : a < 8 * (σ.ws.length : Int)) (hno : deadB σ = true) (hd : (Dev p γ σ).holds w) :
    Upd Tryd.prog 70 [.pointer (some ⟨p, 0, none⟩), .int .i64 a] (Dev p γ σ) (.int .i64 13) (Dev p γ σ) w := by
 refine enterVc hd Tryd.func70 rfl Tryd.ntmps70 rfl ?_
 have hgd := Dev.good hd
 simp only [envOf]
 refine tR (tA rfl rfl (tE (At.seq (tR (tM rfl rfl (tM rfl rfl (At.callK 0 rfl (fun w hw hr => has_k _ _ _ _ _ w hr) Tryd.call49 rfl rfl (tV (Val.not rfl) rfl (tE ?_)))))))))
 refine At.cond rfl (fun h1 => ?_) (fun h1 => ?_)
 ·try simp only [hasB, isSizeB, sB] at h1
  omega
 ·try simp only [hasB, isSizeB, sB] at h1
  refine At.skipC (At.thenN (At.seq (tR (tM rfl rfl (At.callK 0 rfl (fun w hw hr => step_0 _ _ _ w hno hr) Tryd.call68 rfl rfl (tA rfl rfl (tE (tR (tM rfl rfl (tV (Val.bin rfl rfl rfl) rfl (tE (At.condT rfl (tR (tM rfl rfl (tA rfl rfl (tE (At.retC (At.thenR (At.ret1 (.inl rfl) rfl rfl rfl (fun w hw => ?_))))))))))))))))))))
  exact ⟨rfl, hw⟩
end Go.Proofs.YtfchinibjhcejaaDoor
namespace Go.Proofs.YtfchinibjhcejaaDoor
open Go Go.Wk
theorem fence_d (p : Nat) (γ : Gh) (σ : Ds) (w : World) (hs : σ.steps + 1 ≤ 1099511627776) (hno : deadB σ = false) (hd : (Dev p γ σ).holds w) :
    DevU Tryd.prog 44 [.pointer (some ⟨p, 0, none⟩)] p γ σ (.int .i64 0) (fenceD (stepD σ)) w := by
 refine enterVc hd Tryd.func44 rfl Tryd.ntmps44 rfl ?_
 have hgd := Dev.good hd
 have hln := hgd.len
 have hg1 := dgood_step hgd hs
 have hstp := hg1.steps
 simp only [envOf]
 refine tR (tA rfl rfl (tE (At.seq (tR (tM rfl rfl (At.callD 0 rfl (fun w hw hr => step_d _ _ _ w hs hno hr) Tryd.call68 rfl rfl (fun y1 => ?_)))))))
 simp only [sc0, scS]
 refine tA rfl rfl (tE (tR (tM rfl rfl (tV (Val.bin rfl rfl rfl) rfl (tE (At.condF rfl (At.skipC (At.thenN (At.seq (At.seq (At.openS 0 rfl ?_)))))))))))
 simp only [devL, List.cons_append, List.nil_append, ec0, ecS]
 refine At.region (tM rfl rfl (tV (Val.nilCheck rfl) rfl (tV (Val.field 1 rfl fo_74_1 rfl) rfl (tV (Val.load (i := 0) Tryd.isAgg72 rfl rfl rfl) rfl (At.range (i := 2) Tryd.underlying72 rfl rfl rfl (fun r2 cnt3 => ?_))))))
 simp only [sc0, scS]
 refine tE (At.block ?_)
 skip
 refine At.loop (σ := (List Wd × (Nat → Nat × Value)) × (Int → Bool) × Option (Int × Value) × Nat) (fun s => FInv (stepD σ).ws s.1.1 s.2.1) (fun s => [(0, .pointer (some ⟨p, 0, none⟩)), (15, .pointer (some ⟨r2, 0, none⟩))]) (fun s => [blk p tDv [y1.vo, .map (some y1.mb), .int .i64 ((stepD σ).steps : Int), .bool (stepD σ).armed, .int .i64 ((stepD σ).left : Int)], wrow tW y1.vo (olds s.1.1), iterR y1.mb r2 (mk s.1.1 s.1.2) s.2.1 s.2.2.1 s.2.2.2, fam (dI s.1.1 s.1.2), factR (Dgood (stepD σ))]) (fun s => s.2.2.2) (((stepD σ).ws, y1.g), (fun k => (mk (stepD σ).ws y1.g k).isSome), none, cnt3) (finv_start hg1 _) (Sub.cons rfl (Sub.cons rfl Sub.nil)) (List.Perm.refl _) ?_
 intro s hs
 obtain ⟨⟨ws, g⟩, left, cur, cnt⟩ := s
 dsimp only at hs ⊢
 refine tR ?_
 refine At.next (i := 2) rfl rfl rfl (fun hl => ?_) (fun x v cn hl hf hcn => ?_)
 skip
 ·refine tV (Val.extract rfl rfl) rfl (tE (At.seq (At.condF rfl (At.exitC (At.thenX (At.thenX (At.blkX (At.thenN (At.seq (At.iterEnd 2 rfl ?_))))))))))
  simp only [sc0, scS]
  refine At.region (tA rfl rfl (tE (At.retC (At.ret1 (.inl rfl) rfl rfl rfl (fun w hw => ?_)))))
  exact ⟨⟨y1.vo, y1.mb, g⟩, rfl, toDev (F := []) (fence_good hg1) (hw.drop (show List.Sublist [_, _, _, _] _ from (List.Sublist.refl _ |>.cons _ |>.cons_cons _ |>.cons_cons _ |>.cons_cons _ |>.cons_cons _))) rfl (by rw [finv_end hs hl]; rfl) (by rw [finv_end hs hl]; rfl) (by rw [finv_end hs hl]; rfl)⟩
 ·simp only [sc0, scS]
  obtain ⟨k, wd, rfl, hk, hn, rfl⟩ := mk_inv hf
  have hwk := finv_word hs hl hk
  have hwd := hg1.word wd (List.mem_of_getElem? hwk)
  have hkl := (List.getElem?_eq_some_iff.1 hk).1
  have hlen := hs.1
  have hsl : (stepD σ).ws.length = σ.ws.length := rfl
  refine tV (Val.extract rfl rfl) rfl (tE (At.seq (At.condT rfl (At.skipC (At.thenN (At.block (tR (tV (Val.entry (i := 2) rfl rfl) rfl (tV (Val.extract rfl rfl) rfl (tV (Val.extract rfl rfl) rfl (tA rfl rfl (tA rfl rfl (tE (At.seq (tR (tM rfl rfl (tV (Val.nilCheck rfl) rfl (tV (Val.field 1 rfl fo_103_1 rfl) rfl (tV (Val.loadDbt (i := 3) (q := 1) Tryd.isAgg3 rfl rfl hk hn rfl) rfl (tV (Val.bin rfl rfl rfl) rfl (tE ?_)))))))))))))))))))))
  refine At.cond rfl (fun h4 => ?_) (fun h4 => ?_)
  ·try simp only [hasB, isSizeB, sB] at h4
   have fz : ws.set k (fenceW wd) = ws := by rw [fenceW_calm (by omega)]; exact set_get hk
   refine At.exitC (At.thenX (At.blkX (At.thenN ?_)))
   exact At.again ((ws.set k (fenceW wd), g), (fun q => left q && q != 8 * (k : Int)), some (8 * (k : Int), .pointer (some ⟨(g k).1, 0, none⟩)), cn) (finv_step hs hl hk (by simp) (fun q hq => by simp [hq])) (show cn < cnt by omega) (Sub.cons rfl (Sub.cons rfl Sub.nil)) (by rw [fz])
  ·try simp only [hasB, isSizeB, sB] at h4
   refine At.skipC (At.thenN (At.seq ?_))
   have fz : fenceW wd = ⟨(wd.news[wd.mark - 1]?).getD wd.old, wd.news.drop wd.mark, 0⟩ := if_neg (by omega)
   obtain ⟨z, hz⟩ : ∃ z, wd.news[wd.mark - 1]? = some z := ⟨_, List.getElem?_eq_getElem (by omega)⟩
   rw [hz, Option.getD_some] at fz
   refine At.dbtSome 3 rfl hk hn (fun b o c hv => (At.dbtCap 3 rfl hk hn hv (fun hcap => (At.tail 18 rfl (by decide +kernel) ?_))))
   simp only [List.take_succ_cons, List.take_zero, List.drop_succ_cons, List.drop_zero]
   refine qM rfl rfl (qV (Val.nilCheck rfl) rfl (qV (Val.field 0 rfl fo_74_0 rfl) rfl (qV (Val.load (i := 0) Tryd.isAgg60 rfl rfl rfl) rfl (qM rfl rfl (qV (Val.quoI rfl rfl (by omega) (by omega) (by decide)) rfl ?_)))))
   rw [show 8 * (k : Int) / 8 = (k : Int) from by omega]
   refine qM rfl rfl (qV (Val.nilCheck rfl) rfl (qV (Val.field 0 rfl fo_103_0 rfl) rfl (qV (Val.loadDbt (i := 3) (q := 0) Tryd.isAgg60 rfl rfl hk hn rfl) rfl (qM rfl rfl (qV (Val.nilCheck rfl) rfl (qV (Val.field 1 rfl fo_103_1 rfl) rfl (qV (Val.loadDbt (i := 3) (q := 1) Tryd.isAgg3 rfl rfl hk hn rfl) rfl (qV (Val.subI rfl rfl (by omega) (by omega)) rfl ?_))))))))
   rw [hv]
   refine qV (Val.indexSl (o + (wd.mark - 1)) (by omega) Tryd.underlying60 Tryd.sizeOf38 rfl rfl (by omega) (by omega)) rfl (qV (Val.loadNews (i := 3) Tryd.isAgg38 rfl rfl hk hn hv rfl hz) rfl ?_)
   refine qV (Val.indexRow (i := 1) k (by omega) Tryd.underlying60 Tryd.sizeOf38 rfl rfl rfl (by omega) (by rw [olds_length]; omega)) rfl (QAt.fin ?_)
   refine At.storeRow (i := 1) Tryd.sizeOf38 rfl rfl rfl rfl (by rw [List.length_map, olds_length]; exact hkl) ?_
   simp only [sc0, scS]
   rw [← List.map_set, show (olds ws).set k z = olds (ws.set k (fenceW wd)) from by rw [olds_set, fz], show (olds ws).length = (olds (ws.set k (fenceW wd))).length from by rw [olds_length, olds_length, List.length_set]]
   refine tE (At.seq (At.focusD 3 rfl hk hn ?_))
   simp only [ec0, ecS]
   rw [hv]
   refine At.tail 12 rfl (by decide +kernel) ?_
   simp only [List.take_succ_cons, List.take_zero, List.drop_succ_cons, List.drop_zero]
   refine qM rfl rfl (qM rfl rfl (qV (Val.nilCheck rfl) rfl (qV (Val.field 0 rfl fo_103_0 rfl) rfl (qV (Val.load (i := 0) Tryd.isAgg60 rfl rfl rfl) rfl (qM rfl rfl (qV (Val.nilCheck rfl) rfl (qV (Val.field 1 rfl fo_103_1 rfl) rfl (qV (Val.load (i := 0) Tryd.isAgg3 rfl rfl rfl) rfl (qV (Val.cutSl wd.mark wd.news.length _ _ _ Tryd.underlying60 Tryd.sizeOf38 rfl ⟨_, _, rfl, by omega, by omega⟩ rfl (by omega) hcap rfl rfl rfl) rfl (qV (Val.nilCheck rfl) rfl (qV (Val.field 0 rfl fo_103_0 rfl) rfl (QAt.fin (At.store (i := 0) Tryd.sizeOf60 rfl rfl rfl rfl (by simp) ?_)))))))))))))
   simp only [sc0, scS]
   refine At.nil ?_
   refine At.winCut 1 wd.mark rfl (by rw [List.length_map]; omega) ?_
   simp only [sc0, scS]
   rw [← List.map_drop]
   refine At.thenN (tR (tM rfl rfl (tV (Val.nilCheck rfl) rfl (tV (Val.field 1 rfl fo_103_1 rfl) rfl (At.store (i := 0) Tryd.sizeOf3 rfl rfl rfl rfl (by simp) ?_)))))
   simp only [sc0, scS]
   refine tE (tR (tM rfl rfl (tV (Val.nilCheck rfl) rfl (tV (Val.field 0 rfl fo_103_0 rfl) rfl (tV (Val.load (i := 0) Tryd.isAgg60 rfl rfl rfl) rfl (tV (Val.len (bt := #[]) Tryd.underlying60 rfl) rfl (tV (Val.bin rfl rfl rfl) rfl (tE ?_))))))))
   refine At.cond rfl (fun h5 => ?_) (fun h5 => ?_)
   ·try simp only [hasB, isSizeB, sB] at h5
    refine At.region (tM rfl rfl (tV (Val.nilCheck rfl) rfl (tV (Val.field 1 rfl fo_74_1 rfl) rfl (tV (Val.load (i := 3) Tryd.isAgg72 rfl rfl rfl) rfl (tM rfl rfl (At.delIt (i := 5) Tryd.underlying72 Tryd.underlying3 rfl rfl rfl (fun cn6 hc7 => ?_)))))))
    simp only [sc0, scS]
    refine At.nil ?_
    have hdn : (fenceW wd).news = [] := by rw [fz]; exact List.drop_eq_nil_of_le (by omega)
    refine At.dropD (wd := fenceW wd) hkl hdn (At.rot3 ?_)
    rw [← mk_drop (g := g) hkl hdn]
    refine At.blkN (At.thenN ?_)
    exact At.again ((ws.set k (fenceW wd), g), (fun q => (left q && q != 8 * (k : Int)) && q != 8 * (k : Int)), none, cn6) (finv_step hs hl hk (by simp) (fun q hq => by simp [hq])) (show cn6 < cnt by omega) (Sub.cons rfl (Sub.cons rfl Sub.nil)) (List.Perm.refl _)
   ·try simp only [hasB, isSizeB, sB] at h5
    have hdn : (fenceW wd).news ≠ [] := by rw [fz]; exact fun e => by have := congrArg List.length e; simp at this; omega
    rw [show wd.news.drop wd.mark = (fenceW wd).news from by rw [fz]]
    refine At.unfocusZ (wd := fenceW wd) (by rw [fz]) hkl hdn (At.rot3 ?_)
    rw [← mk_keep (v' := .slice (some ⟨b, if c = wd.mark then o else o + wd.mark * 1, none⟩) (wd.news.length - wd.mark) (c - wd.mark)) hk hn hdn]
    refine At.skipC (At.blkN (At.thenN ?_))
    exact At.again ((ws.set k (fenceW wd), upd g k ((g k).1, (.slice (some ⟨b, if c = wd.mark then o else o + wd.mark * 1, none⟩) (wd.news.length - wd.mark) (c - wd.mark)))), (fun q => left q && q != 8 * (k : Int)), some (8 * (k : Int), .pointer (some ⟨(g k).1, 0, none⟩)), cn) (finv_step hs hl hk (by simp) (fun q hq => by simp [hq])) (show cn < cnt by omega) (Sub.cons rfl (Sub.cons rfl Sub.nil)) (List.Perm.refl _)
theorem fence_0 (p : Nat) (γ : Gh) (σ : Ds) (w : World) (hno : deadB σ = true) (hd : (Dev p γ σ).holds w) :
    Upd Tryd.prog 44 [.pointer (some ⟨p, 0, none⟩)] (Dev p γ σ) (.int .i64 13) (Dev p γ σ) w := by
 refine enterVc hd Tryd.func44 rfl Tryd.ntmps44 rfl ?_
 have hgd := Dev.good hd
 simp only [envOf]
 refine tR (tA rfl rfl (tE (At.seq (tR (tM rfl rfl (At.callK 0 rfl (fun w hw hr => step_0 _ _ _ w hno hr) Tryd.call68 rfl rfl (tA rfl rfl (tE (tR (tM rfl rfl (tV (Val.bin rfl rfl rfl) rfl (tE (At.condT rfl (tR (tM rfl rfl (tA rfl rfl (tE (At.retC (At.thenR (At.ret1 (.inl rfl) rfl rfl rfl (fun w hw => ?_)))))))))))))))))))))
 exact ⟨rfl, hw⟩
end Go.Proofs.YtfchinibjhcejaaDoor
namespace Go.Proofs.YtfchinibjhcejaaDoor
open Go Go.Wk
def lineD (σ : Ds) (l : Nat) : Ds := flushK (stepD σ) (8 * l) 8
def linesE : Nat → Ds → Nat → Int × Ds
  | _, σ, 0 => (0, σ)
  | l, σ, k + 1 => if deadB σ = true then (13, σ) else linesE (l + 1) (lineD σ l) k
theorem linesE_dead {l k : Nat} {σ : Ds} (h : deadB σ = true) : linesE l σ (k + 1) = (13, σ) := by unfold linesE; rw [if_pos h]
theorem linesE_live {l k : Nat} {σ : Ds} (h : deadB σ = false) : linesE l σ (k + 1) = linesE (l + 1) (lineD σ l) k := by
  show (if deadB σ = true then (13, σ) else linesE (l + 1) (lineD σ l) k) = _
  rw [if_neg (by rw [h]; simp)]
theorem lineD_rest (σ : Ds) (l : Nat) : (lineD σ l).steps = σ.steps + 1 ∧ (lineD σ l).armed = σ.armed ∧ (lineD σ l).ws.length = σ.ws.length := by
  obtain ⟨h1, h2, _, h4, _⟩ := flushK_rest (stepD σ) (8 * l) 8
  exact ⟨h1, h2, h4⟩
def storeD (σ : Ds) (k : Nat) (x : BitVec 64) : Ds := match σ.ws[k]? with | some w => setD (stepD σ) k (pushW w x) | none => σ
def storesE : Nat → Ds → List (BitVec 64) → Int × Ds
  | _, σ, [] => (0, σ)
  | k, σ, x :: l => if deadB σ = true then (13, σ) else storesE (k + 1) (storeD σ k x) l
theorem storesE_dead {k : Nat} {σ : Ds} {x : BitVec 64} {l : List (BitVec 64)} (h : deadB σ = true) : storesE k σ (x :: l) = (13, σ) := by unfold storesE; rw [if_pos h]
theorem storesE_live {k : Nat} {σ : Ds} {x : BitVec 64} {l : List (BitVec 64)} (h : deadB σ = false) : storesE k σ (x :: l) = storesE (k + 1) (storeD σ k x) l := by
  show (if deadB σ = true then (13, σ) else storesE (k + 1) (storeD σ k x) l) = _
  rw [if_neg (by rw [h]; simp)]
theorem storeD_some {σ : Ds} {k : Nat} {x : BitVec 64} {w : Wd} (h : σ.ws[k]? = some w) : storeD σ k x = setD (stepD σ) k (pushW w x) := by unfold storeD; rw [h]
theorem storeD_rest {σ : Ds} {k : Nat} (x : BitVec 64) (h : k < σ.ws.length) : (storeD σ k x).steps = σ.steps + 1 ∧ (storeD σ k x).armed = σ.armed ∧ (storeD σ k x).ws.length = σ.ws.length := by
  rw [storeD_some (List.getElem?_eq_getElem h)]
  exact ⟨rfl, rfl, by simp [setD, stepD]⟩
def cntP (a n cnt : Nat) : Prop := (n = 0 → cnt = 0) ∧ (0 < n → cnt = (a + n - 1) / 64 + 1 - a / 64)
def cntL (a n : Nat) : Nat := if n = 0 then 0 else (a + n - 1) / 64 + 1 - a / 64
theorem cntL_P (a n : Nat) : cntP a n (cntL a n) := ⟨fun h => by unfold cntL; rw [if_pos h], fun h => by unfold cntL; rw [if_neg (by omega)]⟩
theorem drop_cons {l : List (BitVec 64)} {j : Nat} {x : BitVec 64} (h : l[j]? = some x) : l.drop j = x :: l.drop (j + 1) := by
  have hj := List.getElem?_eq_some_iff.1 h
  rw [List.drop_eq_getElem_cons hj.1, hj.2]
theorem place_at' {σ : Ds} {a : Int} (h0 : 0 ≤ a) (h1 : a < 8 * (σ.ws.length : Int)) (h8 : a % 8 = 0) : placeE σ a = 0 := by
  obtain ⟨k, rfl⟩ : ∃ k : Nat, a = 8 * (k : Int) := ⟨(a / 8).toNat, by omega⟩
  exact place_at (by omega)
theorem flushAll_d (p : Nat) (γ : Gh) (σ : Ds) (a n cnt : Nat) (w : World) (han : a + n ≤ 8 * σ.ws.length) (hct : cntP a n cnt) (hst : σ.steps + cnt ≤ 1099511627776) (hd : (Dev p γ σ).holds w) :
    DevU Tryd.prog 43 [.pointer (some ⟨p, 0, none⟩), .int .i64 (a : Int), .int .i64 (n : Int)] p γ σ (.int .i64 (linesE (a / 64) σ cnt).1) (linesE (a / 64) σ cnt).2 w := by
 refine enterVc hd Tryd.func43 rfl Tryd.ntmps43 rfl ?_
 have hgd := Dev.good hd
 have hln := hgd.len
 obtain ⟨hc0, hc1⟩ := hct
 simp only [envOf]
 refine tR (tA rfl rfl (tE (At.seq (tR (tM rfl rfl (tM rfl rfl (tM rfl rfl (At.callK 0 rfl (fun w hw hr => has_k _ _ _ _ _ w hr) Tryd.call49 rfl rfl (tV (Val.not rfl) rfl (tE ?_))))))))))
 refine At.cond rfl (fun h1 => ?_) (fun h1 => ?_)
 ·try simp only [hasB, isSizeB, sB] at h1
  omega
 ·try simp only [hasB, isSizeB, sB] at h1
  refine At.skipC (At.thenN (At.seq (tR (tM rfl rfl (tM rfl rfl ?_)))))
  first | refine tV (Val.remI rfl rfl (by omega) (by decide)) rfl ?_ | refine tV (Val.rem rfl rfl (by decide)) rfl ?_
  first | refine tV (Val.subI rfl rfl (by omega) (by omega)) rfl ?_ | refine tV (Val.bin rfl rfl rfl) rfl ?_
  refine tA rfl rfl (tE (At.block ?_))
  skip
  refine At.loop (σ := (Nat × Ds) × Gh) (fun s => s.1.1 ≤ cnt ∧ linesE (a / 64) σ cnt = linesE (a / 64 + s.1.1) s.1.2 (cnt - s.1.1) ∧ s.1.2.ws.length = σ.ws.length ∧ s.1.2.steps = σ.steps + s.1.1) (fun s => [(0, .pointer (some ⟨p, 0, none⟩)), (1, .int .i64 (a : Int)), (2, .int .i64 (n : Int)), (7, .int .i64 (64 * (((a / 64 : Nat) : Int) + (s.1.1 : Int))))]) (fun s => [Dev p s.2 s.1.2]) (fun s => cnt - s.1.1) ((0, σ), γ) ⟨Nat.zero_le _, rfl, rfl, rfl⟩ (Sub.cons rfl (Sub.cons rfl (Sub.cons rfl (Sub.cons (congrArg (fun z => some (Value.int IntKind.i64 z)) (by dsimp only; omega)) Sub.nil)))) (List.Perm.refl _) ?_
  intro s hs
  obtain ⟨⟨j, σ1⟩, γ1⟩ := s
  dsimp only at hs ⊢
  obtain ⟨hj, he, hl1, hs1⟩ := hs
  refine At.seq (tR (tM rfl rfl (tM rfl rfl (tM rfl rfl ?_))))
  first | refine tV (Val.addI rfl rfl (by omega) (by omega)) rfl ?_ | refine tV (Val.bin rfl rfl rfl) rfl ?_
  refine tV (Val.bin rfl rfl rfl) rfl (At.weaken [(0, _), (1, _), (2, _), (7, _), (22, _)] (Sub.cons rfl (Sub.cons rfl (Sub.cons rfl (Sub.cons rfl (Sub.cons rfl Sub.nil))))) ?_)
  refine At.boolMeet 4 26 (decide (j < cnt)) ?_ ?_
  ·simp only [List.take_succ_cons, List.take_zero]
   refine tM rfl rfl ?_
   refine At.split (t := 23) rfl (fun h2 => ?_) (fun h2 => ?_)
   ·try simp only [hasB, isSizeB, sB] at h2
    refine At.yes rfl rfl (tM rfl rfl (At.yes rfl rfl (tV (Val.bin rfl rfl rfl) rfl (tV (Val.pickT rfl rfl) rfl (At.nil ?_)))))
    exact At.boolEnd rfl (by apply Bool.eq_iff_iff.2; (simp only [decide_eq_true_eq, Bool.false_eq_true, false_iff, true_iff, gt_iff_lt, ge_iff_le]) <;> omega) (by repeat (first | exact Sub.nil | refine Sub.cons rfl ?_))
   ·try simp only [hasB, isSizeB, sB] at h2
    refine At.no rfl rfl rfl rfl (At.no rfl rfl rfl rfl (tV (Val.pickF rfl rfl) rfl (At.nil ?_)))
    exact At.boolEnd rfl (by apply Bool.eq_iff_iff.2; (simp only [decide_eq_true_eq, Bool.false_eq_true, false_iff, true_iff, gt_iff_lt, ge_iff_le]) <;> omega) (by repeat (first | exact Sub.nil | refine Sub.cons rfl ?_))
  ·simp only [List.drop_succ_cons, List.drop_zero]
   refine tE ?_
   refine At.cond rfl (fun h3 => ?_) (fun h3 => ?_)
   ·try simp only [hasB, isSizeB, sB] at h3
    refine At.skipC (At.thenN (At.seq (At.block (tR (tM rfl rfl (tM rfl rfl ?_))))))
    cases hdb : deadB σ1
    ·refine At.callD 0 rfl (fun w hw hr => flush_d _ _ _ (64 * ((a / 64 : Nat) + j)) (8 * (a / 64 + j)) w (by omega) (by omega) (by omega) (by omega) hdb hr) Tryd.call70 rfl rfl (fun y4 => ?_)
     simp only [sc0, scS]
     refine tA rfl rfl (tE (tR (tM rfl rfl (tV (Val.bin rfl rfl rfl) rfl (tE (At.condF rfl (At.skipC (At.blkN (At.thenN (At.region (tM rfl rfl ?_)))))))))))
     first | refine tV (Val.addI rfl rfl (by omega) (by omega)) rfl ?_ | refine tV (Val.bin rfl rfl rfl) rfl ?_
     refine tA rfl rfl (tE ?_)
     exact At.again ((j + 1, lineD σ1 (a / 64 + j)), y4) ⟨(show j + 1 ≤ cnt by omega), (by rw [he, show cnt - j = (cnt - (j + 1)) + 1 by omega, linesE_live hdb]; rfl), (lineD_rest σ1 _).2.2.trans hl1, (show (lineD σ1 (a / 64 + j)).steps = σ.steps + (j + 1) by have := (lineD_rest σ1 (a / 64 + j)).1; omega)⟩ (by dsimp only; omega) (Sub.cons rfl (Sub.cons rfl (Sub.cons rfl (Sub.cons (congrArg (fun z => some (Value.int IntKind.i64 z)) (by dsimp only; omega)) Sub.nil)))) (List.Perm.refl _)
    ·refine At.callK 0 rfl (fun w hw hr => flush_0 _ _ _ _ w (by omega) (by omega) hdb hr) Tryd.call70 rfl rfl (tA rfl rfl (tE (tR (tM rfl rfl (tV (Val.bin rfl rfl rfl) rfl (tE (At.condT rfl (tR (tM rfl rfl (tA rfl rfl (tE (At.retC (At.blkR (At.thenR (At.thenR (At.blkR (At.thenR (At.ret1 (.inl rfl) rfl rfl rfl (fun w hw => ?_)))))))))))))))))))
     rw [he, show cnt - j = (cnt - j - 1) + 1 by omega, linesE_dead hdb]
     exact ⟨_, rfl, hw⟩
   ·try simp only [hasB, isSizeB, sB] at h3
    refine At.exitC (At.thenX (At.thenX (At.blkX (At.thenN (tR (tA rfl rfl (tE (At.retC (At.ret1 (.inl rfl) rfl rfl rfl (fun w hw => ?_))))))))))
    rw [he, show cnt - j = 0 by omega]
    exact ⟨_, rfl, hw⟩
end Go.Proofs.YtfchinibjhcejaaDoor
namespace Go.Proofs.YtfchinibjhcejaaDoor
open Go Go.Shelf Go.Sort Go.RowKit Go.Proofs
def sort_ren : Go.Shelf.Ren := ⟨fun | 125 => 79 | 128 => 91 | 129 => 92 | 189 => 71 | 215 => 99 | 216 => 88 | 257 => 78 | 294 => 82 | 295 => 83 | 296 => 84 | 297 => 85 | 298 => 86 | 299 => 87 | 300 => 89 | 301 => 90 | 328 => 94 | 329 => 95 | 330 => 96 | 331 => 97 | 332 => 98 | 343 => 100 | n => n, fun | 0 => 0 | 3 => 3 | 4 => 4 | 5 => 5 | 9 => 9 | 28 => 44 | 46 => 99 | 51 => 68 | 53 => 38 | 131 => 146 | 182 => 141 | 183 => 142 | 218 => 150 | 222 => 154 | 228 => 156 | 229 => 157 | n => n, fun n => n⟩
theorem sort_lays : Lays.n189 Tryd.prog sort_ren := {
  mixed := by kernel_rfl
  f125 := Tryd.func79.trans (congrArg some (by kernel_rfl))
  f128 := Tryd.func91.trans (congrArg some (by kernel_rfl))
  f129 := Tryd.func92.trans (congrArg some (by kernel_rfl))
  f189 := Tryd.func71.trans (congrArg some (by kernel_rfl))
  f215 := Tryd.func99.trans (congrArg some (by kernel_rfl))
  f216 := Tryd.func88.trans (congrArg some (by kernel_rfl))
  f257 := Tryd.func78.trans (congrArg some (by kernel_rfl))
  f294 := Tryd.func82.trans (congrArg some (by kernel_rfl))
  f295 := Tryd.func83.trans (congrArg some (by kernel_rfl))
  f296 := Tryd.func84.trans (congrArg some (by kernel_rfl))
  f297 := Tryd.func85.trans (congrArg some (by kernel_rfl))
  f298 := Tryd.func86.trans (congrArg some (by kernel_rfl))
  f299 := Tryd.func87.trans (congrArg some (by kernel_rfl))
  f300 := Tryd.func89.trans (congrArg some (by kernel_rfl))
  f301 := Tryd.func90.trans (congrArg some (by kernel_rfl))
  f328 := Tryd.func94.trans (congrArg some (by kernel_rfl))
  f329 := Tryd.func95.trans (congrArg some (by kernel_rfl))
  f330 := Tryd.func96.trans (congrArg some (by kernel_rfl))
  f331 := Tryd.func97.trans (congrArg some (by kernel_rfl))
  f332 := Tryd.func98.trans (congrArg some (by kernel_rfl))
  f343 := Tryd.func100.trans (congrArg some (by kernel_rfl))
  t0 := Tryd.underlying0
  a0 := Tryd.isAgg0
  z0 := Tryd.sizeOf0
  v0 := Tryd.zeroValue0
  t3 := Tryd.underlying3
  a3 := Tryd.isAgg3
  z3 := Tryd.sizeOf3
  v3 := Tryd.zeroValue3
  t4 := Tryd.underlying4
  a4 := Tryd.isAgg4
  z4 := Tryd.sizeOf4
  v4 := Tryd.zeroValue4
  t5 := Tryd.underlying5
  a5 := Tryd.isAgg5
  z5 := Tryd.sizeOf5
  v5 := Tryd.zeroValue5
  t9 := Tryd.underlying9
  a9 := Tryd.isAgg9
  z9 := Tryd.sizeOf9
  v9 := Tryd.zeroValue9
  t28 := Tryd.underlying44
  a28 := Tryd.isAgg44
  z28 := Tryd.sizeOf44
  v28 := Tryd.zeroValue44
  t46 := Tryd.underlying99
  a46 := Tryd.isAgg99
  z46 := Tryd.sizeOf99
  v46 := Tryd.zeroValue99
  t51 := Tryd.underlying68
  a51 := Tryd.isAgg68
  z51 := Tryd.sizeOf68
  v51 := Tryd.zeroValue68
  t53 := Tryd.underlying38
  a53 := Tryd.isAgg38
  z53 := Tryd.sizeOf38
  v53 := Tryd.zeroValue38
  t131 := Tryd.underlying146
  a131 := Tryd.isAgg146
  z131 := Tryd.sizeOf146
  v131 := Tryd.zeroValue146
  t182 := Tryd.underlying141
  a182 := Tryd.isAgg141
  z182 := Tryd.sizeOf141
  v182 := Tryd.zeroValue141
  t183 := Tryd.underlying142
  a183 := Tryd.isAgg142
  z183 := Tryd.sizeOf142
  v183 := Tryd.zeroValue142
  t218 := Tryd.underlying150
  a218 := Tryd.isAgg150
  z218 := Tryd.sizeOf150
  v218 := Tryd.zeroValue150
  t222 := Tryd.underlying154
  a222 := Tryd.isAgg154
  z222 := Tryd.sizeOf154
  v222 := Tryd.zeroValue154
  t228 := Tryd.underlying156
  a228 := Tryd.isAgg156
  z228 := Tryd.sizeOf156
  v228 := Tryd.zeroValue156
  t229 := Tryd.underlying157
  a229 := Tryd.isAgg157
  z229 := Tryd.sizeOf157
  v229 := Tryd.zeroValue157 }
theorem sort_ints (blk off cap : Nat) (zs : List Int) (w : World) (hH : Holds (Value.int .i64) w blk off zs.toArray) (hblk : blk < w.heap.size) (hsz : zs.length < 4611686018427387904) :
    Calls Tryd.prog 71 #[.slice (some ⟨blk, off, none⟩) zs.length cap] w fun e w' =>
      e = .returned (.tuple #[]) ∧ ∃ n os, w' = grow (putRow (Value.int .i64) (Sort.ahead w n) blk off (zs.mergeSort fun x y => decide (x ≤ y)).toArray) os :=
  Any.slices_Sort_int sort_lays blk off cap zs w hH hblk hsz
theorem bits_len (x : Int) (w : World) (h0 : 0 ≤ x) (h1 : x ≤ 18446744073709551615) : Calls Tryd.prog 79 #[.int .u64 x] w fun e w' => e = .returned (.int .i64 (Lib.bitLen x.toNat)) ∧ w' = w :=
  Go.calls_of_every_depth fun D => AnyS.bits_LenIn { sort_lays with } D x w h0 h1
end Go.Proofs.YtfchinibjhcejaaDoor
namespace Go.Proofs.YtfchinibjhcejaaDoor
open Go Go.Wk
abbrev irow (e : Nat) (v : Value) (l : List Int) : Res := rowR v e 1 l.length (l.map (Value.int .i64))
theorem At.rowNilI {Γ : Ctx} {E : Env} {H : List Res} (e : Nat) {φ : Act → World → Prop} (k : At Γ E (irow e (.slice none 0 0) [] :: H) φ) : At Γ E H φ := At.rowNil e 1 k
theorem At.appendI1 {P : Program} {Γ : Ctx} {E : Env} {H : List Res} {ops : Array Oper} {Q : Exit → Act → World → Prop} {rest : List Oper} {d : Nat} {ty : TypeId} {pos : String} {after : Array Edge} {x y : Operand} {v : Value} {i j t e by_ b U : Nat} {ti : TypeInfo} {z : Value} {l : List Int} {c : Int} (ht : P.underlying t = some (.slice e)) (hti : P.info? e = some ti) (hz : ti.zero = some z) (hsize : ti.size = 1) (hby : ti.bytes = by_) (hzs : z.cells.size = 1)
    (hx : ev E x = some v) (hy : ev E y = some (.slice (some ⟨b, 0, none⟩) 1 1)) (hi : H[i]? = some (irow e v l)) (hj : H[j]? = some (blk b U [.int .i64 c])) (h63 : (l.length + 1) * by_ ≤ 140737488355328) (h64 : l.length + 1 ≤ 140737488355328) (hn : Nat.blt d Γ.n = true)
    (k : ∀ v', At Γ ((d, v') :: E) (H.set i (irow e v' (l ++ [c]))) (wpList P ops Q rest)) :
    At Γ E H (wpList P ops Q ({ dst := some d, op := .call { callee := .builtin .append, args := #[x, y], argTypes := #[t, t] }, type := ty, pos, after, guard := none } :: rest)) :=
  At.append (i := i) (ys := [.int .i64 c]) ht hti hz hsize hby hzs rfl hx hy hi rfl (fun w hw j' u hj' => by rw [Nat.zero_add]; exact ((hw.blk hj).cell j').trans hj') (by simp [Value.oneCell']) h63 h64 hn fun v' => by
    have := k v'
    simpa only [irow, List.map_append, List.map_cons, List.map_nil, List.length_append, List.length_cons, List.length_nil, Nat.zero_add] using this
theorem ins_nil (w : World) :
    PureC Tryd.prog 82 [.slice none 0 0, .int .i64 0, .int .i64 0] (.tuple #[]) w := by
 refine enter0 Tryd.func82 rfl Tryd.ntmps82 rfl ?_
 simp only [envOf]
 refine tR (tM rfl rfl ?_)
 first | refine tV (Val.addI rfl rfl (by omega) (by omega)) rfl ?_ | refine tV (Val.bin rfl rfl rfl) rfl ?_
 refine tA rfl rfl (tE (At.block ?_))
 skip
 refine At.loop (σ := Unit) (fun u => True) (fun u => [(2, .int .i64 0), (6, .int .i64 1)]) (fun u => []) (fun u => 0) () trivial (Sub.cons rfl (Sub.cons rfl Sub.nil)) (List.Perm.refl _) ?_
 intro u hs
 refine At.seq (tR (tM rfl rfl (tM rfl rfl (tV (Val.bin rfl rfl rfl) rfl (tE ?_)))))
 refine At.cond rfl (fun h1 => ?_) (fun h1 => ?_)
 ·try simp only [hasB, isSizeB, sB] at h1
  omega
 ·try simp only [hasB, isSizeB, sB] at h1
  refine At.exitC (At.thenX (At.thenX (At.blkX (At.ret0 (.inr rfl) rfl rfl  (fun w hw => ?_)))))
  exact ⟨rfl, hw.mod⟩
theorem pdq_nil (k : Int) (w : World) :
    PureC Tryd.prog 78 [.slice none 0 0, .int .i64 0, .int .i64 0, .int .i64 k] (.tuple #[]) w := by
 refine enter0 Tryd.func78 rfl Tryd.ntmps78 rfl ?_
 simp only [envOf]
 refine tR (tA rfl rfl (tE (tR (tA rfl rfl (tE (At.block ?_))))))
 skip
 refine At.loop (σ := Unit) (fun u => True) (fun u => [(0, .slice none 0 0), (1, .int .i64 0), (2, .int .i64 0)]) (fun u => []) (fun u => 0) () trivial (Sub.cons rfl (Sub.cons rfl (Sub.cons rfl Sub.nil))) (List.Perm.refl _) ?_
 intro u hs
 refine At.block (tR (tM rfl rfl (tM rfl rfl ?_)))
 first | refine tV (Val.subI rfl rfl (by omega) (by omega)) rfl ?_ | refine tV (Val.bin rfl rfl rfl) rfl ?_
 refine tA rfl rfl (tE (At.seq (tR (tM rfl rfl (tV (Val.bin rfl rfl rfl) rfl (tE ?_))))))
 refine At.cond rfl (fun h1 => ?_) (fun h1 => ?_)
 ·try simp only [hasB, isSizeB, sB] at h1
  refine tR (tM rfl rfl (tM rfl rfl (tM rfl rfl (At.callP (fun w hw => ins_nil w) Tryd.call82 rfl rfl (tE (At.retC (At.thenR (At.blkR (At.thenR (At.blkR (At.ret0 (.inl rfl) rfl rfl  (fun w hw => ?_))))))))))))
  exact ⟨rfl, hw.mod⟩
 ·try simp only [hasB, isSizeB, sB] at h1
  omega
theorem sort_nil (w : World) :
    PureC Tryd.prog 71 [.slice none 0 0] (.tuple #[]) w := by
 refine enter0 Tryd.func71 rfl Tryd.ntmps71 rfl ?_
 simp only [envOf]
 refine tR (tM rfl rfl (tV (Val.len (bt := #[]) Tryd.underlying44 rfl) rfl (tA rfl rfl (tE (At.region (tM rfl rfl (tM rfl rfl (tM rfl rfl (tV (Val.conv (P := Tryd.prog) (s := 3) (t := 99) Tryd.underlying3 Tryd.underlying99 rfl) rfl ?_)))))))))
 rw [show IntKind.u64.wrap ((0 : Nat) : Int) = 0 from rfl]
 refine At.callP (fun w hw => (bits_len 0 w (by omega) (by omega)).mono fun e w' ⟨h1, h2⟩ => ⟨h1, by subst h2; exact Mod.refl _ _⟩) Tryd.call79 rfl rfl (At.callP (fun w hw => pdq_nil _ w) Tryd.call78 rfl rfl (At.nil (At.ret0 (.inr rfl) rfl rfl  (fun w hw => ?_))))
 exact ⟨rfl, hw.mod⟩
theorem sort_u (v : Value) (l : List Int) (w : World) (h : (irow 3 v l).holds w) (hl : l.length < 4611686018427387904) : Upd Tryd.prog 71 [v] (irow 3 v l) (.tuple #[]) (irow 3 v (l.mergeSort fun x y => decide (x ≤ y))) w := by
  have hm : ∀ w', Mod (fun _ => False) w w' → Rep w (feet [irow 3 v l]) [irow 3 v l] w' := fun w' hm' => (Rep.one h).garbage hm'
  have h0 : w.ownsRow 0 3 1 v l.length (l.map (Value.int .i64)) := h
  rcases h0.2 with ⟨rfl, hn⟩ | ⟨g, cap, cur, rfl, hbase, hb, h1, h2, h3, h4⟩
  · have : l = [] := List.eq_nil_of_length_eq_zero hn
    subst this
    exact (sort_nil w).mono fun e w' ⟨he, hmod⟩ => ⟨he, by rw [List.mergeSort_nil]; exact hm w' hmod⟩
  · refine (sort_ints g 0 cap l w (holds_of_blockI hb (by simpa using h4)) (Array.getElem?_eq_some_iff.1 hb).1 hl).mono ?_
    rintro e w' ⟨rfl, n, os, rfl⟩
    refine ⟨rfl, ?_⟩
    have hg := grownBy_sortedI (w := w) (g := g) (n := n) (os := os) (l.mergeSort fun x y => decide (x ≤ y)).toArray
    have ho := ownsRow_sortedI (w := w) (base := 0) (n := n) (os := os) (ts := l.mergeSort fun x y => decide (x ≤ y)) (by simp) hbase hb h1 h2 h3
    exact Rep.change (i := 0) (r := irow 3 (.slice (some ⟨g, 0, none⟩) l.length cap) l) (r' := irow 3 (.slice (some ⟨g, 0, none⟩) l.length cap) (l.mergeSort fun x y => decide (x ≤ y))) rfl (Rep.one h) (grown_mod hg) (by
      show World.ownsRow _ 0 _ 1 _ _ _
      rw [List.length_mergeSort]; exact ho) (fun b hb => .inl hb)
end Go.Proofs.YtfchinibjhcejaaDoor
namespace Go.Wk
open Go
def wbytes (xs : List (BitVec 64)) : List UInt8 := xs.flatMap le8
theorem wbytes_cons (x : BitVec 64) (xs : List (BitVec 64)) : wbytes (x :: xs) = le8 x ++ wbytes xs := rfl
theorem wbytes_append (a b : List (BitVec 64)) : wbytes (a ++ b) = wbytes a ++ wbytes b := by simp [wbytes]
theorem wbytes_length : ∀ xs : List (BitVec 64), (wbytes xs).length = 8 * xs.length
  | [] => rfl
  | x :: xs => by rw [wbytes_cons, List.length_append, wbytes_length xs, le_length, List.length_cons]; omega
theorem le8_zero : le8 0 = zs 8 := rfl
theorem wbytes_zero : ∀ n : Nat, wbytes (List.replicate n 0) = zs (8 * n)
  | 0 => rfl
  | n + 1 => by
    rw [List.replicate_succ, wbytes_cons, wbytes_zero n, le8_zero]
    unfold zs
    rw [List.replicate_append_replicate]; congr 1; omega
theorem wbytes_take {xs : List (BitVec 64)} {k : Nat} {x : BitVec 64} (h : xs[k]? = some x) : ((wbytes xs).drop (8 * k)).take 8 = le8 x := by
  have hk := (List.getElem?_eq_some_iff.1 h)
  have e : xs = xs.take k ++ x :: xs.drop (k + 1) := by rw [← hk.2, ← List.drop_eq_getElem_cons hk.1, List.take_append_drop]
  have hl : (wbytes (xs.take k)).length = 8 * k := by rw [wbytes_length, List.length_take]; have := hk.1; omega
  have e2 : wbytes xs = wbytes (xs.take k) ++ (le8 x ++ wbytes (xs.drop (k + 1))) := by conv => lhs; rw [e, wbytes_append, wbytes_cons]
  rw [e2, List.drop_left' hl, List.take_left' (le_length ..)]
theorem wbytes_word {xs : List (BitVec 64)} {k : Nat} {x : BitVec 64} (h : xs[k]? = some x) : wdA (wbytes xs) (8 * k) = x := by
  unfold wdA num
  rw [wbytes_take h]
  exact num_le8 x
abbrev RdI (w : World) (v : Value) (l : List Int) : Prop := Rd w v 1 l.length (l.map (Value.int .i64))
section
variable {P : Program} {Γ : Ctx} {E : Env} {H L F : List Res} {ops : Array Oper} {Q : Exit → Act → World → Prop} {rest : List Oper} {w0 w w' : World} {S : Nat → Prop} {φ : Act → World → Prop} {ψ : Act → Prop}
  {d : Nat} {dst : Option Tmp} {gd : Option (Nat × Bool)} {ty : TypeId} {pos : String} {after : Array Edge} {x y z : Operand} {v u : Value}
theorem Val.makeFunc2 {fn : FuncId} {x y : Operand} (hx : ev E x = some v) (hy : ev E y = some u) : Val P Γ E H ⟨dst, .makeFunc (.func fn) #[] #[x, y], ty, pos, after, gd⟩ (.func (.func fn) #[] #[v, u]) := fun a w ha _ => by
  simp [execOp, Instr.makeFunc, ha.eval hx, ha.eval hy]
end
end Go.Wk
namespace Go.Proofs.YtfchinibjhcejaaDoor
open Go Go.Wk
end Go.Proofs.YtfchinibjhcejaaDoor
namespace Go.Proofs.YtfchinibjhcejaaDoor
open Go Go.Wk
def viewWs (ws : List Wd) : List (BitVec 64) := ws.map nowW
end Go.Proofs.YtfchinibjhcejaaDoor
namespace Go.Wk
open Go Go.ChangeShapes Go.WideShapes Go.ChangeAt Go.RowKit
abbrev Nt := Int × Int × BitVec 64
section
variable {P : Program} {Γ : Ctx} {E : Env} {H : List Res} {ops : Array Oper} {Q : Exit → Act → World → Prop} {rest : List Oper} {ψ : Act → Prop}
  {d : Nat} {dst : Option Tmp} {g : Option (Nat × Bool)} {ty : TypeId} {pos : String} {after : Array Edge} {x y z : Operand} {v u : Value}
theorem Rd.off {w : World} {sz n : Nat} {xs : List Value} (h : Rd w v sz n xs) {S : Nat → Prop} (hS : ∀ b, S b → w.heap.size ≤ b) : Off v xs S := fun hne b o s n' c hv hb => by
  obtain ⟨A, c', rfl, h2, _⟩ := h
  have hl : 0 < xs.length := List.length_pos_iff.2 hne
  obtain ⟨b', o', e, hc⟩ := h2 0 _ (List.getElem?_eq_getElem hl)
  simp only [Value.slice.injEq] at hv
  rw [hv.1] at e
  simp only [Option.some.injEq, Addr.mk.injEq] at e
  obtain ⟨rfl, _, _⟩ := e
  have := block_lt_of_cell hc
  have := hS _ hb
  simp only at *; omega
end
section
variable {H : Type} {enc : TypeId × Value → H} {P : Program} {W : World} {r : Reach} {base b0 : Nat} {sp : Nat → Bool} {held : Bool}
theorem choose_list' {α : Type} {Q : Nat → α → Prop} : ∀ n : Nat, (∀ j, j < n → ∃ z, Q j z) → ∃ zs : List α, zs.length = n ∧ ∀ j z, zs[j]? = some z → Q j z
  | 0, _ => ⟨[], rfl, fun j z h => by simp at h⟩
  | n + 1, h => by
    obtain ⟨zs, hl, hz⟩ := choose_list' n (fun j hj => h j (by omega))
    obtain ⟨z, hq⟩ := h n (by omega)
    refine ⟨zs ++ [z], by simp [hl], fun j y hy => ?_⟩
    rcases Nat.lt_or_ge j n with hj | hj
    · rw [List.getElem?_append_left (by omega)] at hy; exact hz j y hy
    · have hj' : j < (zs ++ [z]).length := (List.getElem?_eq_some_iff.1 hy).1
      rw [List.length_append, hl] at hj'
      obtain rfl : n = j := by simp at hj'; omega
      rw [List.getElem?_append_right (by omega), hl, Nat.sub_self] at hy
      obtain rfl := Option.some.inj hy
      exact hq
def Fits (z : Int) : Prop := -9223372036854775808 ≤ z ∧ z ≤ 9223372036854775807
end
end Go.Wk
namespace Go.Proofs.YtfchinibjhcejaaDoor
open Go Go.Wk
def wordI (a : Int) (N : Nat) : Nat := (a % (N : Int)).toNat
def noteD (N : Nat) (σ : Ds) (c : Nt) : Ds :=
  if c.1 = 1 then (match σ.ws[wordI c.2.1 N]? with | some w => setD (stepD σ) (wordI c.2.1 N) (pushW w c.2.2) | none => σ)
  else if c.1 = 2 then flushK (stepD σ) (8 * (wordI c.2.1 N / 8)) 8
  else fenceD (stepD σ)
def run (N : Nat) (σ : Ds) (L : List Nt) : Ds := L.foldl (noteD N) σ
theorem dead_of {σ : Ds} (h : σ.armed = false) : deadB σ = false := by unfold deadB; rw [h]; rfl
def NewDevB (P : Program) (f : FuncId) (vs : List Value) (σ : Ds) (w : World) : Prop := Calls P f vs.toArray w fun e w' => ∃ p γ, e = .returned (.tuple #[.pointer (some ⟨p, 0, none⟩), .bool true]) ∧ Rep w (feet []) [Dev p γ σ] w'
theorem At.callNB {P : Program} {Γ : Ctx} {E : Env} {H : List Res} {ops : Array Oper} {Q : Exit → Act → World → Prop} {rest : List Oper} {d : Nat} {ty : TypeId} {pos : String} {after : Array Edge} {σ : Ds} {f : FuncId} {l : List Operand} {vs : List Value} {at_ : Array TypeId} (h : ∀ w, Rep Γ.w0 Γ.S H w → NewDevB P f vs σ w) (hc : ∀ args w, (callFunc f args).run P w = .ok (.enter f args) w) (hv : evs E l = some vs) (hn : Nat.blt d Γ.n = true)
    (c : ∀ p γ, At Γ ((d, .tuple #[.pointer (some ⟨p, 0, none⟩), .bool true]) :: E) (Dev p γ σ :: H) (wpList P ops Q rest)) :
    At Γ E H (wpList P ops Q ({ dst := some d, op := .call { callee := .value (.func f), args := l.toArray, argTypes := at_ }, type := ty, pos, after, guard := none } :: rest)) :=
  At.call hc hv hn fun w hw => (h w hw).mono fun e w' ⟨p, γ, he, hr⟩ => ⟨_, _, he, by
    have := Rep.frame (H0 := []) (F := H) (by simpa using hw) hr
    simpa using this, c p γ⟩
end Go.Proofs.YtfchinibjhcejaaDoor
namespace Go.Proofs.YtfchinibjhcejaaDoor
open Go Go.Wk
theorem flushK_at {σ : Ds} {f k : Nat} {w : Wd} (h : σ.ws[k]? = some w) : ∀ j, ∃ m, (flushK σ f j).ws[k]? = some { w with mark := m } ∧ (f ≤ k → k < f + j → m = w.news.length) ∧ (¬ (f ≤ k ∧ k < f + j) → m = w.mark)
  | 0 => ⟨w.mark, h, fun h1 h2 => by omega, fun _ => rfl⟩
  | j + 1 => by
    obtain ⟨m, h1, h2, h3⟩ := flushK_at h j
    by_cases e : f + j = k
    · subst e
      rw [flushK_succ h1]
      exact ⟨w.news.length, by unfold setD; simp only; rw [List.getElem?_set_self (List.getElem?_eq_some_iff.1 h1).1]; rfl, fun _ _ => rfl, fun hn => absurd ⟨by omega, by omega⟩ hn⟩
    · cases hq : (flushK σ f j).ws[f + j]? with
      | none =>
        unfold flushK; rw [hq]
        exact ⟨m, h1, fun a b => h2 a (by omega), fun hn => h3 (fun ⟨a, b⟩ => hn ⟨a, by omega⟩)⟩
      | some u =>
        rw [flushK_succ hq]
        exact ⟨m, by unfold setD; simp only; rw [List.getElem?_set_ne e]; exact h1, fun a b => h2 a (by omega), fun hn => h3 (fun ⟨a, b⟩ => hn ⟨a, by omega⟩)⟩
theorem fenceD_at {σ : Ds} {k : Nat} {w : Wd} (h : σ.ws[k]? = some w) : (fenceD σ).ws[k]? = some (fenceW w) := by unfold fenceD; simp [h]
theorem setD_at {σ : Ds} {k j : Nat} {w u : Wd} (h : σ.ws[j]? = some w) (hne : k ≠ j) : (setD σ k u).ws[j]? = some w := by unfold setD; simp only; rw [List.getElem?_set_ne hne]; exact h
theorem setD_self {σ : Ds} {k : Nat} {w u : Wd} (h : σ.ws[k]? = some w) : (setD σ k u).ws[k]? = some u := by unfold setD; simp only; rw [List.getElem?_set_self (List.getElem?_eq_some_iff.1 h).1]
theorem take_succ_of_get {α : Type} {l : List α} {k : Nat} {x : α} (h : l[k]? = some x) : l.take (k + 1) = l.take k ++ [x] := by rw [List.take_add_one, h]; rfl
end Go.Proofs.YtfchinibjhcejaaDoor
namespace Go.Proofs.YtfchinibjhcejaaDoor
open Go Go.Wk
def wordsL (l : List UInt8) (m : Nat) : List (BitVec 64) := (List.range m).map fun j => wdA l (8 * j)
theorem wordsL_length (l : List UInt8) (m : Nat) : (wordsL l m).length = m := by simp [wordsL]
theorem wordsL_at {l : List UInt8} {m j : Nat} (h : j < m) : (wordsL l m)[j]? = some (wdA l (8 * j)) := by unfold wordsL; rw [List.getElem?_map, List.getElem?_range h]; rfl
theorem wordsL_wbytes (X : List (BitVec 64)) : wordsL (wbytes X) X.length = X := by
  apply List.ext_getElem?
  intro k
  rcases Nat.lt_or_ge k X.length with h | h
  · rw [wordsL_at h, List.getElem?_eq_getElem h, wbytes_word (List.getElem?_eq_getElem h)]
  · rw [List.getElem?_eq_none (by rw [wordsL_length]; exact h), List.getElem?_eq_none h]
theorem wdA_cut {l : List UInt8} {a n : Nat} (h : a + 8 ≤ l.length) (hn : 8 ≤ n) : wdA ((l.drop a).take n) 0 = wdA l a := by unfold wdA num; rw [List.drop_zero, List.take_take, Nat.min_eq_left hn]
theorem write_d (p : Nat) (γ : Gh) (σ : Ds) (k m : Nat) (v : Value) (lb : List UInt8) (w : World) (hv : RdB w v lb) (ho : Off v (lb.map bv) (feet [Dev p γ σ])) (hm : lb.length = 8 * m) (hkl : k + m ≤ σ.ws.length) (hst : σ.steps + m ≤ 1099511627776) (hd : (Dev p γ σ).holds w) :
    DevU Tryd.prog 40 [.pointer (some ⟨p, 0, none⟩), .int .i64 (8 * (k : Int)), v] p γ σ (.int .i64 (storesE k σ (wordsL lb m)).1) (storesE k σ (wordsL lb m)).2 w := by
 obtain ⟨A, c, rfl⟩ : ∃ A c, v = .slice A lb.length c := by obtain ⟨A, c, h, _⟩ := hv; exact ⟨A, c, h⟩
 refine enterVc hd Tryd.func40 rfl Tryd.ntmps40 rfl ?_
 have hgd := Dev.good hd
 have hln := hgd.len
 simp only [envOf]
 refine tR (tA rfl rfl (tE (At.seq (tR (tM rfl rfl (tM rfl rfl (tM rfl rfl (tV (Val.lenRd hv Tryd.underlying29 rfl) rfl (At.callK 0 rfl (fun w hw hr => has_k _ _ _ _ _ w hr) Tryd.call49 rfl rfl (tV (Val.not rfl) rfl (tE ?_)))))))))))
 refine At.cond rfl (fun h1 => ?_) (fun h1 => ?_)
 ·try simp only [hasB, isSizeB, sB] at h1
  omega
 ·try simp only [hasB, isSizeB, sB] at h1
  refine At.skipC (At.thenN (At.seq (tR (tM rfl rfl (tV (Val.remI rfl rfl (by omega) (by decide)) rfl ?_)))))
  rw [show 8 * (k : Int) % 8 = 0 from by omega]
  refine tV (Val.bin rfl rfl rfl) rfl (tM rfl rfl (At.yes rfl rfl (tM rfl rfl (At.yes rfl rfl (tV (Val.lenRd hv Tryd.underlying29 rfl) rfl (At.yes rfl rfl (tV (Val.remI rfl rfl (by omega) (by decide)) rfl ?_)))))))
  rw [show ((lb.length : Nat) : Int) % 8 = 0 from by omega]
  refine At.yes rfl rfl (tV (Val.bin rfl rfl rfl) rfl (tV (Val.pickF rfl rfl) rfl (tE (At.condF rfl (At.skipC (At.thenN (At.seq (tR (tA rfl rfl (tE (At.block ?_)))))))))))
  skip
  refine At.loop (σ := (Nat × Ds) × Gh) (fun s => s.1.1 ≤ m ∧ storesE k σ (wordsL lb m) = storesE (k + s.1.1) s.1.2 ((wordsL lb m).drop s.1.1) ∧ s.1.2.ws.length = σ.ws.length ∧ s.1.2.steps = σ.steps + s.1.1) (fun s => [(0, .pointer (some ⟨p, 0, none⟩)), (1, .int .i64 (8 * (k : Int))), (2, (.slice A lb.length c)), (7, .int .i64 (8 * (s.1.1 : Int)))]) (fun s => [Dev p s.2 s.1.2]) (fun s => m - s.1.1) ((0, σ), γ) ⟨Nat.zero_le _, rfl, rfl, rfl⟩ (Sub.cons rfl (Sub.cons rfl (Sub.cons rfl (Sub.cons rfl Sub.nil)))) (List.Perm.refl _) ?_
  intro s hs
  obtain ⟨⟨j, σ1⟩, γ1⟩ := s
  dsimp only at hs ⊢
  obtain ⟨hj, he, hl1, hs1⟩ := hs
  refine At.seq (tR (tM rfl rfl (tM rfl rfl (tV (Val.lenRd hv Tryd.underlying29 rfl) rfl (tV (Val.bin rfl rfl rfl) rfl (tE ?_))))))
  refine At.cond rfl (fun h2 => ?_) (fun h2 => ?_)
  ·try simp only [hasB, isSizeB, sB] at h2
   have hjm : j < m := by omega
   refine At.skipC (At.thenN (At.seq (At.block (tR (tM rfl rfl (tM rfl rfl (tM rfl rfl ?_)))))))
   first | refine tV (Val.addI rfl rfl (by omega) (by omega)) rfl ?_ | refine tV (Val.bin rfl rfl rfl) rfl ?_
   refine tM rfl rfl (tM rfl rfl (tV (Val.cutRd (l := 8 * j) (h := lb.length) hv Tryd.underlying29 Tryd.sizeOf5 rfl ⟨_, _, rfl, by omega, by omega⟩ rfl (by omega) (by omega)) rfl ?_))
   refine At.callP (fun w hw => (by have h0 := wordOf_p _ _ w (RdB.cut (l := 8 * j) (h := lb.length) (hv.keep hw ho) (by omega) (by omega)) (by rw [List.length_take, List.length_drop]; omega); rwa [wdA_cut (by omega) (by omega)] at h0)) Tryd.call30 rfl rfl ?_
   obtain ⟨x, hx⟩ : ∃ x, x = wdA lb (8 * j) := ⟨_, rfl⟩
   rw [← hx]
   have hx : (wordsL lb m)[j]? = some x := by rw [hx]; exact wordsL_at hjm
   obtain ⟨wd, hwd⟩ : ∃ wd, σ1.ws[k + j]? = some wd := ⟨_, List.getElem?_eq_getElem (by omega)⟩
   cases hdb : deadB σ1
   ·rw [show 8 * (k : Int) + 8 * (j : Int) = 8 * ((k + j : Nat) : Int) from by omega]
    refine At.callD 0 rfl (fun w hw hr => (storeD_some (x := x) hwd) ▸ store_d _ _ _ (k + j) wd x w hwd (by omega) hdb hr) Tryd.call41 rfl rfl (fun y3 => ?_)
    simp only [sc0, scS]
    refine tA rfl rfl (tE (tR (tM rfl rfl (tV (Val.bin rfl rfl rfl) rfl (tE (At.condF rfl (At.skipC (At.blkN (At.thenN (At.region (tM rfl rfl ?_)))))))))))
    first | refine tV (Val.addI rfl rfl (by omega) (by omega)) rfl ?_ | refine tV (Val.bin rfl rfl rfl) rfl ?_
    refine tA rfl rfl (tE ?_)
    exact At.again ((j + 1, storeD σ1 (k + j) x), y3) ⟨(show j + 1 ≤ m by omega), (by rw [he, drop_cons hx, storesE_live hdb]; rfl), (storeD_rest x (show k + j < σ1.ws.length by omega)).2.2.trans hl1, (show (storeD σ1 (k + j) x).steps = σ.steps + (j + 1) by have := (storeD_rest x (show k + j < σ1.ws.length by omega)).1; omega)⟩ (by dsimp only; omega) (Sub.cons rfl (Sub.cons rfl (Sub.cons rfl (Sub.cons (congrArg (fun z => some (Value.int IntKind.i64 z)) (by first | omega | (dsimp only; omega))) Sub.nil)))) (List.Perm.refl _)
   ·refine At.callK 0 rfl (fun w hw hr => store_0 _ _ _ _ _ w (place_at' (by omega) (by omega) (by omega)) hdb hr) Tryd.call41 rfl rfl (tA rfl rfl (tE (tR (tM rfl rfl (tV (Val.bin rfl rfl rfl) rfl (tE (At.condT rfl (tR (tM rfl rfl (tA rfl rfl (tE (At.retC (At.blkR (At.thenR (At.thenR (At.blkR (At.thenR (At.ret1 (.inl rfl) rfl rfl rfl (fun w hw => ?_)))))))))))))))))))
    rw [he, drop_cons hx, storesE_dead hdb]
    exact ⟨_, rfl, hw⟩
  ·try simp only [hasB, isSizeB, sB] at h2
   refine At.exitC (At.thenX (At.thenX (At.blkX (At.thenN (tR (tA rfl rfl (tE (At.retC (At.ret1 (.inl rfl) rfl rfl rfl (fun w hw => ?_))))))))))
   rw [he, List.drop_of_length_le (by rw [wordsL_length]; omega)]
   exact ⟨_, rfl, hw⟩
end Go.Proofs.YtfchinibjhcejaaDoor
namespace Go.Proofs.YtfchinibjhcejaaDoor
open Go Go.Wk
inductive Ac where
  | st (k : Nat) (x : BitVec 64)
  | fl (l : Nat)
  | fe
def stepA (σ : Ds) : Ac → Ds
  | .st k x => storeD σ k x
  | .fl l => lineD σ l
  | .fe => fenceD (stepD σ)
def actsE : Ds → List Ac → Int × Ds
  | σ, [] => (0, σ)
  | σ, a :: l => if deadB σ = true then (13, σ) else actsE (stepA σ a) l
theorem actsE_dead {σ : Ds} {a : Ac} {l : List Ac} (h : deadB σ = true) : actsE σ (a :: l) = (13, σ) := by unfold actsE; rw [if_pos h]
theorem actsE_live {σ : Ds} {a : Ac} {l : List Ac} (h : deadB σ = false) : actsE σ (a :: l) = actsE (stepA σ a) l := by
  show (if deadB σ = true then (13, σ) else actsE (stepA σ a) l) = _
  rw [if_neg (by rw [h]; simp)]
theorem actsE_01 : ∀ (l : List Ac) (σ : Ds), (actsE σ l).1 = 0 ∨ (actsE σ l).1 = 13
  | [], σ => Or.inl rfl
  | a :: l, σ => by
    cases h : deadB σ with
    | true => rw [actsE_dead h]; exact Or.inr rfl
    | false => rw [actsE_live h]; exact actsE_01 l _
theorem actsE_append : ∀ (a b : List Ac) (σ : Ds), actsE σ (a ++ b) = if (actsE σ a).1 = 0 then actsE (actsE σ a).2 b else actsE σ a
  | [], b, σ => rfl
  | x :: a, b, σ => by
    rw [List.cons_append]
    cases h : deadB σ with
    | true => rw [actsE_dead h, actsE_dead h]; rfl
    | false => rw [actsE_live h, actsE_live h]; exact actsE_append a b _
theorem actsE_go {a b : List Ac} {σ : Ds} (h : (actsE σ a).1 = 0) : actsE σ (a ++ b) = actsE (actsE σ a).2 b := by rw [actsE_append, if_pos h]
theorem actsE_stop {a b : List Ac} {σ : Ds} (h : (actsE σ a).1 = 13) : actsE σ (a ++ b) = actsE σ a := by rw [actsE_append, if_neg (by rw [h]; decide)]
def AcOk (n : Nat) : Ac → Prop
  | .st k _ => k < n
  | .fl l => 8 * l < n
  | .fe => True
theorem stepA_rest {σ : Ds} {a : Ac} (h : AcOk σ.ws.length a) : (stepA σ a).steps = σ.steps + 1 ∧ (stepA σ a).armed = σ.armed ∧ (stepA σ a).ws.length = σ.ws.length := by
  cases a with
  | st k x => exact storeD_rest x h
  | fl l => exact lineD_rest σ l
  | fe => exact ⟨rfl, rfl, by simp [stepA, fenceD, stepD]⟩
theorem actsE_rest : ∀ (l : List Ac) (σ : Ds), (∀ a ∈ l, AcOk σ.ws.length a) → (actsE σ l).2.ws.length = σ.ws.length ∧ (actsE σ l).2.steps ≤ σ.steps + l.length ∧ (actsE σ l).2.armed = σ.armed ∧ (σ.armed = false → (actsE σ l).1 = 0 ∧ (actsE σ l).2.steps = σ.steps + l.length)
  | [], σ, _ => ⟨rfl, Nat.le_refl _, rfl, fun _ => ⟨rfl, rfl⟩⟩
  | a :: l, σ, h => by
    cases hd : deadB σ with
    | true =>
      rw [actsE_dead hd]
      exact ⟨rfl, Nat.le_add_right _ _, rfl, fun ha => by rw [dead_of ha] at hd; cases hd⟩
    | false =>
      rw [actsE_live hd]
      obtain ⟨h1, h2, h3⟩ := stepA_rest (h a (List.mem_cons_self ..))
      obtain ⟨g1, g2, g3, g4⟩ := actsE_rest l (stepA σ a) (fun b hb => by rw [h3]; exact h b (List.mem_cons_of_mem _ hb))
      exact ⟨g1.trans h3, by rw [List.length_cons]; omega, g3.trans h2, fun ha => ⟨(g4 (h2.trans ha)).1, by rw [(g4 (h2.trans ha)).2, List.length_cons]; omega⟩⟩
def stA : Nat → List (BitVec 64) → List Ac
  | _, [] => []
  | k, x :: l => .st k x :: stA (k + 1) l
def flA : Nat → Nat → List Ac
  | _, 0 => []
  | l, c + 1 => .fl l :: flA (l + 1) c
theorem stA_len : ∀ (l : List (BitVec 64)) (k : Nat), (stA k l).length = l.length
  | [], _ => rfl
  | x :: l, k => by rw [stA, List.length_cons, stA_len l, List.length_cons]
theorem flA_len : ∀ (c l : Nat), (flA l c).length = c
  | 0, _ => rfl
  | c + 1, l => by rw [flA, List.length_cons, flA_len c]
theorem stA_ok {n : Nat} : ∀ (l : List (BitVec 64)) (k : Nat), k + l.length ≤ n → ∀ a ∈ stA k l, AcOk n a
  | [], _, _, a, h => by cases h
  | x :: l, k, hk, a, h => by
    rw [List.length_cons] at hk
    rcases List.mem_cons.1 h with rfl | h
    · show k < n; omega
    · exact stA_ok l (k + 1) (by omega) a h
theorem flA_ok {n : Nat} : ∀ (c l : Nat), 8 * (l + c) < n + 8 → ∀ a ∈ flA l c, AcOk n a
  | 0, _, _, a, h => by cases h
  | c + 1, l, hk, a, h => by
    rcases List.mem_cons.1 h with rfl | h
    · show 8 * l < n; omega
    · exact flA_ok c (l + 1) (by omega) a h
theorem storesE_acts : ∀ (l : List (BitVec 64)) (k : Nat) (σ : Ds), storesE k σ l = actsE σ (stA k l)
  | [], _, _ => rfl
  | x :: l, k, σ => by
    rw [stA]
    cases h : deadB σ with
    | true => rw [storesE_dead h, actsE_dead h]
    | false => rw [storesE_live h, actsE_live h]; exact storesE_acts l _ _
theorem linesE_acts : ∀ (c l : Nat) (σ : Ds), linesE l σ c = actsE σ (flA l c)
  | 0, _, _ => rfl
  | c + 1, l, σ => by
    rw [flA]
    cases h : deadB σ with
    | true => rw [linesE_dead h, actsE_dead h]
    | false => rw [linesE_live h, actsE_live h]; exact linesE_acts c _ _
end Go.Proofs.YtfchinibjhcejaaDoor
namespace Go.Wk
open Go Go.ChangeShapes Go.WideShapes Go.ChangeAt Go.RowKit
section
variable {H : Type} {enc : TypeId × Value → H} {P : Program} {W : World} {r : Reach} {base b0 : Nat} {sp : Nat → Bool} {held : Bool}
theorem each_of {p : Nat → Bool} : ∀ {ts : List TypeId} {ds : List (DataW H)} {i : Nat} {t : TypeId} {d : DataW H}, (DataW.weightsEach P ts ds).all p = true → ts[i]? = some t → ds[i]? = some d → (DataW.weights P t d).all p = true
  | t' :: ts, d' :: ds, 0, t, d, h, ht, hd => by
    simp only [DataW.weightsEach, List.all_append, Bool.and_eq_true] at h
    have e1 : t' = t := by simpa using ht
    have e2 : d' = d := by simpa using hd
    subst e1 e2; exact h.1
  | t' :: ts, d' :: ds, i + 1, t, d, h, ht, hd => by
    simp only [DataW.weightsEach, List.all_append, Bool.and_eq_true] at h
    exact each_of h.2 (by simpa using ht) (by simpa using hd)
  | [], ds, i, t, d, h, ht, hd => by simp at ht
  | t' :: ts, [], i, t, d, h, ht, hd => by simp at hd
structure Fld (enc : TypeId × Value → H) (P : Program) (W : World) (r : Reach) (base b0 : Nat) (sp : Nat → Bool) (held : Bool) (t : TypeId) (c : Value) : Prop where
  ok : Cell.okWide P W r base t c
  read : ∃ fuel x, DataW.trod enc P W b0 sp held fuel t [c] = some x ∧ (DataW.weights P t x.1).all (· ≤ reachBytes) = true
theorem Fld.int {t : TypeId} {c : Value} (u : P.underlying t = some (.int .i64)) (h : Fld enc P W r base b0 sp held t c) : ∃ n, c = .int .i64 n ∧ Fits n := by
  obtain ⟨fuel, x, hf, _⟩ := h.read
  obtain ⟨n, g, _, w⟩ := DataW.trod_int u hf
  exact ⟨n, by simpa using g, has64 (by simpa [Lit.wf, IntKind.has] using w)⟩
theorem Fld.word {t : TypeId} {c : Value} (u : P.underlying t = some (.int .u64)) (h : Fld enc P W r base b0 sp held t c) : ∃ x, c = b64 x := by
  obtain ⟨fuel, x, hf, _⟩ := h.read
  obtain ⟨n, g, _, w⟩ := DataW.trod_int u hf
  obtain ⟨x, rfl⟩ := hasU64 (n := n) (by simpa [Lit.wf, IntKind.has] using w)
  exact ⟨x, by simpa using g⟩
theorem Fld.bytes {t e : TypeId} {c : Value} (hu : P.underlying t = some (.slice e)) (he : P.underlying e = some (.int .u8)) (hc : P.cellsOf e = 1) (hby : P.bytesOf e = 1)
    (h : Fld enc P W r base b0 sp held t c) : ∃ L : List UInt8, RdB W c L ∧ L.length ≤ 140737488351232 := by
  obtain ⟨fuel, x, hf, hw⟩ := h.read
  have hok := cell_slice hu h.ok
  have hv : c.cells.toList = [c] := by rcases hok with rfl | ⟨_, _, _, _, rfl, _⟩ <;> rfl
  obtain ⟨A, cc, l, rfl, hb, hcc, hm, hz, hp⟩ := arg_byteslice (r := r) (base := base) hu he hc hby (by unfold Value.okWide; rw [hu]; exact h.ok) (⟨fuel, by rw [hv]; exact hf⟩ : DataW.Trod enc P W b0 sp held t c x.1 x.2) hw
  exact ⟨l, Bytes.rd hb hcc hz hp, hm⟩
end
end Go.Wk
namespace Go.Proofs.YtfchinibjhcejaaDoor
open Go Go.Wk
theorem Rep.offOld {w0 w : World} {S : Nat → Prop} {H : List Res} {r : Res} {v : Value} {sz n : Nat} {xs : List Value} (hw : Rep w0 S H w) (h : Rd w0 v sz n xs) (ho : Off v xs S) (hr : r ∈ H) : Off v xs (feet [r]) := fun hne b o s n' c hv ⟨q, hq, hb⟩ => by
  rw [List.mem_singleton.1 hq] at hb
  obtain ⟨A, c', rfl, h2, _⟩ := h
  have hl : 0 < xs.length := List.length_pos_iff.2 hne
  obtain ⟨b', o', e, hc⟩ := h2 0 _ (List.getElem?_eq_getElem hl)
  simp only [Value.slice.injEq] at hv
  rw [hv.1] at e
  simp only [Option.some.injEq, Addr.mk.injEq] at e
  obtain ⟨rfl, _, _⟩ := e
  have hlt := block_lt_of_cell hc
  rcases hw.mine r hr _ hb with h3 | h3
  · simp only at *; omega
  · exact ho hne _ _ _ _ _ (by rw [hv.1]) h3
theorem At.idxI' {P : Program} {Γ : Ctx} {E : Env} {H : List Res} {ops : Array Oper} {Q : Exit → Act → World → Prop} {rest : List Oper} {d : Nat} {ty : TypeId} {pos : String} {after : Array Edge} {x y : Operand} {v : Value} {t el : Nat} {l : List Int} {k : IntKind} {j : Int} {g : Option (Nat × Bool)} (h : RdI Γ.w0 v l) (ho : Off v (l.map (Value.int .i64)) Γ.S) (hu : P.underlying t = some (.slice el)) (hs : ∀ w, (sizeOf el).run P w = .ok 1 w) (hx : ev E x = some v) (hy : ev E y = some (.int k j)) (h0 : 0 ≤ j) (h1 : j < l.length)
    (hg : g = none) (hn : Nat.blt d Γ.n = true)
    (c : ∀ b o q, l[j.toNat]? = some q → Γ.w0.cell? ⟨b, o, none⟩ = some (.int .i64 q) → ¬ Γ.S b → At Γ ((d, .pointer (some ⟨b, o, none⟩)) :: E) H (wpList P ops Q rest)) :
    At Γ E H (wpList P ops Q ({ dst := some d, op := .indexAddr t x y, type := ty, pos, after, guard := g } :: rest)) := by
  obtain ⟨b, o, cap, rfl, hc⟩ := h.at (j := j.toNat) (by omega)
  have hq : l[j.toNat]? = some (l[j.toNat]'(by omega)) := List.getElem?_eq_getElem _
  exact At.val (Val.indexSl _ rfl hu hs hx hy h0 h1) hg rfl hn (c b _ _ hq (by have := hc 0 _ (by rw [Nat.mul_one, Nat.add_zero, List.getElem?_map, hq]; rfl); rwa [Nat.add_zero] at this) (ho (fun e => by rw [List.map_eq_nil_iff] at e; subst e; simp at h1; omega) b _ _ _ _ rfl))
section
variable {P : Program} {Γ : Ctx} {E : Env} {H : List Res} {ops : Array Oper} {R : Exit → Act → World → Prop} {rest : List Oper} {w0 w : World} {S : Nat → Prop} {d : Nat} {ty : TypeId} {pos : String} {after : Array Edge} {v : Value}
theorem Rep.offRow {i j : Nat} {r : Res} {e sz n : Nat} {xs : List Value} (hw : Rep w0 S H w) (hi : H[i]? = some (rowR v e sz n xs)) (hj : H[j]? = some r) (hij : i ≠ j) : Off v xs (feet [r]) := fun _ b o s n c hv ⟨q, hq, hb⟩ => by
  rw [List.mem_singleton.1 hq] at hb
  have hi' := List.getElem?_eq_some_iff.1 hi
  have hj' := List.getElem?_eq_some_iff.1 hj
  have hp := List.pairwise_iff_getElem.1 hw.sep
  have hf : (rowR v e sz n xs : Res).foot b := by subst hv; rfl
  rcases Nat.lt_or_gt_of_ne hij with h | h
  · have := hp i j hi'.1 hj'.1 h
    rw [hi'.2, hj'.2] at this
    exact this b hf hb
  · have := hp j i hj'.1 hi'.1 h
    rw [hi'.2, hj'.2] at this
    exact this b hb hf
def RowKT (P : Program) (f : FuncId) (vs : List Value) (r : Res) (gv : Value → Value) (e sz n : Nat) (xs : List Value) (w : World) : Prop := Calls P f vs.toArray w fun q w' => ∃ v', q = .returned (gv v') ∧ Rep w (feet [r]) [rowR v' e sz n xs, r] w'
theorem At.callRKT (i : Nat) {r : Res} {gv : Value → Value} {e sz n : Nat} {xs : List Value} {f : FuncId} {l : List Operand} {vs : List Value} {at_ : Array TypeId} (hi : H[i]? = some r) (h : ∀ w, Rep Γ.w0 Γ.S H w → r.holds w → RowKT P f vs r gv e sz n xs w) (hc : ∀ args w, (callFunc f args).run P w = .ok (.enter f args) w) (hv : evs E l = some vs) (hn : Nat.blt d Γ.n = true)
    (c : ∀ v', At Γ ((d, gv v') :: E) (rowR v' e sz n xs :: H) (wpList P ops R rest)) :
    At Γ E H (wpList P ops R ({ dst := some d, op := .call { callee := .value (.func f), args := l.toArray, argTypes := at_ }, type := ty, pos, after, guard := none } :: rest)) :=
  At.call hc hv hn fun w hw => (h w hw (hw.all _ (List.mem_of_getElem? hi))).mono fun q w' ⟨v', he, hr⟩ => ⟨gv v', _, he, by
    have h1 : Rep Γ.w0 Γ.S ([r] ++ H.eraseIdx i) w := hw.perm (erase_perm H i r hi)
    exact (h1.frame (H0' := [rowR v' e sz n xs, r]) hr).perm ((erase_perm H i r hi).symm.cons _), c v'⟩
end
end Go.Proofs.YtfchinibjhcejaaDoor
namespace Go.Proofs.YtfchinibjhcejaaDoor
open Go Go.Wk
def wI (n lo hi : Int) : Bool := decide (lo ≤ n) && decide (n ≤ hi)
def isDataB (p : Int) : Bool := wI p 5 1023
def isInoB (p : Int) : Bool := wI p 1 256
theorem within_p (n lo hi : Int) (w : World) :
    PureC Tryd.prog 59 [.int .i64 n, .int .i64 lo, .int .i64 hi] (.bool (wI n lo hi)) w := by
 refine enter0 Tryd.func59 rfl Tryd.ntmps59 rfl ?_
 simp only [envOf]
 refine tR (tA rfl rfl (tE (tR (tM rfl rfl (tM rfl rfl (tV (Val.bin rfl rfl rfl) rfl (tM rfl rfl ?_)))))))
 refine At.split (t := 10) rfl (fun h1 => ?_) (fun h1 => ?_)
 ·refine At.yes rfl rfl (tM rfl rfl (At.yes rfl rfl (tM rfl rfl (At.yes rfl rfl (tV (Val.bin rfl rfl rfl) rfl (tV (Val.pickT rfl rfl) rfl (tA rfl rfl (tE (At.retC (At.ret1 (.inl rfl) rfl rfl rfl (fun w hw => ?_)))))))))))
  exact ⟨by simp [wI, h1], hw.mod⟩
 ·refine At.no rfl rfl rfl rfl (At.no rfl rfl rfl rfl (At.no rfl rfl rfl rfl (tV (Val.pickF rfl rfl) rfl (tA rfl rfl (tE (At.retC (At.ret1 (.inl rfl) rfl rfl rfl (fun w hw => ?_))))))))
  exact ⟨by simp [wI, h1], hw.mod⟩
end Go.Proofs.YtfchinibjhcejaaDoor
namespace Go.Proofs.YtfchinibjhcejaaDoor
open Go Go.Wk
def GoodSup (p i c : Int) : Prop := 24 ≤ p ∧ p ≤ 1024 ∧ 8 ≤ i ∧ i ≤ 256 ∧ i % 8 = 0 ∧ 1 ≤ c ∧ c ≤ 8 ∧ 8 ≤ p - 4 - i / 8
instance (p i c : Int) : Decidable (GoodSup p i c) := by unfold GoodSup; infer_instance
def fitV (p i c : Int) : Value := if GoodSup p i c then .tuple #[.agg #[.int .i64 p, .int .i64 i, .int .i64 c, .int .i64 (4 + i / 8)], .int .i64 0] else .tuple #[.agg #[.int .i64 0, .int .i64 0, .int .i64 0, .int .i64 0], .int .i64 30]
theorem fit_yes {p i c : Int} (h : GoodSup p i c) : fitV p i c = .tuple #[.agg #[.int .i64 p, .int .i64 i, .int .i64 c, .int .i64 (4 + i / 8)], .int .i64 0] := if_pos h
theorem fit_no {p i c : Int} (h : ¬ GoodSup p i c) : fitV p i c = .tuple #[.agg #[.int .i64 0, .int .i64 0, .int .i64 0, .int .i64 0], .int .i64 30] := if_neg h
theorem retB {a b : Bool} (h : a = b) : Ending.returned (.bool a) = .returned (.bool b) := by rw [h]
theorem retI {k : IntKind} {a b : Int} (h : a = b) : Ending.returned (.int k a) = .returned (.int k b) := by rw [h]
theorem rem8 {i : Int} (h : 0 ≤ i) : i.tmod 8 = i % 8 := Int.tmod_eq_emod_of_nonneg h
theorem quo8 {i : Int} (h : 0 ≤ i) : i.tdiv 8 = i / 8 := Int.tdiv_eq_ediv_of_nonneg h
theorem tdiv_nn {i : Int} (n : Int) (h : 0 ≤ i) : i.tdiv n = i / n := Int.tdiv_eq_ediv_of_nonneg h
theorem wI_T {n lo hi : Int} : wI n lo hi = true ↔ lo ≤ n ∧ n ≤ hi := by simp [wI]
theorem wI_F {n lo hi : Int} : wI n lo hi = false ↔ ¬ (lo ≤ n ∧ n ≤ hi) := by rw [← wI_T]; simp
theorem notT {b : Bool} : (!b) = true ↔ b = false := by cases b <;> simp
theorem notF {b : Bool} : (!b) = false ↔ b = true := by cases b <;> simp
theorem bneT {a b : Int} : (a != b) = true ↔ a ≠ b := by simp
theorem bneF {a b : Int} : (a != b) = false ↔ a = b := by simp
theorem beqT {a b : Int} : (a == b) = true ↔ a = b := by simp
theorem beqF {a b : Int} : (a == b) = false ↔ a ≠ b := by simp
theorem decT {p : Prop} [Decidable p] : decide p = true ↔ p := decide_eq_true_iff
theorem decF {p : Prop} [Decidable p] : decide p = false ↔ ¬ p := decide_eq_false_iff_not
def slotAt (n : Int) : Int := if isInoB n = true then 2048 + 64 * (n - 1) else -1
theorem slotAt_T {n : Int} (h : isInoB n = true) : slotAt n = 2048 + 64 * (n - 1) := if_pos h
theorem slotAt_F {n : Int} (h : isInoB n = false) : slotAt n = -1 := if_neg (by rw [h]; simp)
theorem ino_T {n : Int} : isInoB n = true ↔ 1 ≤ n ∧ n ≤ 256 := by unfold isInoB; exact wI_T
theorem ino_F {n : Int} : isInoB n = false ↔ ¬ (1 ≤ n ∧ n ≤ 256) := by unfold isInoB; exact wI_F
theorem data_T {n : Int} : isDataB n = true ↔ 5 ≤ n ∧ n ≤ 1023 := by unfold isDataB; exact wI_T
theorem data_F {n : Int} : isDataB n = false ↔ ¬ (5 ≤ n ∧ n ≤ 1023) := by unfold isDataB; exact wI_F
theorem fit_p (p i c : Int) (w : World) :
    PureC Tryd.prog 32 [.agg #[.int .i64 p, .int .i64 i, .int .i64 c]] (fitV p i c) w := by
 refine enter0 Tryd.func32 rfl Tryd.ntmps32 rfl ?_
 have e8 := @rem8 i
 have q8 := @quo8 i
 simp only [envOf]
 refine tR (At.box rfl rfl rfl (fun b1 => (At.alloc Tryd.zeroValue31 rfl rfl (fun b2 => (tA rfl rfl (tE (At.seq (tR (tV (Val.field 0 rfl fo_23_0 rfl) rfl (tV (Val.load (i := 1) Tryd.isAgg3 rfl rfl rfl) rfl (At.callP (fun w hw => within_p _ _ _ w) Tryd.call59 rfl rfl (tV (Val.not rfl) rfl (tM rfl rfl ?_)))))))))))))
 refine At.split (t := 9) rfl (fun h3 => ?_) (fun h3 => ?_)
 ·try simp only [wI_T, wI_F, notT, notF, bneT, bneF, beqT, beqF, decT, decF] at h3
  refine At.no rfl rfl rfl rfl (At.no rfl rfl rfl rfl (At.no rfl rfl rfl rfl (At.no rfl rfl rfl rfl (tV (Val.pickT rfl rfl) rfl (tM rfl rfl (At.no rfl rfl rfl rfl (At.no rfl rfl rfl rfl (At.no rfl rfl rfl rfl (At.no rfl rfl rfl rfl (tV (Val.pickT rfl rfl) rfl (tM rfl rfl (At.no rfl rfl rfl rfl (At.no rfl rfl rfl rfl (At.no rfl rfl rfl rfl (At.no rfl rfl rfl rfl (tV (Val.pickT rfl rfl) rfl (tE (At.condT rfl (tR ?_)))))))))))))))))))
  refine tV (Val.build (fun a ha => by simp only [List.map_toArray, List.map_cons, List.map_nil] <;> rfl) (bld_31_)) rfl (At.storeAll (i := 0) Tryd.sizeOf31 rfl rfl rfl (by simp [Value.oneCell']) rfl rfl ?_)
  simp only [sc0, scS]
  refine tA rfl rfl (tE (At.retC (At.thenR (At.ret2 (.inl rfl) rfl rfl (ResOf.all (i := 0) Tryd.isAgg31 Tryd.sizeOf31 rfl rfl rfl) rfl (fun w hw => ?_)))))
  exact ⟨by rw [fit_no (by unfold GoodSup; omega)], hw.mod⟩
 ·try simp only [wI_T, wI_F, notT, notF, bneT, bneF, beqT, beqF, decT, decF] at h3
  refine At.yes rfl rfl (tV (Val.field 1 rfl fo_23_1 rfl) rfl (At.yes rfl rfl (tV (Val.load (i := 1) Tryd.isAgg3 rfl rfl rfl) rfl (At.yes rfl rfl (At.callP (fun w hw => within_p _ _ _ w) Tryd.call59 rfl rfl (At.yes rfl rfl (tV (Val.not rfl) rfl (tV (Val.pickF rfl rfl) rfl (tM rfl rfl ?_)))))))))
  refine At.split (t := 15) rfl (fun h4 => ?_) (fun h4 => ?_)
  ·try simp only [wI_T, wI_F, notT, notF, bneT, bneF, beqT, beqF, decT, decF] at h4
   refine At.no rfl rfl rfl rfl (At.no rfl rfl rfl rfl (At.no rfl rfl rfl rfl (At.no rfl rfl rfl rfl (tV (Val.pickT rfl rfl) rfl (tM rfl rfl (At.no rfl rfl rfl rfl (At.no rfl rfl rfl rfl (At.no rfl rfl rfl rfl (At.no rfl rfl rfl rfl (tV (Val.pickT rfl rfl) rfl (tE (At.condT rfl (tR ?_)))))))))))))
   refine tV (Val.build (fun a ha => by simp only [List.map_toArray, List.map_cons, List.map_nil] <;> rfl) (bld_31_)) rfl (At.storeAll (i := 0) Tryd.sizeOf31 rfl rfl rfl (by simp [Value.oneCell']) rfl rfl ?_)
   simp only [sc0, scS]
   refine tA rfl rfl (tE (At.retC (At.thenR (At.ret2 (.inl rfl) rfl rfl (ResOf.all (i := 0) Tryd.isAgg31 Tryd.sizeOf31 rfl rfl rfl) rfl (fun w hw => ?_)))))
   exact ⟨by rw [fit_no (by unfold GoodSup; omega)], hw.mod⟩
  ·try simp only [wI_T, wI_F, notT, notF, bneT, bneF, beqT, beqF, decT, decF] at h4
   refine At.yes rfl rfl (tV (Val.field 1 rfl fo_23_1 rfl) rfl (At.yes rfl rfl (tV (Val.load (i := 1) Tryd.isAgg3 rfl rfl rfl) rfl (At.yes rfl rfl (tV (Val.rem rfl rfl (by decide)) rfl (At.yes rfl rfl (tV (Val.bin rfl rfl rfl) rfl (tV (Val.pickF rfl rfl) rfl (tM rfl rfl ?_)))))))))
   refine At.split (t := 21) rfl (fun h5 => ?_) (fun h5 => ?_)
   ·try simp only [wI_T, wI_F, notT, notF, bneT, bneF, beqT, beqF, decT, decF] at h5
    refine At.no rfl rfl rfl rfl (At.no rfl rfl rfl rfl (At.no rfl rfl rfl rfl (At.no rfl rfl rfl rfl (tV (Val.pickT rfl rfl) rfl (tE (At.condT rfl (tR ?_)))))))
    refine tV (Val.build (fun a ha => by simp only [List.map_toArray, List.map_cons, List.map_nil] <;> rfl) (bld_31_)) rfl (At.storeAll (i := 0) Tryd.sizeOf31 rfl rfl rfl (by simp [Value.oneCell']) rfl rfl ?_)
    simp only [sc0, scS]
    refine tA rfl rfl (tE (At.retC (At.thenR (At.ret2 (.inl rfl) rfl rfl (ResOf.all (i := 0) Tryd.isAgg31 Tryd.sizeOf31 rfl rfl rfl) rfl (fun w hw => ?_)))))
    exact ⟨by rw [fit_no (by unfold GoodSup; omega)], hw.mod⟩
   ·try simp only [wI_T, wI_F, notT, notF, bneT, bneF, beqT, beqF, decT, decF] at h5
    refine At.yes rfl rfl (tV (Val.field 2 rfl fo_23_2 rfl) rfl (At.yes rfl rfl (tV (Val.load (i := 1) Tryd.isAgg3 rfl rfl rfl) rfl (At.yes rfl rfl (At.callP (fun w hw => within_p _ _ _ w) Tryd.call59 rfl rfl (At.yes rfl rfl (tV (Val.not rfl) rfl (tV (Val.pickF rfl rfl) rfl (tE ?_)))))))))
    refine At.cond rfl (fun h6 => ?_) (fun h6 => ?_)
    ·try simp only [wI_T, wI_F, notT, notF, bneT, bneF, beqT, beqF, decT, decF] at h6
     refine tR ?_
     refine tV (Val.build (fun a ha => by simp only [List.map_toArray, List.map_cons, List.map_nil] <;> rfl) (bld_31_)) rfl (At.storeAll (i := 0) Tryd.sizeOf31 rfl rfl rfl (by simp [Value.oneCell']) rfl rfl ?_)
     simp only [sc0, scS]
     refine tA rfl rfl (tE (At.retC (At.thenR (At.ret2 (.inl rfl) rfl rfl (ResOf.all (i := 0) Tryd.isAgg31 Tryd.sizeOf31 rfl rfl rfl) rfl (fun w hw => ?_)))))
     exact ⟨by rw [fit_no (by unfold GoodSup; omega)], hw.mod⟩
    ·try simp only [wI_T, wI_F, notT, notF, bneT, bneF, beqT, beqF, decT, decF] at h6
     refine At.skipC (At.thenN (tR (tV (Val.field 1 rfl fo_23_1 rfl) rfl (tV (Val.load (i := 1) Tryd.isAgg3 rfl rfl rfl) rfl (tV (Val.bin rfl rfl rfl) rfl (tV (Val.bin rfl rfl rfl) rfl (tV (Val.quo rfl rfl (by decide)) rfl (tA rfl rfl (At.nil ?_)))))))))
     refine At.weaken [(1, .pointer (some ⟨b1, 0, none⟩)), (2, .pointer (some ⟨b2, 0, none⟩)), (4, .int .i64 (4 + i / 8))] (Sub.cons rfl (Sub.cons rfl (Sub.cons (congrArg (fun z => some (Value.int IntKind.i64 z)) (by rw [wrap_i64 (n := i * 64) (by omega) (by omega), wrap_i64 (n := 2048 + i * 64) (by omega) (by omega), tdiv_nn _ (by omega), wrap_i64 (by omega) (by omega)]; omega)) Sub.nil))) (At.thenN (At.seq (tR (tV (Val.field 0 rfl fo_23_0 rfl) rfl (tV (Val.load (i := 1) Tryd.isAgg3 rfl rfl rfl) rfl (tM rfl rfl (tV (Val.bin rfl rfl rfl) rfl ?_)))))))
     rw [wrap_i64 (by omega) (by omega)]
     refine tV (Val.bin rfl rfl rfl) rfl (tE ?_)
     refine At.cond rfl (fun h7 => ?_) (fun h7 => ?_)
     ·try simp only [wI_T, wI_F, notT, notF, bneT, bneF, beqT, beqF, decT, decF] at h7
      refine tR ?_
      refine tV (Val.build (fun a ha => by simp only [List.map_toArray, List.map_cons, List.map_nil] <;> rfl) (bld_31_)) rfl (At.storeAll (i := 0) Tryd.sizeOf31 rfl rfl rfl (by simp [Value.oneCell']) rfl rfl ?_)
      simp only [sc0, scS]
      refine tA rfl rfl (tE (At.retC (At.thenR (At.ret2 (.inl rfl) rfl rfl (ResOf.all (i := 0) Tryd.isAgg31 Tryd.sizeOf31 rfl rfl rfl) rfl (fun w hw => ?_)))))
      exact ⟨by rw [fit_no (by unfold GoodSup; omega)], hw.mod⟩
     ·try simp only [wI_T, wI_F, notT, notF, bneT, bneF, beqT, beqF, decT, decF] at h7
      refine At.skipC (At.thenN (tR (tV (Val.field 0 rfl fo_23_0 rfl) rfl (tV (Val.load (i := 1) Tryd.isAgg3 rfl rfl rfl) rfl (tV (Val.field 1 rfl fo_23_1 rfl) rfl (tV (Val.load (i := 1) Tryd.isAgg3 rfl rfl rfl) rfl (tV (Val.field 2 rfl fo_23_2 rfl) rfl (tV (Val.load (i := 1) Tryd.isAgg3 rfl rfl rfl) rfl (tM rfl rfl ?_)))))))))
      refine tV (Val.build (fun a ha => by simp only [List.map_toArray, List.map_cons, List.map_nil, ha.eval (x := (.tmp 40)) rfl, ha.eval (x := (.tmp 42)) rfl, ha.eval (x := (.tmp 44)) rfl, ha.eval (x := (.tmp 45)) rfl] <;> rfl) (bld_31_0_1_2_3 _ _ _ _ )) rfl (At.storeAll (i := 0) Tryd.sizeOf31 rfl rfl rfl (by simp [Value.oneCell']) rfl rfl ?_)
      simp only [sc0, scS]
      refine tA rfl rfl (tE (At.retC (At.ret2 (.inl rfl) rfl rfl (ResOf.all (i := 0) Tryd.isAgg31 Tryd.sizeOf31 rfl rfl rfl) rfl (fun w hw => ?_))))
      exact ⟨by rw [fit_yes (by unfold GoodSup; omega)], hw.mod⟩
theorem goodSup_p (p i c : Int) (w : World) (hp : -9223372036854775808 ≤ p ∧ p ≤ 9223372036854775807) :
    PureC Tryd.prog 50 [.agg #[.int .i64 p, .int .i64 i, .int .i64 c]] (.bool (decide (GoodSup p i c))) w := by
 refine enter0 Tryd.func50 rfl Tryd.ntmps50 rfl ?_
 have e8 := @rem8 i
 have q8 := @quo8 i
 simp only [envOf]
 refine tR (At.box rfl rfl rfl (fun b1 => (tA rfl rfl (tE (At.seq (tR (tV (Val.field 0 rfl fo_23_0 rfl) rfl (tV (Val.load (i := 0) Tryd.isAgg3 rfl rfl rfl) rfl (tV (Val.bin rfl rfl rfl) rfl (tM rfl rfl ?_))))))))))
 refine At.split (t := 6) rfl (fun h2 => ?_) (fun h2 => ?_)
 ·try simp only [wI_T, wI_F, notT, notF, bneT, bneF, beqT, beqF, decT, decF] at h2
  refine At.no rfl rfl rfl rfl (At.no rfl rfl rfl rfl (At.no rfl rfl rfl rfl (tV (Val.pickT rfl rfl) rfl (tM rfl rfl (At.no rfl rfl rfl rfl (At.no rfl rfl rfl rfl (At.no rfl rfl rfl rfl (tV (Val.pickT rfl rfl) rfl (tM rfl rfl (At.no rfl rfl rfl rfl (At.no rfl rfl rfl rfl (At.no rfl rfl rfl rfl (tV (Val.pickT rfl rfl) rfl (tE (At.condT rfl (tR (tA rfl rfl (tE (At.retC (At.thenR (At.ret1 (.inl rfl) rfl rfl rfl (fun w hw => ?_))))))))))))))))))))))
  exact ⟨by rw [decide_eq_false (by unfold GoodSup; omega)], hw.mod⟩
 ·try simp only [wI_T, wI_F, notT, notF, bneT, bneF, beqT, beqF, decT, decF] at h2
  refine At.yes rfl rfl (tV (Val.field 0 rfl fo_23_0 rfl) rfl (At.yes rfl rfl (tV (Val.load (i := 0) Tryd.isAgg3 rfl rfl rfl) rfl (At.yes rfl rfl (tV (Val.bin rfl rfl rfl) rfl (tV (Val.pickF rfl rfl) rfl (tM rfl rfl ?_)))))))
  refine At.split (t := 11) rfl (fun h3 => ?_) (fun h3 => ?_)
  ·try simp only [wI_T, wI_F, notT, notF, bneT, bneF, beqT, beqF, decT, decF] at h3
   refine At.no rfl rfl rfl rfl (At.no rfl rfl rfl rfl (At.no rfl rfl rfl rfl (tV (Val.pickT rfl rfl) rfl (tM rfl rfl (At.no rfl rfl rfl rfl (At.no rfl rfl rfl rfl (At.no rfl rfl rfl rfl (tV (Val.pickT rfl rfl) rfl (tE (At.condT rfl (tR (tA rfl rfl (tE (At.retC (At.thenR (At.ret1 (.inl rfl) rfl rfl rfl (fun w hw => ?_)))))))))))))))))
   exact ⟨by rw [decide_eq_false (by unfold GoodSup; omega)], hw.mod⟩
  ·try simp only [wI_T, wI_F, notT, notF, bneT, bneF, beqT, beqF, decT, decF] at h3
   refine At.yes rfl rfl (tV (Val.field 2 rfl fo_23_2 rfl) rfl (At.yes rfl rfl (tV (Val.load (i := 0) Tryd.isAgg3 rfl rfl rfl) rfl (At.yes rfl rfl (tV (Val.bin rfl rfl rfl) rfl (tV (Val.pickF rfl rfl) rfl (tM rfl rfl ?_)))))))
   refine At.split (t := 16) rfl (fun h4 => ?_) (fun h4 => ?_)
   ·try simp only [wI_T, wI_F, notT, notF, bneT, bneF, beqT, beqF, decT, decF] at h4
    refine At.no rfl rfl rfl rfl (At.no rfl rfl rfl rfl (At.no rfl rfl rfl rfl (tV (Val.pickT rfl rfl) rfl (tE (At.condT rfl (tR (tA rfl rfl (tE (At.retC (At.thenR (At.ret1 (.inl rfl) rfl rfl rfl (fun w hw => ?_))))))))))))
    exact ⟨by rw [decide_eq_false (by unfold GoodSup; omega)], hw.mod⟩
   ·try simp only [wI_T, wI_F, notT, notF, bneT, bneF, beqT, beqF, decT, decF] at h4
    refine At.yes rfl rfl (tV (Val.field 2 rfl fo_23_2 rfl) rfl (At.yes rfl rfl (tV (Val.load (i := 0) Tryd.isAgg3 rfl rfl rfl) rfl (At.yes rfl rfl (tV (Val.bin rfl rfl rfl) rfl (tV (Val.pickF rfl rfl) rfl (tE ?_)))))))
    refine At.cond rfl (fun h5 => ?_) (fun h5 => ?_)
    ·try simp only [wI_T, wI_F, notT, notF, bneT, bneF, beqT, beqF, decT, decF] at h5
     refine tR (tA rfl rfl (tE (At.retC (At.thenR (At.ret1 (.inl rfl) rfl rfl rfl (fun w hw => ?_))))))
     exact ⟨by rw [decide_eq_false (by unfold GoodSup; omega)], hw.mod⟩
    ·try simp only [wI_T, wI_F, notT, notF, bneT, bneF, beqT, beqF, decT, decF] at h5
     refine At.skipC (At.thenN (At.seq (tR (tV (Val.field 1 rfl fo_23_1 rfl) rfl (tV (Val.load (i := 0) Tryd.isAgg3 rfl rfl rfl) rfl (tV (Val.bin rfl rfl rfl) rfl (tM rfl rfl ?_)))))))
     refine At.split (t := 24) rfl (fun h6 => ?_) (fun h6 => ?_)
     ·try simp only [wI_T, wI_F, notT, notF, bneT, bneF, beqT, beqF, decT, decF] at h6
      refine At.no rfl rfl rfl rfl (At.no rfl rfl rfl rfl (At.no rfl rfl rfl rfl (tV (Val.pickT rfl rfl) rfl (tM rfl rfl (At.no rfl rfl rfl rfl (At.no rfl rfl rfl rfl (At.no rfl rfl rfl rfl (At.no rfl rfl rfl rfl (tV (Val.pickT rfl rfl) rfl (tE (At.condT rfl (tR (tA rfl rfl (tE (At.retC (At.thenR (At.ret1 (.inl rfl) rfl rfl rfl (fun w hw => ?_))))))))))))))))))
      exact ⟨by rw [decide_eq_false (by unfold GoodSup; omega)], hw.mod⟩
     ·try simp only [wI_T, wI_F, notT, notF, bneT, bneF, beqT, beqF, decT, decF] at h6
      refine At.yes rfl rfl (tV (Val.field 1 rfl fo_23_1 rfl) rfl (At.yes rfl rfl (tV (Val.load (i := 0) Tryd.isAgg3 rfl rfl rfl) rfl (At.yes rfl rfl (tV (Val.bin rfl rfl rfl) rfl (tV (Val.pickF rfl rfl) rfl (tM rfl rfl ?_)))))))
      refine At.split (t := 29) rfl (fun h7 => ?_) (fun h7 => ?_)
      ·try simp only [wI_T, wI_F, notT, notF, bneT, bneF, beqT, beqF, decT, decF] at h7
       refine At.no rfl rfl rfl rfl (At.no rfl rfl rfl rfl (At.no rfl rfl rfl rfl (At.no rfl rfl rfl rfl (tV (Val.pickT rfl rfl) rfl (tE (At.condT rfl (tR (tA rfl rfl (tE (At.retC (At.thenR (At.ret1 (.inl rfl) rfl rfl rfl (fun w hw => ?_)))))))))))))
       exact ⟨by rw [decide_eq_false (by unfold GoodSup; omega)], hw.mod⟩
      ·try simp only [wI_T, wI_F, notT, notF, bneT, bneF, beqT, beqF, decT, decF] at h7
       refine At.yes rfl rfl (tV (Val.field 1 rfl fo_23_1 rfl) rfl (At.yes rfl rfl (tV (Val.load (i := 0) Tryd.isAgg3 rfl rfl rfl) rfl (At.yes rfl rfl (tV (Val.rem rfl rfl (by decide)) rfl (At.yes rfl rfl (tV (Val.bin rfl rfl rfl) rfl (tV (Val.pickF rfl rfl) rfl (tE ?_)))))))))
       refine At.cond rfl (fun h8 => ?_) (fun h8 => ?_)
       ·try simp only [wI_T, wI_F, notT, notF, bneT, bneF, beqT, beqF, decT, decF] at h8
        refine tR (tA rfl rfl (tE (At.retC (At.thenR (At.ret1 (.inl rfl) rfl rfl rfl (fun w hw => ?_))))))
        exact ⟨by rw [decide_eq_false (by unfold GoodSup; omega)], hw.mod⟩
       ·try simp only [wI_T, wI_F, notT, notF, bneT, bneF, beqT, beqF, decT, decF] at h8
        refine At.skipC (At.thenN (tR (tV (Val.field 0 rfl fo_23_0 rfl) rfl (tV (Val.load (i := 0) Tryd.isAgg3 rfl rfl rfl) rfl (tV (Val.bin rfl rfl rfl) rfl (tV (Val.field 1 rfl fo_23_1 rfl) rfl (tV (Val.load (i := 0) Tryd.isAgg3 rfl rfl rfl) rfl (tV (Val.quo rfl rfl (by decide)) rfl (tV (Val.bin rfl rfl rfl) rfl (tV (Val.bin rfl rfl rfl) rfl (tA rfl rfl (tE (At.retC (At.ret1 (.inl rfl) rfl rfl rfl (fun w hw => ?_)))))))))))))))
        exact ⟨by rw [wrap_i64 (n := p - 4) (by omega) (by omega), quo8 (by omega), wrap_i64 (n := i / 8) (by omega) (by omega), wrap_i64 (by omega) (by omega)]; refine retB (Bool.eq_iff_iff.2 ?_); simp only [decide_eq_true_eq]; unfold GoodSup; omega, hw.mod⟩
theorem fitR_p (p i c : Int) (w : World) (hp : -9223372036854775808 ≤ p ∧ p ≤ 9223372036854775807) :
    PureC Tryd.prog 25 [.agg #[.int .i64 p, .int .i64 i, .int .i64 c]] (fitV p i c) w := by
 refine enter0 Tryd.func25 rfl Tryd.ntmps25 rfl ?_
 have e8 := @rem8 i
 have q8 := @quo8 i
 simp only [envOf]
 refine tR (At.box rfl rfl rfl (fun b1 => (At.alloc Tryd.zeroValue31 rfl rfl (fun b2 => (tA rfl rfl (tE (At.seq (tR (tV (Val.loadAll (i := 1) Tryd.isAgg23 Tryd.sizeOf23 rfl rfl rfl) rfl (At.callP (fun w hw => goodSup_p _ _ _ w hp) Tryd.call50 rfl rfl (tV (Val.not rfl) rfl (tE ?_))))))))))))
 refine At.cond rfl (fun h3 => ?_) (fun h3 => ?_)
 ·try simp only [wI_T, wI_F, notT, notF, bneT, bneF, beqT, beqF, decT, decF] at h3
  refine tR ?_
  refine tV (Val.build (fun a ha => by simp only [List.map_toArray, List.map_cons, List.map_nil] <;> rfl) (bld_31_)) rfl (At.storeAll (i := 0) Tryd.sizeOf31 rfl rfl rfl (by simp [Value.oneCell']) rfl rfl ?_)
  simp only [sc0, scS]
  refine tA rfl rfl (tE (At.retC (At.thenR (At.ret2 (.inl rfl) rfl rfl (ResOf.all (i := 0) Tryd.isAgg31 Tryd.sizeOf31 rfl rfl rfl) rfl (fun w hw => ?_)))))
  exact ⟨by rw [fit_no ‹¬ GoodSup p i c›], hw.mod⟩
 ·try simp only [wI_T, wI_F, notT, notF, bneT, bneF, beqT, beqF, decT, decF] at h3
  refine At.skipC (At.thenN (tR (tV (Val.field 0 rfl fo_23_0 rfl) rfl (tV (Val.load (i := 1) Tryd.isAgg3 rfl rfl rfl) rfl (tV (Val.field 1 rfl fo_23_1 rfl) rfl (tV (Val.load (i := 1) Tryd.isAgg3 rfl rfl rfl) rfl (tV (Val.field 2 rfl fo_23_2 rfl) rfl (tV (Val.load (i := 1) Tryd.isAgg3 rfl rfl rfl) rfl (tV (Val.field 1 rfl fo_23_1 rfl) rfl (tV (Val.load (i := 1) Tryd.isAgg3 rfl rfl rfl) rfl ?_))))))))))
  have hg : GoodSup p i c := ‹GoodSup p i c›
  have hg' := hg
  unfold GoodSup at hg'
  refine tV (Val.quo rfl rfl (by decide)) rfl ?_
  rw [quo8 (by omega), wrap_i64 (by omega) (by omega)]
  refine tV (Val.bin rfl rfl rfl) rfl ?_
  rw [wrap_i64 (by omega) (by omega)]
  refine tV (Val.build (fun a ha => by simp only [List.map_toArray, List.map_cons, List.map_nil, ha.eval (x := (.tmp 9)) rfl, ha.eval (x := (.tmp 11)) rfl, ha.eval (x := (.tmp 13)) rfl, ha.eval (x := (.tmp 17)) rfl] <;> rfl) (bld_31_0_1_2_3 _ _ _ _ )) rfl (At.storeAll (i := 0) Tryd.sizeOf31 rfl rfl rfl (by simp [Value.oneCell']) rfl rfl ?_)
  simp only [sc0, scS]
  refine tA rfl rfl (tE (At.retC (At.ret2 (.inl rfl) rfl rfl (ResOf.all (i := 0) Tryd.isAgg31 Tryd.sizeOf31 rfl rfl rfl) rfl (fun w hw => ?_))))
  exact ⟨by rw [fit_yes hg], hw.mod⟩
theorem inodeR_p (n : Int) (w : World) :
    PureC Tryd.prog 93 [.int .i64 n] (.bool (isInoB n)) w := by
 refine enter0 Tryd.func93 rfl Tryd.ntmps93 rfl ?_
 simp only [envOf]
 refine tR (tA rfl rfl (tE (tR (tM rfl rfl (tV (Val.bin rfl rfl rfl) rfl (tM rfl rfl ?_))))))
 refine At.split (t := 5) rfl (fun h1 => ?_) (fun h1 => ?_)
 ·refine At.yes rfl rfl (tM rfl rfl (At.yes rfl rfl (tV (Val.bin rfl rfl rfl) rfl (tV (Val.pickT rfl rfl) rfl (tA rfl rfl (tE (At.retC (At.ret1 (.inl rfl) rfl rfl rfl (fun w hw => ?_)))))))))
  exact ⟨by refine retB (Bool.eq_iff_iff.2 ?_); simp only [decide_eq_true_eq, ino_T]; simp at h1; omega, hw.mod⟩
 ·refine At.no rfl rfl rfl rfl (At.no rfl rfl rfl rfl (tV (Val.pickF rfl rfl) rfl (tA rfl rfl (tE (At.retC (At.ret1 (.inl rfl) rfl rfl rfl (fun w hw => ?_)))))))
  exact ⟨by refine retB (Eq.symm ?_); rw [ino_F]; simp at h1; omega, hw.mod⟩
theorem slotAtR_p (n : Int) (w : World) :
    PureC Tryd.prog 80 [.int .i64 n] (.int .i64 (slotAt n)) w := by
 refine enter0 Tryd.func80 rfl Tryd.ntmps80 rfl ?_
 simp only [envOf]
 refine tR (tA rfl rfl (tE (At.seq (tR (tM rfl rfl (At.callP (fun w hw => inodeR_p _ w) Tryd.call93 rfl rfl (tV (Val.not rfl) rfl (tE ?_))))))))
 refine At.cond rfl (fun h1 => ?_) (fun h1 => ?_)
 ·try simp only [notT, notF] at h1
  refine tR (tA rfl rfl (tE (At.retC (At.thenR (At.ret1 (.inl rfl) rfl rfl rfl (fun w hw => ?_))))))
  exact ⟨by rw [slotAt_F h1], hw.mod⟩
 ·try simp only [notT, notF] at h1
  refine At.skipC (At.thenN (tR (tM rfl rfl (tV (Val.bin rfl rfl rfl) rfl (tV (Val.bin rfl rfl rfl) rfl (tV (Val.bin rfl rfl rfl) rfl (tA rfl rfl (tE (At.retC (At.ret1 (.inl rfl) rfl rfl rfl (fun w hw => ?_)))))))))))
  exact ⟨by rw [slotAt_T h1]; have h2 := ino_T.1 h1; refine retI ?_; rw [wrap_i64 (n := n - 1) (by omega) (by omega), wrap_i64 (n := 64 * (n - 1)) (by omega) (by omega), wrap_i64 (by omega) (by omega)], hw.mod⟩
end Go.Proofs.YtfchinibjhcejaaDoor
namespace Go.Proofs.YtfchinibjhcejaaDoor
open Go Go.Wk
theorem sumOn_p (s : BitVec 32) (A : Option Addr) (l : List UInt8) (c : Nat) (w : World) (hb : Bytes w A l) (ht : Tab w) (hlen : l.length ≤ 140737488355328) :
    PureC Tryd.prog 69 [b32 s, .slice A l.length c] (b32 (sumOn s l)) w := by
 refine enter0 Tryd.func69 rfl Tryd.ntmps69 rfl ?_
 simp only [envOf]
 refine tR (tA rfl rfl (tE (tR (tM rfl rfl (tV (Val.com rfl) rfl (tA rfl rfl (tE (At.seq (tR (tM rfl rfl (tV (Val.len (bt := #[]) Tryd.underlying29 rfl) rfl (tM rfl rfl (tE (At.block ?_))))))))))))))
 skip
 refine At.loop (σ := Nat) (fun k => k ≤ l.length) (fun k => [(5, b32 (crc (~~~s) (l.take k))), (10, .slice A l.length c), (11, .int .i64 l.length), (12, .int .i64 k)]) (fun k => []) (fun k => l.length - k) 0 (Nat.zero_le _) (Sub.cons (congrArg (fun z => some (Value.int IntKind.u32 z)) (com32 s)) (Sub.cons rfl (Sub.cons rfl (Sub.cons rfl Sub.nil)))) (List.Perm.refl _) ?_
 intro k hs
 refine tR (tV (Val.bin rfl rfl rfl) rfl (tE (At.seq ?_)))
 refine At.cond rfl (fun h1 => ?_) (fun h1 => ?_)
 ·have hk : k < l.length := by simpa using h1
  obtain ⟨c', hc'⟩ : ∃ c', l[k]? = some c' := ⟨_, List.getElem?_eq_getElem hk⟩
  obtain ⟨b, o, rfl, hcell⟩ := hb k c' hc'
  refine At.skipC (At.thenN (At.seq (At.block (tR (tV (Val.indexSl (o + k) (by simp) Tryd.underlying29 Tryd.sizeOf5 rfl rfl (by omega) (by omega)) rfl (tV (Val.loadOld Tryd.isAgg5 rfl hcell (fun h => h)) rfl (tA rfl rfl (tE (tR (tM rfl rfl (tM rfl rfl (tV (Val.conv Tryd.underlying5 Tryd.underlying68 rfl) rfl (tV (Val.bin rfl rfl rfl) rfl (tA rfl rfl (At.nil (At.weaken [(5, b32 ((crc (~~~s) (l.take k)) ^^^ BitVec.ofNat 32 c'.toNat)), (10, .slice (some ⟨b, o, none⟩) l.length c), (11, .int .i64 l.length), (12, .int .i64 k)] (Sub.cons (congrArg (fun z => some (Value.int IntKind.u32 z)) (by rw [wrap_u32_nat, xor32])) (Sub.cons rfl (Sub.cons rfl (Sub.cons rfl Sub.nil)))) (At.thenN (tR (tM rfl rfl (tV (Val.bin rfl rfl rfl) rfl ?_))))))))))))))))))))
  refine tV (Val.indexArr (((crc (~~~s) (l.take k)) ^^^ BitVec.ofNat 32 c'.toNat) &&& 15).toNat (by rw [and15 ((crc (~~~s) (l.take k)) ^^^ BitVec.ofNat 32 c'.toNat)]; simp) Tryd.underlying135 Tryd.sizeOf68 rfl rfl (by rw [and15 ((crc (~~~s) (l.take k)) ^^^ BitVec.ofNat 32 c'.toNat)]; omega) (by rw [and15 ((crc (~~~s) (l.take k)) ^^^ BitVec.ofNat 32 c'.toNat)]; have := and15_lt ((crc (~~~s) (l.take k)) ^^^ BitVec.ofNat 32 c'.toNat); omega)) rfl (tV (Val.loadOld Tryd.isAgg68 rfl (ht _ (and15_lt ((crc (~~~s) (l.take k)) ^^^ BitVec.ofNat 32 c'.toNat))) (fun h => h)) rfl (tM rfl rfl (tV (Val.shr rfl rfl (by decide)) rfl (tV (Val.bin rfl rfl rfl) rfl (tA rfl rfl (At.nil ?_))))))
  refine At.weaken [(5, b32 (step4 ((crc (~~~s) (l.take k)) ^^^ BitVec.ofNat 32 c'.toNat))), (10, .slice (some ⟨b, o, none⟩) l.length c), (11, .int .i64 l.length), (12, .int .i64 k)] (Sub.cons (congrArg (fun z => some (Value.int IntKind.u32 z)) (by rw [show (((crc (~~~s) (l.take k)) ^^^ BitVec.ofNat 32 c'.toNat).toNat : Int).fdiv (2 ^ min (4 : Int).toNat IntKind.u32.bits) = (((crc (~~~s) (l.take k)) ^^^ BitVec.ofNat 32 c'.toNat) >>> 4).toNat from shr32 _ 4 (by decide), xor32]; rfl)) (Sub.cons rfl (Sub.cons rfl (Sub.cons rfl Sub.nil)))) (At.thenN (At.region (tM rfl rfl (tV (Val.bin rfl rfl rfl) rfl ?_))))
  refine tV (Val.indexArr ((step4 ((crc (~~~s) (l.take k)) ^^^ BitVec.ofNat 32 c'.toNat)) &&& 15).toNat (by rw [and15 (step4 ((crc (~~~s) (l.take k)) ^^^ BitVec.ofNat 32 c'.toNat))]; simp) Tryd.underlying135 Tryd.sizeOf68 rfl rfl (by rw [and15 (step4 ((crc (~~~s) (l.take k)) ^^^ BitVec.ofNat 32 c'.toNat))]; omega) (by rw [and15 (step4 ((crc (~~~s) (l.take k)) ^^^ BitVec.ofNat 32 c'.toNat))]; have := and15_lt (step4 ((crc (~~~s) (l.take k)) ^^^ BitVec.ofNat 32 c'.toNat)); omega)) rfl (tV (Val.loadOld Tryd.isAgg68 rfl (ht _ (and15_lt (step4 ((crc (~~~s) (l.take k)) ^^^ BitVec.ofNat 32 c'.toNat)))) (fun h => h)) rfl (tM rfl rfl (tV (Val.shr rfl rfl (by decide)) rfl (tV (Val.bin rfl rfl rfl) rfl (tA rfl rfl (At.nil ?_))))))
  refine At.weaken [(5, b32 (crc (~~~s) (l.take (k + 1)))), (10, .slice (some ⟨b, o, none⟩) l.length c), (11, .int .i64 l.length), (12, .int .i64 k)] (Sub.cons (congrArg (fun z => some (Value.int IntKind.u32 z)) (by rw [show ((step4 ((crc (~~~s) (l.take k)) ^^^ BitVec.ofNat 32 c'.toNat)).toNat : Int).fdiv (2 ^ min (4 : Int).toNat IntKind.u32.bits) = ((step4 ((crc (~~~s) (l.take k)) ^^^ BitVec.ofNat 32 c'.toNat)) >>> 4).toNat from shr32 _ 4 (by decide), xor32]; rw [crc_take_succ _ _ _ _ hc']; rfl)) (Sub.cons rfl (Sub.cons rfl (Sub.cons rfl Sub.nil)))) (At.blkN (At.thenN (At.region (tV (Val.bin rfl rfl rfl) rfl (tM rfl rfl (tE ?_))))))
  exact At.again (k + 1) (by omega) (by omega) (Sub.cons rfl (Sub.cons rfl (Sub.cons rfl (Sub.cons (by rw [wrap_i64 (by omega) (by omega)]; rfl) Sub.nil)))) (List.Perm.refl _)
 ·have hk : k = l.length := by have := h1; simp at this; omega
  refine At.exitC (At.thenX (At.thenX (At.blkX (At.thenN (tR (tM rfl rfl (tV (Val.com rfl) rfl (tA rfl rfl (tE (At.retC (At.ret1 (.inl rfl) rfl rfl rfl (fun w hw => ?_))))))))))))
  exact ⟨by rw [com32, hk, List.take_length]; rfl, hw.mod⟩
theorem sum_p (A : Option Addr) (l : List UInt8) (c : Nat) (w : World) (hb : Bytes w A l) (ht : Tab w) (hlen : l.length ≤ 140737488355328) :
    PureC Tryd.prog 42 [.slice A l.length c] (b32 (sumOn 0 l)) w := by
 refine enter0 Tryd.func42 rfl Tryd.ntmps42 rfl ?_
 simp only [envOf]
 refine tR (tA rfl rfl (tE (tR (tM rfl rfl (At.callP (fun w hw => sumOn_p 0 _ _ _ w (hb.mod hw.mod) (ht.mod hw.mod) hlen) Tryd.call69 rfl rfl (tA rfl rfl (tE (At.retC (At.ret1 (.inl rfl) rfl rfl rfl (fun w hw => ?_))))))))))
 exact ⟨rfl, hw.mod⟩
theorem sum_n (A : Option Addr) (l : List UInt8) (n c : Nat) (w : World) (hn : l.length = n) (hb : Bytes w A l) (ht : Tab w) (hlen : n ≤ 140737488355328) : PureC Tryd.prog 42 [.slice A n c] (b32 (sumOn 0 l)) w := by
  subst hn; exact sum_p A l c w hb ht hlen
theorem sumOn_n (s : BitVec 32) (A : Option Addr) (l : List UInt8) (n c : Nat) (w : World) (hn : l.length = n) (hb : Bytes w A l) (ht : Tab w) (hlen : n ≤ 140737488355328) : PureC Tryd.prog 69 [b32 s, .slice A n c] (b32 (sumOn s l)) w := by
  subst hn; exact sumOn_p s A l c w hb ht hlen
end Go.Proofs.YtfchinibjhcejaaDoor
namespace Go.Proofs.YtfchinibjhcejaaDoor
open Go Go.Wk
theorem lay_p (x : BitVec 64) (w : World) :
    PureC Tryd.prog 67 [b64 x] (.agg ((le 8 x.toNat).map bv).toArray) w := by
 refine enter0 Tryd.func67 rfl Tryd.ntmps67 rfl ?_
 simp only [envOf]
 refine tR (At.alloc zero_115 zc_115 rfl (fun b1 => (tE (tR (At.alloc zero_115 zc_115 rfl (fun b2 => (tE (At.seq (tR (tM rfl rfl (tE (At.block ?_))))))))))))
 skip
 refine At.loop (σ := Nat) (fun k => k ≤ 8) (fun k => [(0, b64 x), (2, .pointer (some ⟨b1, 0, none⟩)), (3, .pointer (some ⟨b2, 0, none⟩)), (5, .int .i64 k)]) (fun k => [blk b2 115 ((fillTo (le 8 x.toNat) (zs 8) k).map bv), blk b1 115 (List.replicate 8 (Value.int .u8 0))]) (fun k => 8 - k) 0 (by omega) (Sub.cons rfl (Sub.cons rfl (Sub.cons rfl (Sub.cons rfl Sub.nil)))) (List.Perm.refl _) ?_
 intro k hs
 refine tR (tV (Val.bin rfl rfl rfl) rfl (tE (At.seq ?_)))
 refine At.cond rfl (fun h3 => ?_) (fun h3 => ?_)
 ·have hk : k < 8 := by have := h3; simp at this; omega
  have e8 : (8 * (k : Int)).toNat = 8 * k := by omega
  have hc := le_get 8 x.toNat k hk
  refine At.skipC (At.thenN (At.seq (At.block (tR (tM rfl rfl (tA rfl rfl (tE (At.region (tM rfl rfl (tM rfl rfl (tM rfl rfl (tV (Val.bin rfl rfl rfl) rfl ?_))))))))))))
  refine tV (Val.shr rfl rfl (by rw [wrap_i64 (by omega) (by omega)]; omega)) rfl (tV (Val.conv Tryd.underlying38 Tryd.underlying5 rfl) rfl (tV (Val.indexArr k (by simp) Tryd.underlying115 Tryd.sizeOf5 rfl rfl (by omega) (by omega)) rfl (At.store (i := 0) (v := bv (UInt8.ofNat (x.toNat / 256 ^ k))) Tryd.sizeOf5 rfl (congrArg (fun z => some (Value.int IntKind.u8 z)) (by rw [show IntKind.i64.wrap (8 * (k : Int)) = ((8 * k : Nat) : Int) from by rw [wrap_i64 (by omega) (by omega)]; omega, Int.toNat_natCast, show IntKind.u64.bits = 64 from rfl, shr64 x (8 * k) (by omega), wrap_u8_nat, bit_shift_div, pow_256])) rfl rfl (by rw [fill_len (by simp [le_length, zs_length]), le_length]; exact hk) ?_)))
  simp only [sc0, scS]
  rw [fill_step hc (by simp [le_length, zs_length])]
  refine At.nil (At.blkN (At.thenN (At.region (tV (Val.bin rfl rfl rfl) rfl (tM rfl rfl (tE ?_))))))
  exact At.again (k + 1) (by omega) (by omega) (Sub.cons rfl (Sub.cons rfl (Sub.cons rfl (Sub.cons (congrArg (fun z => some (Value.int IntKind.i64 z)) (wrap_i64 (by omega) (by omega))) Sub.nil)))) (List.Perm.refl _)
 ·have hk : k = 8 := by have := h3; simp at this; omega
  refine At.exitC (At.thenX (At.thenX (At.blkX (At.thenN (tR (tV (Val.loadAll (i := 0) Tryd.isAgg115 Tryd.sizeOf115 rfl rfl (by rw [fill_len (by simp [le_length, zs_length]), le_length])) rfl (At.storeAll (i := 1) Tryd.sizeOf115 rfl rfl (by rw [fill_len (by simp [le_length, zs_length]), le_length]) (by simp [Value.oneCell']) rfl (by simp) ?_)))))))
  simp only [sc0, scS]
  refine tE (At.retC (At.ret1 (.inl rfl) rfl rfl (ResOf.all (i := 1) Tryd.isAgg115 Tryd.sizeOf115 rfl rfl (by rw [fill_len (by simp [le_length, zs_length]), le_length])) (fun w hw => ?_)))
  exact ⟨by rw [hk, fillTo_all (le_length 8 _) (zs_length 8)], hw.mod⟩
theorem check_p (a : Int) (v : BitVec 32) (w : World) (ht : Tab w) :
    PureC Tryd.prog 47 [.int .i64 a, b32 v] (b32 (checkW (BitVec.ofInt 64 a) v)) w := by
 refine enter0 Tryd.func47 rfl Tryd.ntmps47 rfl ?_
 simp only [envOf]
 refine tR (tA rfl rfl (At.nil (At.weaken [(0, .int .i64 a), (1, b32 v), (4, .int .u32 0)] (Sub.cons rfl (Sub.cons rfl (Sub.cons rfl Sub.nil))) (At.thenN (tR (tM rfl rfl (tV (Val.conv Tryd.underlying3 Tryd.underlying38 rfl) rfl ?_)))))))
 rw [wrap_u64_int]
 refine At.callP (fun w hw => lay_p (BitVec.ofInt 64 a) w) Tryd.call67 rfl rfl (At.alloc zero_115 zc_115 rfl (fun b1 => (At.storeAll (i := 0) Tryd.sizeOf115 rfl rfl (by simp [le_length]) (by simp [Value.oneCell']) rfl (by simp) ?_)))
 simp only [sc0, scS]
 refine tE (tR (tM rfl rfl (tV (Val.conv Tryd.underlying68 Tryd.underlying38 rfl) rfl ?_)))
 rw [u64_of32]
 refine At.callP (fun w hw => lay_p _ w) Tryd.call67 rfl rfl (At.alloc zero_115 zc_115 rfl (fun b2 => (At.storeAll (i := 0) Tryd.sizeOf115 rfl rfl (by simp [le_length]) (by simp [Value.oneCell']) rfl (by simp) ?_)))
 simp only [sc0, scS]
 refine tE (At.seq (At.quiet rfl (by decide +kernel) (qV (Val.cutArr 0 8 0 8 8 Tryd.underlying115 Tryd.sizeOf5 rfl rfl rfl (by decide) (by decide) rfl rfl rfl) rfl (QAt.callP (fun w hw => sum_n _ (le 8 (BitVec.ofInt 64 a).toNat) 8 8 w (le_length ..) (hw.blk (i := 1) rfl).bytes' (ht.mod hw.mod) (by decide)) Tryd.call42 rfl rfl (qV (Val.cutArr 0 4 0 4 8 Tryd.underlying115 Tryd.sizeOf5 rfl rfl ⟨_, _, rfl, by decide, rfl⟩ (by decide) (by decide) rfl rfl rfl) rfl ?_)))))
 refine QAt.callP (fun w hw => sumOn_n _ _ (le 4 v.toNat) 4 8 w (le_length ..) (by have := ((hw.blk (i := 0) rfl).bytes').take 4; rw [le_take (by decide), BitVec.toNat_setWidth, Nat.mod_eq_of_lt (by have := v.isLt; omega)] at this; exact this) (ht.mod hw.mod) (by decide)) Tryd.call69 rfl rfl (qV (Val.assign rfl) rfl (QAt.fin (At.thenN (At.retC (At.ret1 (.inl rfl) rfl rfl rfl (fun w hw => ?_))))))
 exact ⟨by rw [sumOn_append]; rfl, hw.mod⟩
theorem seal_p (a : Int) (v : BitVec 32) (w : World) (ht : Tab w) :
    PureC Tryd.prog 21 [.int .i64 a, b32 v] (b64 (sealW (BitVec.ofInt 64 a) v)) w := by
 refine enter0 Tryd.func21 rfl Tryd.ntmps21 rfl ?_
 simp only [envOf]
 refine tR (tA rfl rfl (tE (At.seq (tR (tM rfl rfl (tV (Val.bin rfl rfl rfl) rfl (tE ?_)))))))
 refine At.cond rfl (fun h1 => ?_) (fun h1 => ?_)
 ·refine tR (tA rfl rfl (tE (At.retC (At.thenR (At.ret1 (.inl rfl) rfl rfl rfl (fun w hw => ?_))))))
  exact ⟨by rw [seal_zero (by have := h1; simp at this; exact BitVec.eq_of_toNat_eq (by simpa using this))]; rfl, hw.mod⟩
 ·refine At.skipC (At.thenN (tR (tM rfl rfl (tM rfl rfl (At.callP (fun w hw => check_p _ _ w (ht.mod hw.mod)) Tryd.call47 rfl rfl (tV (Val.conv Tryd.underlying68 Tryd.underlying38 rfl) rfl ?_))))))
  rw [u64_of32]
  refine tV (Val.shl rfl rfl (by decide)) rfl ?_
  rw [show IntKind.u64.wrap ((((checkW (BitVec.ofInt 64 a) v).setWidth 64).toNat : Int) * 2 ^ min (32 : Int).toNat IntKind.u64.bits) = ((((checkW (BitVec.ofInt 64 a) v).setWidth 64) <<< 32).toNat : Int) from shl64 _ 32 (by decide)]
  refine tM rfl rfl (tV (Val.conv Tryd.underlying68 Tryd.underlying38 rfl) rfl ?_)
  rw [u64_of32]
  refine tV (Val.bin rfl rfl rfl) rfl ?_
  rw [or64]
  refine tA rfl rfl (tE (At.retC (At.ret1 (.inl rfl) rfl rfl rfl (fun w hw => ?_))))
  exact ⟨by rw [seal_some (by intro e; subst e; simp at h1)], hw.mod⟩
theorem unseal_p (a : Int) (x : BitVec 64) (w : World) (ht : Tab w) :
    PureC Tryd.prog 75 [.int .i64 a, b64 x] (unsealV (BitVec.ofInt 64 a) x) w := by
 refine enter0 Tryd.func75 rfl Tryd.ntmps75 rfl ?_
 simp only [envOf]
 refine tR (tA rfl rfl (tA rfl rfl (tE (tR (tM rfl rfl (tV (Val.conv Tryd.underlying38 Tryd.underlying68 rfl) rfl ?_))))))
 rw [conv_u32_64]
 refine tA rfl rfl (tE (At.seq (tR (tM rfl rfl (tM rfl rfl (At.callP (fun w hw => seal_p _ _ w (ht.mod hw.mod)) Tryd.call21 rfl rfl (tM rfl rfl (tV (Val.bin rfl rfl rfl) rfl (tE ?_)))))))))
 refine At.cond rfl (fun h1 => ?_) (fun h1 => ?_)
 ·refine tR (tA rfl rfl (tA rfl rfl (tE (At.retC (At.thenR (At.ret2 (.inl rfl) rfl rfl rfl rfl (fun w hw => ?_)))))))
  exact ⟨by rw [unseal_no (bv_ne64 h1)], hw.mod⟩
 ·refine At.skipC (At.thenN (tR (tM rfl rfl (tA rfl rfl (tA rfl rfl (tE (At.retC (At.ret2 (.inl rfl) rfl rfl rfl rfl (fun w hw => ?_)))))))))
  exact ⟨by rw [unseal_yes (bv_eq64 h1)], hw.mod⟩
end Go.Proofs.YtfchinibjhcejaaDoor
namespace Go.Proofs.YtfchinibjhcejaaDoor
open Go Go.Wk
theorem and1 (x : BitVec 32) : ib .and .u32 (x.toNat : Int) 1 = ((x &&& 1).toNat : Int) := and32 x 1
theorem xorp (x : BitVec 32) : ib .xor .u32 (x.toNat : Int) 3988292384 = ((x ^^^ poly).toNat : Int) := xor32 x poly
theorem bit_T {r : BitVec 32} (h : (((r &&& 1).toNat : Int) == 1) = true) : bit r = (r >>> 1) ^^^ poly := by
  have h' : ((r &&& 1).toNat : Int) = 1 := by simpa using h
  have : (r &&& 1) = 1 := by apply BitVec.eq_of_toNat_eq; show (r &&& 1).toNat = 1; omega
  unfold bit; rw [if_pos this]
theorem bit_F {r : BitVec 32} (h : (((r &&& 1).toNat : Int) == 1) = false) : bit r = r >>> 1 := by
  have : ¬ (r &&& 1) = 1 := by intro e; rw [e] at h; simp at h
  unfold bit; rw [if_neg this]
theorem rsumOn_p (s : BitVec 32) (A : Option Addr) (l : List UInt8) (c : Nat) (w : World) (hb : Bytes w A l) (hlen : l.length ≤ 140737488355328) :
    PureC Tryd.prog 74 [b32 s, .slice A l.length c] (b32 (sumOn s l)) w := by
 refine enter0 Tryd.func74 rfl Tryd.ntmps74 rfl ?_
 simp only [envOf]
 refine tR (tA rfl rfl (tE (tR (tM rfl rfl (tV (Val.com rfl) rfl (tA rfl rfl (tE (At.seq (tR (tA rfl rfl (tE (At.block ?_))))))))))))
 skip
 refine At.loop (σ := Nat) (fun k => k ≤ l.length) (fun k => [(0, b32 s), (1, .slice A l.length c), (5, b32 (crc (~~~s) (l.take k))), (6, .int .i64 k)]) (fun k => []) (fun k => l.length - k) 0 (Nat.zero_le _) (Sub.cons rfl (Sub.cons rfl (Sub.cons (congrArg (fun z => some (Value.int IntKind.u32 z)) (com32 s)) (Sub.cons rfl Sub.nil)))) (List.Perm.refl _) ?_
 intro k hs
 refine At.seq (tR (tM rfl rfl (tM rfl rfl (tV (Val.len (bt := #[]) Tryd.underlying29 rfl) rfl (tV (Val.bin rfl rfl rfl) rfl (tE ?_))))))
 refine At.cond rfl (fun h1 => ?_) (fun h1 => ?_)
 ·have hk : k < l.length := by simpa using h1
  obtain ⟨c', hc'⟩ : ∃ c', l[k]? = some c' := ⟨_, List.getElem?_eq_getElem hk⟩
  obtain ⟨b, o, rfl, hcell⟩ := hb k c' hc'
  refine At.skipC (At.thenN (At.seq (At.block (tR (tM rfl rfl (tM rfl rfl (tM rfl rfl (tV (Val.indexSl (o + k) (by simp) Tryd.underlying29 Tryd.sizeOf5 rfl rfl (by omega) (by omega)) rfl (tV (Val.loadOld Tryd.isAgg5 rfl hcell (fun h => h)) rfl (tV (Val.conv Tryd.underlying5 Tryd.underlying68 rfl) rfl (tV (Val.bin rfl rfl rfl) rfl ?_)))))))))))
  rw [wrap_u32_nat, xor32]
  refine tA rfl rfl (tE (tR (tA rfl rfl (tE (At.block ?_)))))
  skip
  refine At.loop (σ := Nat) (fun j => j ≤ 8) (fun j => [(0, b32 s), (1, .slice (some ⟨b, o, none⟩) l.length c), (5, b32 (bitN j (crc (~~~s) (l.take k) ^^^ BitVec.ofNat 32 c'.toNat))), (6, .int .i64 k), (7, .int .i64 j)]) (fun j => []) (fun j => 8 - j) 0 (by omega) (Sub.cons rfl (Sub.cons rfl (Sub.cons rfl (Sub.cons rfl (Sub.cons rfl Sub.nil))))) (List.Perm.refl _) ?_
  intro j hs
  refine At.seq (tR (tM rfl rfl (tV (Val.bin rfl rfl rfl) rfl (tE ?_))))
  refine At.cond rfl (fun h2 => ?_) (fun h2 => ?_)
  ·have hj : j < 8 := by have := h2; simp at this; omega
   refine At.skipC (At.thenN (At.seq (At.block (tR (tM rfl rfl (tV (Val.bin rfl rfl rfl) rfl ?_))))))
   rw [and1]
   refine tA rfl rfl (tE (tR (tM rfl rfl (tV (Val.shr rfl rfl (by decide)) rfl ?_))))
   rw [show ((bitN j (crc (~~~s) (l.take k) ^^^ BitVec.ofNat 32 c'.toNat)).toNat : Int).fdiv (2 ^ min (1 : Int).toNat IntKind.u32.bits) = ((bitN j (crc (~~~s) (l.take k) ^^^ BitVec.ofNat 32 c'.toNat)) >>> 1).toNat from shr32 _ 1 (by decide)]
   refine tA rfl rfl (tE (tR (tM rfl rfl (tV (Val.bin rfl rfl rfl) rfl (tE ?_)))))
   refine At.cond rfl (fun h3 => ?_) (fun h3 => ?_)
   ·refine At.region (tM rfl rfl (tV (Val.bin rfl rfl rfl) rfl ?_))
    rw [xorp]
    refine tA rfl rfl (At.nil (At.blkN (At.thenN (At.region (tM rfl rfl (tV (Val.bin rfl rfl rfl) rfl (tA rfl rfl (tE ?_))))))))
    exact At.again (j + 1) (by omega) (by omega) (Sub.cons rfl (Sub.cons rfl (Sub.cons (congrArg (fun z => some (Value.int IntKind.u32 z)) (by rw [show bitN (j + 1) (crc (~~~s) (l.take k) ^^^ BitVec.ofNat 32 c'.toNat) = bit (bitN j (crc (~~~s) (l.take k) ^^^ BitVec.ofNat 32 c'.toNat)) from rfl, bit_T ‹_›])) (Sub.cons rfl (Sub.cons (congrArg (fun z => some (Value.int IntKind.i64 z)) (wrap_i64 (by omega) (by omega))) Sub.nil))))) (List.Perm.refl _)
   ·refine At.skipC (At.blkN (At.thenN (At.region (tM rfl rfl (tV (Val.bin rfl rfl rfl) rfl (tA rfl rfl (tE ?_)))))))
    exact At.again (j + 1) (by omega) (by omega) (Sub.cons rfl (Sub.cons rfl (Sub.cons (congrArg (fun z => some (Value.int IntKind.u32 z)) (by rw [show bitN (j + 1) (crc (~~~s) (l.take k) ^^^ BitVec.ofNat 32 c'.toNat) = bit (bitN j (crc (~~~s) (l.take k) ^^^ BitVec.ofNat 32 c'.toNat)) from rfl, bit_F ‹_›])) (Sub.cons rfl (Sub.cons (congrArg (fun z => some (Value.int IntKind.i64 z)) (wrap_i64 (by omega) (by omega))) Sub.nil))))) (List.Perm.refl _)
  ·have hj : j = 8 := by have := h2; simp at this; omega
   refine At.exitC (At.thenX (At.thenX (At.blkX (At.blkN (At.thenN (At.region (tM rfl rfl (tV (Val.bin rfl rfl rfl) rfl (tA rfl rfl (tE ?_))))))))))
   exact At.again (k + 1) (by omega) (by omega) (Sub.cons rfl (Sub.cons rfl (Sub.cons (congrArg (fun z => some (Value.int IntKind.u32 z)) (by rw [hj, crcByte_bits, crc_take_succ _ _ _ _ hc'])) (Sub.cons (congrArg (fun z => some (Value.int IntKind.i64 z)) (wrap_i64 (by omega) (by omega))) Sub.nil)))) (List.Perm.refl _)
 ·have hk : k = l.length := by have := h1; simp at this; omega
  refine At.exitC (At.thenX (At.thenX (At.blkX (At.thenN (tR (tM rfl rfl (tV (Val.com rfl) rfl (tA rfl rfl (tE (At.retC (At.ret1 (.inl rfl) rfl rfl rfl (fun w hw => ?_))))))))))))
  exact ⟨by rw [com32, hk, List.take_length]; rfl, hw.mod⟩
theorem rsum_p (A : Option Addr) (l : List UInt8) (c : Nat) (w : World) (hb : Bytes w A l) (hlen : l.length ≤ 140737488355328) :
    PureC Tryd.prog 53 [.slice A l.length c] (b32 (sumOn 0 l)) w := by
 refine enter0 Tryd.func53 rfl Tryd.ntmps53 rfl ?_
 simp only [envOf]
 refine tR (tA rfl rfl (tE (tR (tM rfl rfl (At.callP (fun w hw => rsumOn_p 0 _ _ _ w (hb.mod hw.mod) hlen) Tryd.call74 rfl rfl (tA rfl rfl (tE (At.retC (At.ret1 (.inl rfl) rfl rfl rfl (fun w hw => ?_))))))))))
 exact ⟨rfl, hw.mod⟩
theorem rsum_n (A : Option Addr) (l : List UInt8) (n c : Nat) (w : World) (hn : l.length = n) (hb : Bytes w A l) (hlen : n ≤ 140737488355328) : PureC Tryd.prog 53 [.slice A n c] (b32 (sumOn 0 l)) w := by
  subst hn; exact rsum_p A l c w hb hlen
theorem lay_rem (n : Nat) : IntKind.u8.wrap ((n : Int).tmod 256) = ((UInt8.ofNat n).toNat : Int) := by
  rw [show (n : Int).tmod 256 = ((n % 256 : Nat) : Int) from by rw [Int.tmod_eq_emod_of_nonneg (by omega)]; omega, wrap_u8_nat, ofNat_mod]
theorem lay_quo (n : Nat) (h : n < 18446744073709551616) : IntKind.u64.wrap ((n : Int).tdiv 256) = ((n / 256 : Nat) : Int) := by
  rw [show (n : Int).tdiv 256 = ((n / 256 : Nat) : Int) from by rw [Int.tdiv_eq_ediv_of_nonneg (by omega)]; omega, wrap_u64 (by omega) (by omega)]
theorem rlay_p (v : Value) (l : List UInt8) (x cnt : Nat) (w : World) (ho : w.ownsRow 0 5 1 v l.length (l.map bv)) (hx : x < 18446744073709551616) (hc : cnt ≤ 8) (hlen : l.length + cnt ≤ 140737488355328) :
    RowUpd Tryd.prog 52 [v, .int .u64 (x : Int), .int .i64 (cnt : Int)] v 5 1 l.length (l.map bv) (l ++ le cnt x).length ((l ++ le cnt x).map bv) w := by
 refine enter (feet [brow 5 v l]) [brow 5 v l] Tryd.func52 rfl Tryd.ntmps52 rfl (Rep.one ho) ?_
 simp only [envOf]
 refine tR (tA rfl rfl (tE (At.seq (tR (tA rfl rfl (tE (At.block ?_)))))))
 skip
 refine At.loop (σ := Nat × Value) (fun s => s.1 ≤ cnt) (fun s => [(0, s.2), (1, .int .u64 ((x / 256 ^ s.1 : Nat) : Int)), (2, .int .i64 (cnt : Int)), (7, .int .i64 (s.1 : Int))]) (fun s => [brow 5 s.2 (l ++ (le cnt x).take s.1)]) (fun s => cnt - s.1) (0, v) (Nat.zero_le _) (Sub.cons rfl (Sub.cons (congrArg (fun z => some (Value.int IntKind.u64 z)) (by simp)) (Sub.cons rfl (Sub.cons rfl Sub.nil)))) (by simp [List.take_zero]) ?_
 intro s hs
 obtain ⟨k, vk⟩ := s
 dsimp only at hs ⊢
 refine At.seq (tR (tM rfl rfl (tM rfl rfl (tV (Val.bin rfl rfl rfl) rfl (tE ?_)))))
 refine At.cond rfl (fun h1 => ?_) (fun h1 => ?_)
 ·have hk : k < cnt := by have := h1; simp at this; omega
  refine At.skipC (At.thenN (At.seq (At.block (tR (tM rfl rfl (tM rfl rfl (tV (Val.rem rfl rfl (by decide)) rfl (tV (Val.conv Tryd.underlying38 Tryd.underlying5 rfl) rfl ?_))))))))
  rw [lay_rem]
  refine At.buildSl (fun a ha => by simp only [List.map_toArray, List.map_cons, List.map_nil, ha.eval (x := (.tmp 16)) rfl]; try rfl) (bs_29_1 _ ) rfl (fun b2 => (At.append (i := 1) (sz := 1) (by_ := 1) Tryd.underlying29 info_5 rfl rfl rfl rfl rfl rfl rfl rfl rfl (fun w hw j u hj => by rw [Nat.zero_add]; exact ((hw.blk (i := 0) rfl).cell j).trans hj) (by simp [Value.oneCell']) (by rw [List.length_append, List.length_take, le_length]; omega) (by rw [List.length_append, List.length_take, le_length]; omega) rfl (fun v3 => ?_)))
  simp only [sc0, scS]
  refine At.drop 0 ?_
  simp only [ec0, ecS]
  refine tA rfl rfl (At.nil ?_)
  rw [brow_snoc, List.append_assoc, ← le_take_succ _ _ _ hk]
  refine At.thenN (At.region (tM rfl rfl (tV (Val.quo rfl rfl (by decide)) rfl ?_)))
  rw [lay_quo _ (Nat.lt_of_le_of_lt (Nat.div_le_self _ _) hx), Nat.div_div_eq_div_mul, ← Nat.pow_succ]
  refine tA rfl rfl (At.nil (At.blkN (At.thenN (At.region (tM rfl rfl (tV (Val.bin rfl rfl rfl) rfl (tA rfl rfl (tE ?_))))))))
  exact At.again (k + 1, v3) (show k + 1 ≤ cnt by omega) (by dsimp only; omega) (Sub.cons rfl (Sub.cons rfl (Sub.cons rfl (Sub.cons (congrArg (fun z => some (Value.int IntKind.i64 z)) (wrap_i64 (by omega) (by omega))) Sub.nil)))) (List.Perm.refl _)
 ·have hk : k = cnt := by have := h1; simp at this; omega
  refine At.exitC (At.thenX (At.thenX (At.blkX (At.thenN (tR (tM rfl rfl (tA rfl rfl (tE (At.retC (At.ret1 (.inl rfl) rfl rfl rfl (fun w hw => ?_)))))))))))
  exact ⟨vk, rfl, by have := hw; rw [hk, le_take_all] at this; exact this⟩
end Go.Proofs.YtfchinibjhcejaaDoor
namespace Go.Proofs.YtfchinibjhcejaaDoor
open Go Go.Wk
theorem str_get {s : ByteArray} {k : Nat} {c : UInt8} (h : s.data.toList[k]? = some c) : s[((k : Int)).toNat]? = some c := by
  rw [Int.toNat_natCast]
  have hk : k < s.data.size := by
    rcases Nat.lt_or_ge k s.data.size with h1 | h1
    · exact h1
    · rw [List.getElem?_eq_none (by simpa using h1)] at h; cases h
  rw [getElem?_pos s k hk]
  simp [List.getElem?_eq_getElem (show k < s.data.toList.length by simpa using hk)] at h
  rw [← h]; rfl
theorem List.take_succ_of_get {α : Type} {l : List α} {k : Nat} {c : α} (h : l[k]? = some c) : l.take (k + 1) = l.take k ++ [c] := by rw [List.take_add_one, h]; rfl
theorem letters_p (v : Value) (l : List UInt8) (s : ByteArray) (w : World) (ho : w.ownsRow 0 5 1 v l.length (l.map bv)) (hlen : l.length + s.data.toList.length ≤ 140737488355328) :
    RowUpd Tryd.prog 56 [v, .string s] v 5 1 l.length (l.map bv) (l ++ s.data.toList).length ((l ++ s.data.toList).map bv) w := by
 refine enter (feet [brow 5 v l]) [brow 5 v l] Tryd.func56 rfl Tryd.ntmps56 rfl (Rep.one ho) ?_
 have hs : s.size = s.data.toList.length := Array.length_toList.symm
 simp only [envOf]
 refine tR (tA rfl rfl (tE (At.seq (tR (tA rfl rfl (tE (At.block ?_)))))))
 skip
 refine At.loop (σ := Nat × Value) (fun s' => s'.1 ≤ s.data.toList.length) (fun s' => [(0, s'.2), (1, .string s), (5, .int .i64 (s'.1 : Int))]) (fun s' => [brow 5 s'.2 (l ++ s.data.toList.take s'.1)]) (fun s' => s.data.toList.length - s'.1) (0, v) (Nat.zero_le _) (Sub.cons rfl (Sub.cons rfl (Sub.cons rfl Sub.nil))) (by simp) ?_
 intro s' hs
 obtain ⟨k, vk⟩ := s'
 dsimp only at hs ⊢
 refine At.seq (tR (tM rfl rfl (tM rfl rfl (tV (Val.lenStr Tryd.underlying9 rfl) rfl (tV (Val.bin rfl rfl rfl) rfl (tE ?_))))))
 refine At.cond rfl (fun h1 => ?_) (fun h1 => ?_)
 ·have hk : k < s.data.toList.length := by have := h1; simp at this; omega
  obtain ⟨c, hc⟩ : ∃ c, s.data.toList[k]? = some c := ⟨_, List.getElem?_eq_getElem hk⟩
  refine At.skipC (At.thenN (At.seq (At.block (At.region (tM rfl rfl (tM rfl rfl (tM rfl rfl (tV (Val.indexStr Tryd.underlying9 rfl rfl (c := c) (by omega) (str_get hc)) rfl (At.buildSl (fun a ha => by simp only [List.map_toArray, List.map_cons, List.map_nil, ha.eval (x := (.tmp 15)) rfl]; try rfl) (bs_29_1 _ ) rfl (fun b2 => (At.append (i := 1) (sz := 1) (by_ := 1) Tryd.underlying29 info_5 rfl rfl rfl rfl rfl rfl rfl rfl rfl (fun w hw j u hj => by rw [Nat.zero_add]; exact ((hw.blk (i := 0) rfl).cell j).trans hj) (by simp [Value.oneCell']) (by rw [List.length_append, List.length_take]; omega) (by rw [List.length_append, List.length_take]; omega) rfl (fun v3 => ?_))))))))))))
  simp only [sc0, scS]
  refine At.drop 0 ?_
  simp only [ec0, ecS]
  refine tA rfl rfl (At.nil ?_)
  rw [brow_snoc, List.append_assoc, ← List.take_succ_of_get hc]
  refine At.blkN (At.thenN (At.region (tM rfl rfl (tV (Val.bin rfl rfl rfl) rfl (tA rfl rfl (tE ?_))))))
  exact At.again (k + 1, v3) (show k + 1 ≤ _ by omega) (by dsimp only; omega) (Sub.cons rfl (Sub.cons rfl (Sub.cons (congrArg (fun z => some (Value.int IntKind.i64 z)) (wrap_i64 (by omega) (by omega))) Sub.nil))) (List.Perm.refl _)
 ·have hk : k = s.data.toList.length := by have := h1; simp at this; omega
  refine At.exitC (At.thenX (At.thenX (At.blkX (At.thenN (tR (tM rfl rfl (tA rfl rfl (tE (At.retC (At.ret1 (.inl rfl) rfl rfl rfl (fun w hw => ?_)))))))))))
  exact ⟨vk, rfl, by have := hw; rw [hk, List.take_length] at this; exact this⟩
end Go.Proofs.YtfchinibjhcejaaDoor
