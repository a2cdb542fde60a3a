/- The calculus: a region that draws its order, with one operation amid the quiet ones that writes what none of them reads. -/
import Derived.Test.YtoiebgnmknbkjaaDoorWe
set_option linter.unusedVariables false
set_option linter.unusedSimpArgs false
namespace Go
section
variable {P : Program} {ops : Array Oper} {md : Region.Mode} {G : Nat → Sem Next → Value → Prop}
def GY (ops : Array Oper) (gi : Sem Next → Value → Prop) (o : Oper) (v : Value) (a : Act) : Prop :=
  (Region.wanted o (yielded ops a.tmps) = true ∧ gi (execOp a.eval o) v) ∨ (Region.wanted o (yielded ops a.tmps) = false ∧ v = undef)
def gOp (ops : Array Oper) (G : Nat → Sem Next → Value → Prop) (i : Nat) (K : Act → Prop) (a : Act) : Prop :=
  match ops[i]? with
  | none => K a
  | some o => ∃ v, GY ops (G i) o v a ∧ K (a.put o.dst v)
theorem gOp_mono {i : Nat} {a : Act} {K K' : Act → Prop} (h : ∀ a, K a → K' a) (hh : gOp ops G i K a) : gOp ops G i K' a := by
  unfold gOp at *
  split
  · exact h _ (by simpa [*] using hh)
  · rename_i o ho
    simp only [ho] at hh
    obtain ⟨v, h1, h2⟩ := hh
    exact ⟨v, h1, h _ h2⟩
theorem GY.gOp {i : Nat} {o : Oper} {v : Value} {a : Act} (hi : ops[i]? = some o) (hy : GY ops (G i) o v a) {K : Act → Prop} (h : K (a.put o.dst v)) : gOp ops G i K a := by
  unfold Go.gOp
  simp only [hi]
  exact ⟨v, hy, h⟩
theorem gOp_put {i j : Nat} {oi oj : Oper} {v : Value} (hj : ops[j]? = some oj) (hap : oi.apart ops oj = true)
    (hsi : ∀ cs b, oi.op ≠ .select cs b) (hsj : ∀ cs b, oj.op ≠ .select cs b) {K : Act → Prop} {a : Act}
    (hy : GY ops (G i) oi v a) (h : gOp ops G j K (a.put oi.dst v)) : gOp ops G j (fun a' => GY ops (G i) oi v a' ∧ K (a'.put oi.dst v)) a := by
  obtain ⟨h1, h2, h3⟩ := Oper.apart_spec hap
  unfold gOp at *
  simp only [hj] at *
  obtain ⟨u, hu, hn⟩ := h
  refine ⟨u, ?_, ?_, by rw [← Act.put_comm a v u h2]; exact hn⟩
  · unfold GY at *
    rw [wanted_put oj a oi.dst v h1, execOp_put oj hsj a oi.dst v h1] at hu
    exact hu
  · unfold GY at *
    rw [wanted_put oi a oj.dst u h3, execOp_put oi hsi a oj.dst u h3]
    exact hy
def wpAnyG (md : Region.Mode) (ops : Array Oper) (G : Nat → Sem Next → Value → Prop) (n : Nat) (L : Array Bool → Act → Prop) : Nat → Array Bool → Act → Prop
  | 0, listed, a => L listed a
  | f + 1, listed, a => Region.ready md ops listed ≠ [] ∧ ∀ i ∈ Region.ready md ops listed, i < n ∧ gOp ops G i (wpAnyG md ops G n L f (listed.setIfInBounds i true)) a
theorem wpAnyG_first {n i : Nat} {oi : Oper} {v : Value} {L : Array Bool → Act → Prop} (hi : ops[i]? = some oi) (hsel : ∀ (j : Nat) (o : Oper) cs b, ops[j]? = some o → o.op ≠ .select cs b)
    (hs : Region.sinkB md ops n = true) (hc : Region.chainB md ops n = true) (hn : n < ops.size) (hin : i < n)
    (hdone : ∀ listed a, L listed a → ∀ j ∈ Region.ready md ops listed, n ≤ j) :
    ∀ (f : Nat) (listed : Array Bool) (a : Act), HeadInv md ops n listed →
      (∀ j oj, ops[j]? = some oj → j ≠ i → listed.getD j true = false → (∀ e ∈ oj.after, Region.binds md e = true → e.on ≠ i) → oi.apart ops oj = true) →
      i ∈ Region.ready md ops listed → GY ops (G i) oi v a →
      wpAnyG md ops G n L f (listed.setIfInBounds i true) (a.put oi.dst v) → wpAnyG md ops G n L (f + 1) listed a := by
  intro f
  induction f with
  | zero =>
    intro listed a inv _ hr hy H
    have hun := (mem_ready.1 hr).1
    refine ⟨fun h => (by rw [h] at hr; cases hr), fun j hj => ?_⟩
    have hjn : j < n := by
      rcases Nat.lt_or_ge j n with h | h
      · exact h
      · exact absurd hj (tail_waits hs hc hn inv _ i rfl hin hun j h)
    refine ⟨hjn, ?_⟩
    by_cases hji : j = i
    · subst hji; exact hy.gOp hi H
    · have := hdone _ _ H j (ready_mono hj hji)
      omega
  | succ f ih =>
    intro listed a inv hfree hr hy H
    have hun := (mem_ready.1 hr).1
    refine ⟨fun h => (by rw [h] at hr; cases hr), fun j hj => ?_⟩
    have hjn : j < n := by
      rcases Nat.lt_or_ge j n with h | h
      · exact h
      · exact absurd hj (tail_waits hs hc hn inv _ i rfl hin hun j h)
    refine ⟨hjn, ?_⟩
    by_cases hji : j = i
    · subst hji; exact hy.gOp hi H
    · have h1 := (H.2 j (ready_mono hj hji)).2
      obtain ⟨hjun, oj, hoj, hall⟩ := mem_ready.1 hj
      have hnot : ∀ e ∈ oj.after, Region.binds md e = true → e.on ≠ i := fun e he hb heq => by
        have h1 := hall e he hb
        rw [heq, getD_both hun] at h1
        cases h1
      have h2 := gOp_put hoj (hfree j oj hoj hji hjun hnot) (fun cs b => hsel i oi cs b hi) (fun cs b => hsel j oj cs b hoj) hy h1
      have hfree' : ∀ k ok, ops[k]? = some ok → k ≠ i → (listed.setIfInBounds j true).getD k true = false →
          (∀ e ∈ ok.after, Region.binds md e = true → e.on ≠ i) → oi.apart ops ok = true := fun k ok hk hki hun hno => by
        refine hfree k ok hk hki ?_ hno
        by_cases hjk : j = k
        · subst hjk; exact hjun
        · rw [getD_set_ne true hjk] at hun; exact hun
      refine gOp_mono (fun a' h3 => ih (listed.setIfInBounds j true) a' (inv.set hj hjn) hfree' (ready_mono hr (Ne.symm hji)) h3.1 ?_) h2
      rw [Array.setIfInBounds_comm _ _ hji]
      exact h3.2
/-- The walk in the text's order. -/
def wpG (ops : Array Oper) (G : Nat → Sem Next → Value → Prop) (Q : Act → Prop) : Nat → List Oper → Act → Prop
  | _, [], a => Q a
  | k, o :: rest, a => ∃ v, GY ops (G k) o v a ∧ wpG ops G Q (k + 1) rest (a.put o.dst v)
theorem wpAnyG_lex {n g : Nat} {Lq : Act → Prop} (hsel : Region.noSelect ops = true) (hs : Region.sinkB md ops n = true) (hc : Region.chainB md ops n = true) (hn : n < ops.size) :
    ∀ (l : List Oper) (k : Nat) (listed : Array Bool) (a : Act), (∀ j, j < l.length → l[j]? = ops[k + j]?) → k + l.length = n → HeadInv md ops n listed →
    Region.lexHead md ops g l.length k listed = true → wpG ops G Lq k l a →
    wpAnyG md ops G n (fun listed' a' => HeadInv md ops n listed' ∧ Region.seqB md ops g n listed' = true ∧ Lq a') l.length listed a
  | [], k, listed, a, _, hk, inv, hB, h => by
    have : k = n := by simpa using hk
    subst this
    exact ⟨inv, by simpa [Region.lexHead] using hB, h⟩
  | o :: l, k, listed, a, hl, hk, inv, hB, h => by
    have h0 : ops[k]? = some o := by simpa using (hl 0 (by simp)).symm
    simp only [List.length_cons, Region.lexHead, Bool.and_eq_true] at hB
    obtain ⟨⟨hr, hf⟩, hB'⟩ := hB
    have hkn : k < n := by simp only [List.length_cons] at hk; omega
    have hr' : k ∈ Region.ready md ops listed := by simpa using hr
    obtain ⟨v, hy, hK⟩ := h
    exact wpAnyG_first h0 (Region.noSelect_spec hsel) hs hc hn hkn (fun listed' a' hL => seqB_ready hL.2.1) l.length listed a inv (Region.free_spec h0 hf) hr' hy
      (wpAnyG_lex hsel hs hc hn l (k + 1) _ _ (fun j hj => by have := hl (j + 1) (by simp; omega); simpa [Nat.add_assoc, Nat.add_comm 1 j] using this) (by simp only [List.length_cons] at hk; omega) (inv.set hr' hkn) hB' hK)
/-- The quiet ones yield in the worlds of S and leave the world as it is; number p goes from R to R'. -/
def midG (P : Program) (S R R' : World → Prop) (p : Nat) (i : Nat) (s : Sem Next) (v : Value) : Prop :=
  if i = p then ∀ w, R w → ∃ w', (s.run P w = .ok (.value v) w' ∨ (s.run P w = .ok .skip w' ∧ v = undef)) ∧ R' w' else ∀ w, S w → s.run P w = .ok (.value v) w
theorem wpAny_of_mid {S R R' : World → Prop} {p n g : Nat} {o : Oper} {L : Array Bool → Act → Prop} {Q : Exit → Act → World → Prop} (hp : ops[p]? = some o) (hg : o.guard = none) (hRS : ∀ w, R w → S w) (hRS' : ∀ w, R' w → S w)
    (hL : ∀ listed a w, L listed a → (listed.getD p true = true → R' w) → (listed.getD p true = false → False) ∧ wpAny P md ops Q g listed a w) :
    ∀ (f : Nat) (listed : Array Bool) (a : Act) (w : World), (listed.getD p true = false → R w) → (listed.getD p true = true → R' w) → p < listed.size →
    wpAnyG md ops (midG P S R R' p) n L f listed a → wpAny P md ops Q (f + g) listed a w
  | 0, listed, a, w, h1, h2, hsz, h => by rw [Nat.zero_add]; exact (hL _ _ _ h h2).2
  | f + 1, listed, a, w, h1, h2, hsz, h => by
    have hS : S w := by cases hb : listed.getD p true with
      | false => exact hRS _ (h1 hb)
      | true => exact hRS' _ (h2 hb)
    rw [show f + 1 + g = (f + g) + 1 by omega]
    refine ⟨fun h0 => absurd h0 h.1, fun i hi => ?_⟩
    have hq := (h.2 i hi).2
    obtain ⟨hun, oi, hoi, _⟩ := mem_ready.1 hi
    unfold gOp at hq
    unfold wpOp
    simp only [hoi] at hq ⊢
    obtain ⟨v, hy, hK⟩ := hq
    by_cases hip : i = p
    · subst hip
      have : oi = o := Option.some.inj (hoi.symm.trans hp)
      subst this
      have hw : Region.wanted oi (yielded ops a.tmps) = true := by simp [Region.wanted, hg]
      rcases hy with ⟨_, hy⟩ | ⟨hy, _⟩
      · simp only [midG, if_true] at hy
        obtain ⟨w', hr, hR'⟩ := hy w (h1 hun)
        rw [if_pos hw]
        have hset : (listed.setIfInBounds i true).getD i true = true := by simp [Array.getD_eq_getD_getElem?, Array.getElem?_setIfInBounds]; split <;> simp
        refine .inl ?_
        rcases hr with hr | ⟨hr, rfl⟩
        · simp only [Oper.wp, hr, Oper.upon]
          exact wpAny_of_mid hp hg hRS hRS' hL f _ _ w' (fun hf => by rw [hset] at hf; cases hf) (fun _ => hR') (by simpa using hsz) hK
        · simp only [Oper.wp, hr, Oper.upon]
          exact wpAny_of_mid hp hg hRS hRS' hL f _ _ w' (fun hf => by rw [hset] at hf; cases hf) (fun _ => hR') (by simpa using hsz) hK
      · rw [hw] at hy; cases hy
    · have hne : (listed.setIfInBounds i true).getD p true = listed.getD p true := getD_set_ne true hip
      rcases hy with ⟨hw, hy⟩ | ⟨hw, rfl⟩
      · simp only [midG, if_neg hip] at hy
        rw [if_pos hw]
        refine .inl ?_
        simp only [Oper.wp, hy w hS, Oper.upon]
        exact wpAny_of_mid hp hg hRS hRS' hL f _ _ w (by rw [hne]; exact h1) (by rw [hne]; exact h2) (by simpa using hsz) hK
      · rw [if_neg (by rw [hw]; simp)]
        exact wpAny_of_mid hp hg hRS hRS' hL f _ _ w (by rw [hne]; exact h1) (by rw [hne]; exact h2) (by simpa using hsz) hK
theorem wp_region_mid {id : Nat} {Q : Exit → Act → World → Prop} {a : Act} {w : World} {l : List Oper} {S R R' : World → Prop} {o : Oper} (n p : Nat) (hm : P.follows .mixedOrders = true) (hB : Region.lexTailB .any l.toArray n = true) (hpn : p < n)
    (ho : l[p]? = some o) (hg : o.guard = none) (hRS : ∀ w, R w → S w) (hRS' : ∀ w, R' w → S w) (hR : R { w with drawn := w.drawn + 1 })
    (h : wpG l.toArray (midG P S R R' p) (fun a' => ∀ w', R' w' → wpList P l.toArray Q (l.drop n) a' w') 0 (l.take n) a) : (Code.region id l.toArray true).wp P Q a w := by
  simp only [Region.lexTailB, Bool.and_eq_true, decide_eq_true_eq] at hB
  obtain ⟨⟨⟨⟨hsel, hn⟩, hs⟩, hc⟩, hlex⟩ := hB
  have hn' : n < l.length := by simpa using hn
  have htl : (l.take n).length = n := by simp; omega
  have hdl : (l.drop n).length = l.toArray.size - n := by simp
  have inv0 : HeadInv .any l.toArray n (Array.replicate l.toArray.size false) :=
    ⟨by simp, fun j oj _ hl => (by rw [getD_replicate_false] at hl; cases hl), fun t _ ht => getD_in (by simpa using ht) (getD_replicate_false _ _)⟩
  have H := wpAnyG_lex (md := .any) (g := l.toArray.size - n) hsel hs hc hn (l.take n) 0 _ a (fun j hj => by
    have hj' : j < n := by rw [htl] at hj; exact hj
    simp [hj']) (by simpa using htl) inv0 (by rw [htl]; exact hlex) h
  refine wp_region_any hm ?_
  have := wpAny_of_mid (Q := Q) (g := l.toArray.size - n) (p := p) (o := o) (by simpa using ho) hg hRS hRS' (fun listed a' w' hL h2 => by
    have hlp : listed.getD p true = true := by
      cases hb : listed.getD p true with
      | true => rfl
      | false =>
        have hsq := hL.2.1
        obtain ⟨g, hg⟩ : ∃ g, l.toArray.size - n = g + 1 := ⟨l.toArray.size - n - 1, by omega⟩
        rw [hg] at hsq
        simp only [Region.seqB, Bool.and_eq_true, decide_eq_true_eq] at hsq
        exact absurd (by rw [hsq.1]; simp) (tail_waits hs hc hn hL.1 _ p rfl hpn hb n (Nat.le_refl n))
    refine ⟨fun hf => (by rw [hlp] at hf; cases hf), ?_⟩
    have := wpAny_of_seq (md := .any) (Q' := Q) (l.drop n) n listed a' w' (fun j => by simp [List.getElem?_drop]) (by rw [hdl]; exact hL.2.1) (hL.2.2 w' (h2 hlp))
    rwa [hdl] at this) _ _ a { w with drawn := w.drawn + 1 } (fun _ => hR) (fun hf => (by
      rw [getD_in (by simp; omega) (getD_replicate_false _ _)] at hf; cases hf)) (by simp; omega) H
  rw [htl, show n + (l.toArray.size - n) = l.toArray.size by omega] at this
  exact this
end
namespace Wk
section
variable {P : Program} {Γ : Ctx} {E : Env} {H H' HS : List Res} {ops : Array Oper} {Q : Exit → Act → World → Prop} {rest : List Oper} {o : Oper} {ψ : Act → Prop}
  {d : Nat} {ty : TypeId} {pos : String} {after : Array Edge} {v u : Value} {x y z : Operand} {dst : Option Tmp} {g : Option (Nat × Bool)} {p j : Nat}
def PAt (P : Program) (Γ : Ctx) (ops : Array Oper) (HS H H' : List Res) (p k : Nat) (E : Env) (l : List Oper) (ψ : Act → Prop) : Prop := ∀ a, Agrees Γ.n Γ.D E a → wpG ops (midG P (Rep Γ.w0 Γ.S HS) (Rep Γ.w0 Γ.S H) (Rep Γ.w0 Γ.S H') p) ψ k l a
theorem At.mid {id : Nat} {l : List Oper} (n p : Nat) (HS H' : List Res) (hm : P.follows .mixedOrders = true) (hB : Region.lexTailB .any l.toArray n = true) (hpn : p < n) (ho : l[p]? = some o) (hg : o.guard = none)
    (h1 : ∀ w, Rep Γ.w0 Γ.S H w → Rep Γ.w0 Γ.S HS w) (h2 : ∀ w, Rep Γ.w0 Γ.S H' w → Rep Γ.w0 Γ.S HS w)
    (k : PAt P Γ l.toArray HS H H' p 0 E (l.take n) (fun a' => ∀ w', Rep Γ.w0 Γ.S H' w' → wpList P l.toArray Q (l.drop n) a' w')) : At Γ E H ((Code.region id l.toArray true).wp P Q) := fun a w ha hw =>
  wp_region_mid n p hm hB hpn ho hg h1 h2 hw.drew (k a ha)
theorem PAt.fin {φ : Act → World → Prop} (k : At Γ E H' φ) : PAt P Γ ops HS H H' p j E [] (fun a' => ∀ w', Rep Γ.w0 Γ.S H' w' → φ a' w') := fun a ha w' hw' => k a w' ha hw'
theorem PAt.val (h : Val P Γ E HS o v) (hg : o.guard = none) (hd : o.dst = some d) (hn : Nat.blt d Γ.n = true) (hj : Nat.beq j p = false) (k : PAt P Γ ops HS H H' p (j + 1) ((d, v) :: E) rest ψ) : PAt P Γ ops HS H H' p j E (o :: rest) ψ := fun a ha => by
  have hne : ¬ j = p := fun e => by subst e; rw [Nat.beq_refl] at hj; cases hj
  refine ⟨v, .inl ⟨by simp [Region.wanted, hg], ?_⟩, ?_⟩
  · simp only [midG, if_neg hne]; exact fun w hw => h a w ha hw
  · rw [hd]; exact k _ (ha.put d v hn)
theorem PAt.mid (h : ∀ a w, Agrees Γ.n Γ.D E a → Rep Γ.w0 Γ.S H w → ∃ w', (execOp a.eval o).run P w = .ok (.value v) w' ∧ Rep Γ.w0 Γ.S H' w') (hg : o.guard = none) (hd : o.dst = some d) (hn : Nat.blt d Γ.n = true)
    (k : PAt P Γ ops HS H H' p (p + 1) ((d, v) :: E) rest ψ) : PAt P Γ ops HS H H' p p E (o :: rest) ψ := fun a ha => by
  refine ⟨v, .inl ⟨by simp [Region.wanted, hg], ?_⟩, ?_⟩
  · simp only [midG, if_true]; exact fun w hw => let ⟨w', h1, h2⟩ := h a w ha hw; ⟨w', .inl h1, h2⟩
  · rw [hd]; exact k _ (ha.put d v hn)
theorem PAt.midS (h : ∀ a w, Agrees Γ.n Γ.D E a → Rep Γ.w0 Γ.S H w → ∃ w', (execOp a.eval o).run P w = .ok .skip w' ∧ Rep Γ.w0 Γ.S H' w') (hg : o.guard = none) (hd : o.dst = none)
    (k : PAt P Γ ops HS H H' p (p + 1) E rest ψ) : PAt P Γ ops HS H H' p p E (o :: rest) ψ := fun a ha => by
  refine ⟨undef, .inl ⟨by simp [Region.wanted, hg], ?_⟩, ?_⟩
  · simp only [midG, if_true]; exact fun w hw => let ⟨w', h1, h2⟩ := h a w ha hw; ⟨w', .inr ⟨h1, trivial⟩, h2⟩
  · rw [hd]; exact k _ ha
theorem storeAll_step {t : TypeId} {i b n U : Nat} {cs vs : List Value} (hs : ∀ w, (sizeOf t).run P w = .ok n w) (hx : ev E x = some (.pointer (some ⟨b, 0, none⟩))) (hy : ev E y = some (.agg vs.toArray)) (hl : vs.length = n)
    (h1 : ∀ v ∈ vs, v.oneCell' = true) (hi : H[i]? = some (blk b U cs)) (ho : cs.length = n) (a : Act) (w : World) (ha : Agrees Γ.n Γ.D E a) (hw : Rep Γ.w0 Γ.S H w) :
    ∃ w', (execOp a.eval { dst := .none, op := .store t x y, type := ty, pos, after, guard := none }).run P w = .ok .skip w' ∧ Rep Γ.w0 Γ.S (H.set i (blk b U vs)) w' := by
  obtain ⟨w', hr, hw'⟩ := storeCells_list (P := P) vs 0 0 cs H w hw hi (by omega) h1
  have e : putAt cs (0 + 0) vs = vs := by simp [putAt]; omega
  rw [e] at hw'
  refine ⟨w', ?_, hw'⟩
  simp [execOp, ha.eval hx, ha.eval hy, Sem.run_bind, Instr.storeAt, Instr.sureAddr, storeVar, hs, Value.cells, hl, hr]
theorem storeOne_step {t : TypeId} {i b off U : Nat} {cs : List Value} (hs : ∀ w, (sizeOf t).run P w = .ok 1 w) (hx : ev E x = some (.pointer (some ⟨b, off, none⟩))) (hy : ev E y = some v) (h1 : v.oneCell' = true)
    (hi : H[i]? = some (blk b U cs)) (ho : off < cs.length) (a : Act) (w : World) (ha : Agrees Γ.n Γ.D E a) (hw : Rep Γ.w0 Γ.S H w) :
    ∃ w', (execOp a.eval { dst := .none, op := .store t x y, type := ty, pos, after, guard := none }).run P w = .ok .skip w' ∧ Rep Γ.w0 Γ.S (H.set i (blk b U (cs.set off v))) w' := by
  have hb := hw.blk hi
  have hr := run_storeAt_cell (P := P) (p := ⟨b, off, none⟩) hs h1 ((hb.cell off).trans (List.getElem?_eq_getElem ho)) (hb.frozen off ho)
  exact ⟨w.setCell ⟨b, off, none⟩ v, by simp [execOp, ha.eval hx, ha.eval hy, Sem.run_bind, hr], hw.set hi off v⟩
/-- A block of which something is known. -/
def blkP (b : Nat) (T : TypeId) (p : List Value → Prop) : Res where
  foot := fun x => x = b
  holds := fun w => ∃ cs, Holds w b T cs ∧ p cs
  stable := fun h hw => by obtain ⟨cs, h1, h2⟩ := hw; exact ⟨cs, (blk b T cs).stable h h1, h2⟩
  low := fun hw x hx => by obtain ⟨cs, h1, h2⟩ := hw; exact (blk b T cs).low h1 x hx
theorem Rep.blkP {w0 S w} (h : Rep w0 S H w) {i b T : Nat} {cs : List Value} (p : List Value → Prop) (hi : H[i]? = some (Wk.blk b T cs)) (hp : p cs) : Rep w0 S (H.set i (Wk.blkP b T p)) w :=
  Rep.change hi h (Mod.refl _ _) ⟨cs, h.blk hi, hp⟩ (fun b' hb => .inl hb)
theorem Val.loadP {t i b off U : Nat} {p : List Value → Prop} (hA : ∀ w, (isAgg t).run P w = .ok false w) (hx : ev E x = some (.pointer (some ⟨b, off, none⟩)))
    (hi : H[i]? = some (blkP b U p)) (hv : ∀ cs, p cs → cs[off]? = some v) : Val P Γ E H ⟨dst, .load t x, ty, pos, after, g⟩ v := fun a w ha hw => by
  obtain ⟨cs, h1, h2⟩ := hw.all _ (List.mem_of_getElem? hi)
  have := run_loadAt_cell (P := P) hA ((h1.cell off).trans (hv cs h2))
  simp [execOp, ha.eval hx, Sem.run_bind, this]
end
end Wk
end Go
