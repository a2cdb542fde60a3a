/- The calculus: a region that draws its order, with one operation amid the quiet ones that writes what none of them reads. -/
import Derived.Test.YtgighokkflchmaaWa
import Derived.Recover
import Derived.WideLaws
import Derived.Laws.IdiomStrings
set_option linter.unusedVariables false
set_option linter.unusedSimpArgs false
namespace Go
section
variable {P : Program} {ops : Array Oper} {md : Region.Mode} {G : Nat → Sem Next → Value → Prop}
def GY (ops : Array Oper) (gi : Sem Next → Value → Prop) (o : Oper) (v : Value) (a : Act) : Prop :=
  (Region.wanted o (yielded ops a.tmps) = true ∧ gi (execOp a.eval o) v) ∨ (Region.wanted o (yielded ops a.tmps) = false ∧ v = undef)
def gOp (ops : Array Oper) (G : Nat → Sem Next → Value → Prop) (i : Nat) (K : Act → Prop) (a : Act) : Prop :=
  match ops[i]? with
  | none => K a
  | some o => ∃ v, GY ops (G i) o v a ∧ K (a.put o.dst v)
theorem gOp_mono {i : Nat} {a : Act} {K K' : Act → Prop} (h : ∀ a, K a → K' a) (hh : gOp ops G i K a) : gOp ops G i K' a := by
  unfold gOp at *
  split
  · exact h _ (by simpa [*] using hh)
  · rename_i o ho
    simp only [ho] at hh
    obtain ⟨v, h1, h2⟩ := hh
    exact ⟨v, h1, h _ h2⟩
theorem GY.gOp {i : Nat} {o : Oper} {v : Value} {a : Act} (hi : ops[i]? = some o) (hy : GY ops (G i) o v a) {K : Act → Prop} (h : K (a.put o.dst v)) : gOp ops G i K a := by
  unfold Go.gOp
  simp only [hi]
  exact ⟨v, hy, h⟩
theorem gOp_put {i j : Nat} {oi oj : Oper} {v : Value} (hj : ops[j]? = some oj) (hap : oi.apart ops oj = true)
    (hsi : ∀ cs b, oi.op ≠ .select cs b) (hsj : ∀ cs b, oj.op ≠ .select cs b) {K : Act → Prop} {a : Act}
    (hy : GY ops (G i) oi v a) (h : gOp ops G j K (a.put oi.dst v)) : gOp ops G j (fun a' => GY ops (G i) oi v a' ∧ K (a'.put oi.dst v)) a := by
  obtain ⟨h1, h2, h3⟩ := Oper.apart_spec hap
  unfold gOp at *
  simp only [hj] at *
  obtain ⟨u, hu, hn⟩ := h
  refine ⟨u, ?_, ?_, by rw [← Act.put_comm a v u h2]; exact hn⟩
  · unfold GY at *
    rw [wanted_put oj a oi.dst v h1, execOp_put oj hsj a oi.dst v h1] at hu
    exact hu
  · unfold GY at *
    rw [wanted_put oi a oj.dst u h3, execOp_put oi hsi a oj.dst u h3]
    exact hy
def wpAnyG (md : Region.Mode) (ops : Array Oper) (G : Nat → Sem Next → Value → Prop) (n : Nat) (L : Array Bool → Act → Prop) : Nat → Array Bool → Act → Prop
  | 0, listed, a => L listed a
  | f + 1, listed, a => Region.ready md ops listed ≠ [] ∧ ∀ i ∈ Region.ready md ops listed, i < n ∧ gOp ops G i (wpAnyG md ops G n L f (listed.setIfInBounds i true)) a
theorem wpAnyG_first {n i : Nat} {oi : Oper} {v : Value} {L : Array Bool → Act → Prop} (hi : ops[i]? = some oi) (hsel : ∀ (j : Nat) (o : Oper) cs b, ops[j]? = some o → o.op ≠ .select cs b)
    (hs : Region.sinkB md ops n = true) (hc : Region.chainB md ops n = true) (hn : n < ops.size) (hin : i < n)
    (hdone : ∀ listed a, L listed a → ∀ j ∈ Region.ready md ops listed, n ≤ j) :
    ∀ (f : Nat) (listed : Array Bool) (a : Act), HeadInv md ops n listed →
      (∀ j oj, ops[j]? = some oj → j ≠ i → listed.getD j true = false → (∀ e ∈ oj.after, Region.binds md e = true → e.on ≠ i) → oi.apart ops oj = true) →
      i ∈ Region.ready md ops listed → GY ops (G i) oi v a →
      wpAnyG md ops G n L f (listed.setIfInBounds i true) (a.put oi.dst v) → wpAnyG md ops G n L (f + 1) listed a := by
  intro f
  induction f with
  | zero =>
    intro listed a inv _ hr hy H
    have hun := (mem_ready.1 hr).1
    refine ⟨fun h => (by rw [h] at hr; cases hr), fun j hj => ?_⟩
    have hjn : j < n := by
      rcases Nat.lt_or_ge j n with h | h
      · exact h
      · exact absurd hj (tail_waits hs hc hn inv _ i rfl hin hun j h)
    refine ⟨hjn, ?_⟩
    by_cases hji : j = i
    · subst hji; exact hy.gOp hi H
    · have := hdone _ _ H j (ready_mono hj hji)
      omega
  | succ f ih =>
    intro listed a inv hfree hr hy H
    have hun := (mem_ready.1 hr).1
    refine ⟨fun h => (by rw [h] at hr; cases hr), fun j hj => ?_⟩
    have hjn : j < n := by
      rcases Nat.lt_or_ge j n with h | h
      · exact h
      · exact absurd hj (tail_waits hs hc hn inv _ i rfl hin hun j h)
    refine ⟨hjn, ?_⟩
    by_cases hji : j = i
    · subst hji; exact hy.gOp hi H
    · have h1 := (H.2 j (ready_mono hj hji)).2
      obtain ⟨hjun, oj, hoj, hall⟩ := mem_ready.1 hj
      have hnot : ∀ e ∈ oj.after, Region.binds md e = true → e.on ≠ i := fun e he hb heq => by
        have h1 := hall e he hb
        rw [heq, getD_both hun] at h1
        cases h1
      have h2 := gOp_put hoj (hfree j oj hoj hji hjun hnot) (fun cs b => hsel i oi cs b hi) (fun cs b => hsel j oj cs b hoj) hy h1
      have hfree' : ∀ k ok, ops[k]? = some ok → k ≠ i → (listed.setIfInBounds j true).getD k true = false →
          (∀ e ∈ ok.after, Region.binds md e = true → e.on ≠ i) → oi.apart ops ok = true := fun k ok hk hki hun hno => by
        refine hfree k ok hk hki ?_ hno
        by_cases hjk : j = k
        · subst hjk; exact hjun
        · rw [getD_set_ne true hjk] at hun; exact hun
      refine gOp_mono (fun a' h3 => ih (listed.setIfInBounds j true) a' (inv.set hj hjn) hfree' (ready_mono hr (Ne.symm hji)) h3.1 ?_) h2
      rw [Array.setIfInBounds_comm _ _ hji]
      exact h3.2
/-- The walk in the text's order. -/
def wpG (ops : Array Oper) (G : Nat → Sem Next → Value → Prop) (Q : Act → Prop) : Nat → List Oper → Act → Prop
  | _, [], a => Q a
  | k, o :: rest, a => ∃ v, GY ops (G k) o v a ∧ wpG ops G Q (k + 1) rest (a.put o.dst v)
theorem wpAnyG_lex {n g : Nat} {Lq : Act → Prop} (hsel : Region.noSelect ops = true) (hs : Region.sinkB md ops n = true) (hc : Region.chainB md ops n = true) (hn : n < ops.size) :
    ∀ (l : List Oper) (k : Nat) (listed : Array Bool) (a : Act), (∀ j, j < l.length → l[j]? = ops[k + j]?) → k + l.length = n → HeadInv md ops n listed →
    Region.lexHead md ops g l.length k listed = true → wpG ops G Lq k l a →
    wpAnyG md ops G n (fun listed' a' => HeadInv md ops n listed' ∧ Region.seqB md ops g n listed' = true ∧ Lq a') l.length listed a
  | [], k, listed, a, _, hk, inv, hB, h => by
    have : k = n := by simpa using hk
    subst this
    exact ⟨inv, by simpa [Region.lexHead] using hB, h⟩
  | o :: l, k, listed, a, hl, hk, inv, hB, h => by
    have h0 : ops[k]? = some o := by simpa using (hl 0 (by simp)).symm
    simp only [List.length_cons, Region.lexHead, Bool.and_eq_true] at hB
    obtain ⟨⟨hr, hf⟩, hB'⟩ := hB
    have hkn : k < n := by simp only [List.length_cons] at hk; omega
    have hr' : k ∈ Region.ready md ops listed := by simpa using hr
    obtain ⟨v, hy, hK⟩ := h
    exact wpAnyG_first h0 (Region.noSelect_spec hsel) hs hc hn hkn (fun listed' a' hL => seqB_ready hL.2.1) l.length listed a inv (Region.free_spec h0 hf) hr' hy
      (wpAnyG_lex hsel hs hc hn l (k + 1) _ _ (fun j hj => by have := hl (j + 1) (by simp; omega); simpa [Nat.add_assoc, Nat.add_comm 1 j] using this) (by simp only [List.length_cons] at hk; omega) (inv.set hr' hkn) hB' hK)
/-- The quiet ones yield in the worlds of S and leave the world as it is; number p goes from R to R'. -/
def midG (P : Program) (S R R' : World → Prop) (p : Nat) (i : Nat) (s : Sem Next) (v : Value) : Prop :=
  if i = p then ∀ w, R w → ∃ w', (s.run P w = .ok (.value v) w' ∨ (s.run P w = .ok .skip w' ∧ v = undef)) ∧ R' w' else ∀ w, S w → s.run P w = .ok (.value v) w
theorem wpAny_of_mid {S R R' : World → Prop} {p n g : Nat} {o : Oper} {L : Array Bool → Act → Prop} {Q : Exit → Act → World → Prop} (hp : ops[p]? = some o) (hg : o.guard = none) (hRS : ∀ w, R w → S w) (hRS' : ∀ w, R' w → S w)
    (hL : ∀ listed a w, L listed a → (listed.getD p true = true → R' w) → (listed.getD p true = false → False) ∧ wpAny P md ops Q g listed a w) :
    ∀ (f : Nat) (listed : Array Bool) (a : Act) (w : World), (listed.getD p true = false → R w) → (listed.getD p true = true → R' w) → p < listed.size →
    wpAnyG md ops (midG P S R R' p) n L f listed a → wpAny P md ops Q (f + g) listed a w
  | 0, listed, a, w, h1, h2, hsz, h => by rw [Nat.zero_add]; exact (hL _ _ _ h h2).2
  | f + 1, listed, a, w, h1, h2, hsz, h => by
    have hS : S w := by cases hb : listed.getD p true with
      | false => exact hRS _ (h1 hb)
      | true => exact hRS' _ (h2 hb)
    rw [show f + 1 + g = (f + g) + 1 by omega]
    refine ⟨fun h0 => absurd h0 h.1, fun i hi => ?_⟩
    have hq := (h.2 i hi).2
    obtain ⟨hun, oi, hoi, _⟩ := mem_ready.1 hi
    unfold gOp at hq
    unfold wpOp
    simp only [hoi] at hq ⊢
    obtain ⟨v, hy, hK⟩ := hq
    by_cases hip : i = p
    · subst hip
      have : oi = o := Option.some.inj (hoi.symm.trans hp)
      subst this
      have hw : Region.wanted oi (yielded ops a.tmps) = true := by simp [Region.wanted, hg]
      rcases hy with ⟨_, hy⟩ | ⟨hy, _⟩
      · simp only [midG, if_true] at hy
        obtain ⟨w', hr, hR'⟩ := hy w (h1 hun)
        rw [if_pos hw]
        have hset : (listed.setIfInBounds i true).getD i true = true := by simp [Array.getD_eq_getD_getElem?, Array.getElem?_setIfInBounds]; split <;> simp
        refine .inl ?_
        rcases hr with hr | ⟨hr, rfl⟩
        · simp only [Oper.wp, hr, Oper.upon]
          exact wpAny_of_mid hp hg hRS hRS' hL f _ _ w' (fun hf => by rw [hset] at hf; cases hf) (fun _ => hR') (by simpa using hsz) hK
        · simp only [Oper.wp, hr, Oper.upon]
          exact wpAny_of_mid hp hg hRS hRS' hL f _ _ w' (fun hf => by rw [hset] at hf; cases hf) (fun _ => hR') (by simpa using hsz) hK
      · rw [hw] at hy; cases hy
    · have hne : (listed.setIfInBounds i true).getD p true = listed.getD p true := getD_set_ne true hip
      rcases hy with ⟨hw, hy⟩ | ⟨hw, rfl⟩
      · simp only [midG, if_neg hip] at hy
        rw [if_pos hw]
        refine .inl ?_
        simp only [Oper.wp, hy w hS, Oper.upon]
        exact wpAny_of_mid hp hg hRS hRS' hL f _ _ w (by rw [hne]; exact h1) (by rw [hne]; exact h2) (by simpa using hsz) hK
      · rw [if_neg (by rw [hw]; simp)]
        exact wpAny_of_mid hp hg hRS hRS' hL f _ _ w (by rw [hne]; exact h1) (by rw [hne]; exact h2) (by simpa using hsz) hK
theorem wp_region_mid {id : Nat} {Q : Exit → Act → World → Prop} {a : Act} {w : World} {l : List Oper} {S R R' : World → Prop} {o : Oper} (n p : Nat) (hm : P.follows .mixedOrders = true) (hB : Region.lexTailB .any l.toArray n = true) (hpn : p < n)
    (ho : l[p]? = some o) (hg : o.guard = none) (hRS : ∀ w, R w → S w) (hRS' : ∀ w, R' w → S w) (hR : R { w with drawn := w.drawn + 1 })
    (h : wpG l.toArray (midG P S R R' p) (fun a' => ∀ w', R' w' → wpList P l.toArray Q (l.drop n) a' w') 0 (l.take n) a) : (Code.region id l.toArray true).wp P Q a w := by
  simp only [Region.lexTailB, Bool.and_eq_true, decide_eq_true_eq] at hB
  obtain ⟨⟨⟨⟨hsel, hn⟩, hs⟩, hc⟩, hlex⟩ := hB
  have hn' : n < l.length := by simpa using hn
  have htl : (l.take n).length = n := by simp; omega
  have hdl : (l.drop n).length = l.toArray.size - n := by simp
  have inv0 : HeadInv .any l.toArray n (Array.replicate l.toArray.size false) :=
    ⟨by simp, fun j oj _ hl => (by rw [getD_replicate_false] at hl; cases hl), fun t _ ht => getD_in (by simpa using ht) (getD_replicate_false _ _)⟩
  have H := wpAnyG_lex (md := .any) (g := l.toArray.size - n) hsel hs hc hn (l.take n) 0 _ a (fun j hj => by
    have hj' : j < n := by rw [htl] at hj; exact hj
    simp [hj']) (by simpa using htl) inv0 (by rw [htl]; exact hlex) h
  refine wp_region_any hm ?_
  have := wpAny_of_mid (Q := Q) (g := l.toArray.size - n) (p := p) (o := o) (by simpa using ho) hg hRS hRS' (fun listed a' w' hL h2 => by
    have hlp : listed.getD p true = true := by
      cases hb : listed.getD p true with
      | true => rfl
      | false =>
        have hsq := hL.2.1
        obtain ⟨g, hg⟩ : ∃ g, l.toArray.size - n = g + 1 := ⟨l.toArray.size - n - 1, by omega⟩
        rw [hg] at hsq
        simp only [Region.seqB, Bool.and_eq_true, decide_eq_true_eq] at hsq
        exact absurd (by rw [hsq.1]; simp) (tail_waits hs hc hn hL.1 _ p rfl hpn hb n (Nat.le_refl n))
    refine ⟨fun hf => (by rw [hlp] at hf; cases hf), ?_⟩
    have := wpAny_of_seq (md := .any) (Q' := Q) (l.drop n) n listed a' w' (fun j => by simp [List.getElem?_drop]) (by rw [hdl]; exact hL.2.1) (hL.2.2 w' (h2 hlp))
    rwa [hdl] at this) _ _ a { w with drawn := w.drawn + 1 } (fun _ => hR) (fun hf => (by
      rw [getD_in (by simp; omega) (getD_replicate_false _ _)] at hf; cases hf)) (by simp; omega) H
  rw [htl, show n + (l.toArray.size - n) = l.toArray.size by omega] at this
  exact this
end
namespace Wk
section
variable {P : Program} {Γ : Ctx} {E : Env} {H H' HS : List Res} {ops : Array Oper} {Q : Exit → Act → World → Prop} {rest : List Oper} {o : Oper} {ψ : Act → Prop}
  {d : Nat} {ty : TypeId} {pos : String} {after : Array Edge} {v u : Value} {x y z : Operand} {dst : Option Tmp} {g : Option (Nat × Bool)} {p j : Nat}
def PAt (P : Program) (Γ : Ctx) (ops : Array Oper) (HS H H' : List Res) (p k : Nat) (E : Env) (l : List Oper) (ψ : Act → Prop) : Prop := ∀ a, Agrees Γ.n Γ.D E a → wpG ops (midG P (Rep Γ.w0 Γ.S HS) (Rep Γ.w0 Γ.S H) (Rep Γ.w0 Γ.S H') p) ψ k l a
theorem At.mid {id : Nat} {l : List Oper} (n p : Nat) (HS H' : List Res) (hm : P.follows .mixedOrders = true) (hB : Region.lexTailB .any l.toArray n = true) (hpn : p < n) (ho : l[p]? = some o) (hg : o.guard = none)
    (h1 : ∀ w, Rep Γ.w0 Γ.S H w → Rep Γ.w0 Γ.S HS w) (h2 : ∀ w, Rep Γ.w0 Γ.S H' w → Rep Γ.w0 Γ.S HS w)
    (k : PAt P Γ l.toArray HS H H' p 0 E (l.take n) (fun a' => ∀ w', Rep Γ.w0 Γ.S H' w' → wpList P l.toArray Q (l.drop n) a' w')) : At Γ E H ((Code.region id l.toArray true).wp P Q) := fun a w ha hw =>
  wp_region_mid n p hm hB hpn ho hg h1 h2 hw.drew (k a ha)
theorem PAt.fin {φ : Act → World → Prop} (k : At Γ E H' φ) : PAt P Γ ops HS H H' p j E [] (fun a' => ∀ w', Rep Γ.w0 Γ.S H' w' → φ a' w') := fun a ha w' hw' => k a w' ha hw'
theorem PAt.val (h : Val P Γ E HS o v) (hg : o.guard = none) (hd : o.dst = some d) (hn : Nat.blt d Γ.n = true) (hj : Nat.beq j p = false) (k : PAt P Γ ops HS H H' p (j + 1) ((d, v) :: E) rest ψ) : PAt P Γ ops HS H H' p j E (o :: rest) ψ := fun a ha => by
  have hne : ¬ j = p := fun e => by subst e; rw [Nat.beq_refl] at hj; cases hj
  refine ⟨v, .inl ⟨by simp [Region.wanted, hg], ?_⟩, ?_⟩
  · simp only [midG, if_neg hne]; exact fun w hw => h a w ha hw
  · rw [hd]; exact k _ (ha.put d v hn)
theorem PAt.mid (h : ∀ a w, Agrees Γ.n Γ.D E a → Rep Γ.w0 Γ.S H w → ∃ w', (execOp a.eval o).run P w = .ok (.value v) w' ∧ Rep Γ.w0 Γ.S H' w') (hg : o.guard = none) (hd : o.dst = some d) (hn : Nat.blt d Γ.n = true)
    (k : PAt P Γ ops HS H H' p (p + 1) ((d, v) :: E) rest ψ) : PAt P Γ ops HS H H' p p E (o :: rest) ψ := fun a ha => by
  refine ⟨v, .inl ⟨by simp [Region.wanted, hg], ?_⟩, ?_⟩
  · simp only [midG, if_true]; exact fun w hw => let ⟨w', h1, h2⟩ := h a w ha hw; ⟨w', .inl h1, h2⟩
  · rw [hd]; exact k _ (ha.put d v hn)
theorem PAt.midS (h : ∀ a w, Agrees Γ.n Γ.D E a → Rep Γ.w0 Γ.S H w → ∃ w', (execOp a.eval o).run P w = .ok .skip w' ∧ Rep Γ.w0 Γ.S H' w') (hg : o.guard = none) (hd : o.dst = none)
    (k : PAt P Γ ops HS H H' p (p + 1) E rest ψ) : PAt P Γ ops HS H H' p p E (o :: rest) ψ := fun a ha => by
  refine ⟨undef, .inl ⟨by simp [Region.wanted, hg], ?_⟩, ?_⟩
  · simp only [midG, if_true]; exact fun w hw => let ⟨w', h1, h2⟩ := h a w ha hw; ⟨w', .inr ⟨h1, trivial⟩, h2⟩
  · rw [hd]; exact k _ ha
theorem storeAll_step {t : TypeId} {i b n U : Nat} {cs vs : List Value} (hs : ∀ w, (sizeOf t).run P w = .ok n w) (hx : ev E x = some (.pointer (some ⟨b, 0, none⟩))) (hy : ev E y = some (.agg vs.toArray)) (hl : vs.length = n)
    (h1 : ∀ v ∈ vs, v.oneCell' = true) (hi : H[i]? = some (blk b U cs)) (ho : cs.length = n) (a : Act) (w : World) (ha : Agrees Γ.n Γ.D E a) (hw : Rep Γ.w0 Γ.S H w) :
    ∃ w', (execOp a.eval { dst := .none, op := .store t x y, type := ty, pos, after, guard := none }).run P w = .ok .skip w' ∧ Rep Γ.w0 Γ.S (H.set i (blk b U vs)) w' := by
  obtain ⟨w', hr, hw'⟩ := storeCells_list (P := P) vs 0 0 cs H w hw hi (by omega) h1
  have e : putAt cs (0 + 0) vs = vs := by simp [putAt]; omega
  rw [e] at hw'
  refine ⟨w', ?_, hw'⟩
  simp [execOp, ha.eval hx, ha.eval hy, Sem.run_bind, Instr.storeAt, Instr.sureAddr, storeVar, hs, Value.cells, hl, hr]
theorem storeOne_step {t : TypeId} {i b off U : Nat} {cs : List Value} (hs : ∀ w, (sizeOf t).run P w = .ok 1 w) (hx : ev E x = some (.pointer (some ⟨b, off, none⟩))) (hy : ev E y = some v) (h1 : v.oneCell' = true)
    (hi : H[i]? = some (blk b U cs)) (ho : off < cs.length) (a : Act) (w : World) (ha : Agrees Γ.n Γ.D E a) (hw : Rep Γ.w0 Γ.S H w) :
    ∃ w', (execOp a.eval { dst := .none, op := .store t x y, type := ty, pos, after, guard := none }).run P w = .ok .skip w' ∧ Rep Γ.w0 Γ.S (H.set i (blk b U (cs.set off v))) w' := by
  have hb := hw.blk hi
  have hr := run_storeAt_cell (P := P) (p := ⟨b, off, none⟩) hs h1 ((hb.cell off).trans (List.getElem?_eq_getElem ho)) (hb.frozen off ho)
  exact ⟨w.setCell ⟨b, off, none⟩ v, by simp [execOp, ha.eval hx, ha.eval hy, Sem.run_bind, hr], hw.set hi off v⟩
/-- A block of which something is known. -/
def blkP (b : Nat) (T : TypeId) (p : List Value → Prop) : Res where
  foot := fun x => x = b
  holds := fun w => ∃ cs, Holds w b T cs ∧ p cs
  stable := fun h hw => by obtain ⟨cs, h1, h2⟩ := hw; exact ⟨cs, (blk b T cs).stable h h1, h2⟩
  low := fun hw x hx => by obtain ⟨cs, h1, h2⟩ := hw; exact (blk b T cs).low h1 x hx
theorem Rep.blkP {w0 S w} (h : Rep w0 S H w) {i b T : Nat} {cs : List Value} (p : List Value → Prop) (hi : H[i]? = some (Wk.blk b T cs)) (hp : p cs) : Rep w0 S (H.set i (Wk.blkP b T p)) w :=
  Rep.change hi h (Mod.refl _ _) ⟨cs, h.blk hi, hp⟩ (fun b' hb => .inl hb)
theorem Val.loadP {t i b off U : Nat} {p : List Value → Prop} (hA : ∀ w, (isAgg t).run P w = .ok false w) (hx : ev E x = some (.pointer (some ⟨b, off, none⟩)))
    (hi : H[i]? = some (blkP b U p)) (hv : ∀ cs, p cs → cs[off]? = some v) : Val P Γ E H ⟨dst, .load t x, ty, pos, after, g⟩ v := fun a w ha hw => by
  obtain ⟨cs, h1, h2⟩ := hw.all _ (List.mem_of_getElem? hi)
  have := run_loadAt_cell (P := P) hA ((h1.cell off).trans (hv cs h2))
  simp [execOp, ha.eval hx, Sem.run_bind, this]
end
end Wk
end Go

set_option linter.unusedVariables false
set_option linter.unusedSimpArgs false
namespace Go.Wk
open Go
section
variable {P : Program} {Γ : Ctx} {E : Env} {H H' : List Res} {ops : Array Oper} {Q : Exit → Act → World → Prop} {K : Act → World → Prop} {rest : List Oper}
  {d : Nat} {dst : Option Tmp} {g : Option (Nat × Bool)} {ty : TypeId} {pos : String} {after : Array Edge} {x y z : Operand} {v u : Value} {c : List PanicEntry}
/-- What a reader gives up with. -/
abbrev brk (T : TypeId) (e : Int) : List PanicEntry := [{ v := .iface T (.agg #[.int .i64 e]), recovered := false }]
theorem At.panicOp {T : TypeId} (hx : ev E x = some (.iface T v)) (k : At Γ E H (Q (.panic [{ v := .iface T v, recovered := false }]))) :
    At Γ E H (wpList P ops Q ({ dst := none, op := .panic x, type := ty, pos, after, guard := none } :: rest)) := fun a w ha hw => by
  refine wpList_plain rfl fun K hK => ?_
  unfold Oper.wp
  have hr : (execOp a.eval { dst := none, op := .panic x, type := ty, pos, after, guard := none }).run P w = .halt (.panic (.iface T v)) w := by
    simp [execOp, ha.eval hx, Instr.panic, goPanic]
  rw [hr]
  simp only [Oper.upon]
  exact k a w ha hw
theorem Val.mkIface {t : TypeId} {fs : Array Field} (hu : P.underlying t = some (.struct fs)) (hx : ev E x = some v) : Val P Γ E H ⟨dst, .makeInterface t x, ty, pos, after, g⟩ (.iface t v) := fun a w ha hw => by
  simp [execOp, ha.eval hx, Instr.makeInterface, run_underlying hu, Sem.run_bind]
theorem Val.ifNilNil {t t' : TypeId} (h : P.underlying t = some (.interface (P.methodsAt t))) (hx : ev E x = some .nilIface) : Val P Γ E H ⟨dst, .binOp .eql t x (.const .nilIface) t', ty, pos, after, g⟩ (.bool true) := fun a w ha _ => by
  have hc : a.eval (.const .nilIface) = .nilIface := rfl
  simp [execOp, ha.eval hx, hc, eqGuard, run_eql_nil_nil w t h]
theorem Val.ifHeldNil {t t' T : TypeId} (h : P.underlying t = some (.interface (P.methodsAt t))) (hx : ev E x = some (.iface T v)) : Val P Γ E H ⟨dst, .binOp .eql t x (.const .nilIface) t', ty, pos, after, g⟩ (.bool false) := fun a w ha _ => by
  have hc : a.eval (.const .nilIface) = .nilIface := rfl
  simp [execOp, ha.eval hx, hc, eqGuard, run_eql_held_nil w t T v h]
theorem Val.assertIs {xt T : TypeId} {fs : Array Field} (h : P.underlying T = some (.struct fs)) (hx : ev E x = some (.iface T v)) : Val P Γ E H ⟨dst, .typeAssert x xt T true, ty, pos, after, g⟩ (.tuple #[v, .bool true]) := fun a w ha _ => by
  simp [execOp, ha.eval hx, Instr.typeAssert, run_underlying h, Sem.run_bind]
/-- The text of bytes. -/
theorem Val.strOf {s t e n c b o : Nat} {l : List UInt8} (hs : P.underlying s = some (.slice e)) (he : P.underlying e = some (.int .u8)) (ht : P.underlying t = some .string) (hx : ev E x = some (.slice (some ⟨b, o, none⟩) n c)) (hl : l.length = n)
    (hc : ∀ w, Rep Γ.w0 Γ.S H w → Bytes w (some ⟨b, o, none⟩) l) : Val P Γ E H ⟨dst, .convert s t x, ty, pos, after, g⟩ (.string ⟨l.toArray⟩) := fun a w ha hw => by
  subst hl
  have := run_convert_bytes_back (P := P) w s t e ⟨b, o, none⟩ c l hs he ht
    (fun j hj => by
      obtain ⟨b', o', hb, hcell⟩ := hc w hw j l[j] (List.getElem?_eq_getElem hj)
      simp only [Option.some.injEq, Addr.mk.injEq] at hb
      obtain ⟨rfl, rfl, _⟩ := hb
      rw [Addr.add_off]
      exact hcell)
  simp [execOp, ha.eval hx, this]
theorem At.noU {j t : Nat} {b : Bool} {op : Op} (hj : (ops[j]?).bind (·.dst) = some t) (hl : look E t = some undef) (hn : Nat.blt d Γ.n = true)
    (k : At Γ ((d, undef) :: E) H (wpList P ops Q rest)) : At Γ E H (wpList P ops Q ({ dst := some d, op, type := ty, pos, after, guard := some (j, b) } :: rest)) := fun a w ha hw => by
  have hy : yielded ops a.tmps j = none := by simp [yielded, hj, ha.get t _ hl, undef]
  unfold wpList
  rw [if_neg (by simp [Region.wanted, hy])]
  exact k _ _ (ha.put d undef hn) hw
theorem QAt.noU {j t : Nat} {b : Bool} {op : Op} {ψ : Act → Prop} (hj : (ops[j]?).bind (·.dst) = some t) (hl : look E t = some undef) (hn : Nat.blt d Γ.n = true)
    (k : QAt P Γ ops ((d, undef) :: E) H rest ψ) : QAt P Γ ops E H ({ dst := some d, op, type := ty, pos, after, guard := some (j, b) } :: rest) ψ := fun a ha => by
  have hy : yielded ops a.tmps j = none := by simp [yielded, hj, ha.get t _ hl, undef]
  unfold wpQuiet
  rw [if_neg (by simp [Region.wanted, hy])]
  exact k _ (ha.put d undef hn)
theorem At.thenE (k : At Γ E H (Q (.panic c))) : At Γ E H (Exit.then K Q (.panic c)) := k
theorem At.blkE {id : Nat} (k : At Γ E H (Q (.panic c))) : At Γ E H (Exit.inBlock id Q (.panic c)) := k
/-- A callee that gives up, and has made memory at most; one that has spoilt a resource. -/
def Throws0 (P : Program) (f : FuncId) (vs : List Value) (c : List PanicEntry) (w : World) : Prop := Calls P f vs.toArray w fun e w' => e = .panicked c ∧ Mod (fun _ => False) w w'
def Throws1 (P : Program) (f : FuncId) (vs : List Value) (r : Res) (c : List PanicEntry) (w : World) : Prop := Calls P f vs.toArray w fun e w' => e = .panicked c ∧ Rep w (feet [r]) [] w'
theorem At.callT {f : FuncId} {l : List Operand} {vs : List Value} {at_ : Array TypeId} {dst : Option Tmp} (hc : ∀ args w, (callFunc f args).run P w = .ok (.enter f args) w) (hv : evs E l = some vs)
    (h : ∀ w, Rep Γ.w0 Γ.S H w → Calls P f vs.toArray w fun e w' => e = .panicked c ∧ Rep Γ.w0 Γ.S H' w') (k : At Γ E H' (Q (.panic c))) :
    At Γ E H (wpList P ops Q ({ dst := dst, op := .call { callee := .value (.func f), args := l.toArray, argTypes := at_ }, type := ty, pos, after, guard := none } :: rest)) := fun a w ha hw => by
  refine wpList_plain rfl fun K hK => ?_
  unfold Oper.wp
  rw [run_call ha hc hv w, Oper.upon_enter]
  refine (h w hw).mono ?_
  rintro e w' ⟨rfl, hw'⟩
  exact k _ _ ha hw'
theorem At.callT0 {f : FuncId} {l : List Operand} {vs : List Value} {at_ : Array TypeId} {dst : Option Tmp} (h : ∀ w, Rep Γ.w0 Γ.S H w → Throws0 P f vs c w) (hc : ∀ args w, (callFunc f args).run P w = .ok (.enter f args) w) (hv : evs E l = some vs)
    (k : At Γ E H (Q (.panic c))) :
    At Γ E H (wpList P ops Q ({ dst := dst, op := .call { callee := .value (.func f), args := l.toArray, argTypes := at_ }, type := ty, pos, after, guard := none } :: rest)) :=
  At.callT hc hv (fun w hw => (h w hw).mono fun e w' ⟨he, hm⟩ => ⟨he, hw.garbage hm⟩) k
theorem At.callT1 (i : Nat) {r : Res} {f : FuncId} {l : List Operand} {vs : List Value} {at_ : Array TypeId} {dst : Option Tmp} (hi : H[i]? = some r) (h : ∀ w, Rep Γ.w0 Γ.S H w → r.holds w → Throws1 P f vs r c w)
    (hc : ∀ args w, (callFunc f args).run P w = .ok (.enter f args) w) (hv : evs E l = some vs) (k : At Γ E (H.eraseIdx i) (Q (.panic c))) :
    At Γ E H (wpList P ops Q ({ dst := dst, op := .call { callee := .value (.func f), args := l.toArray, argTypes := at_ }, type := ty, pos, after, guard := none } :: rest)) :=
  At.callT hc hv (fun w hw => (h w hw (hw.all _ (List.mem_of_getElem? hi))).mono fun e w' ⟨he, hr⟩ => ⟨he, Rep.frame (H0 := [r]) (H0' := []) (hw.perm (erase_perm H i r hi)) hr⟩) k
theorem At.fail {fn : Func} {R : Ending → World → Prop} (hD : Γ.D = []) (k : ∀ w, Rep Γ.w0 Γ.S H w → R (.panicked c) w) : At Γ E H (bodyPost P fn R (.panic c)) := fun a w ha hw => ⟨ha.defers.trans hD, k w hw⟩
/-! ### deferred calls -/
theorem At.defer {f : FuncId} {l : List Operand} {vs : List Value} {at_ : Array TypeId} (hv : evs E l = some vs) (k : At { Γ with D := { target := .fn (.func f) #[], args := vs.toArray } :: Γ.D } E H (wpList P ops Q rest)) :
    At Γ E H (wpList P ops Q ({ dst := none, op := .defer { callee := .value (.func f), args := l.toArray, argTypes := at_ }, type := ty, pos, after, guard := none } :: rest)) := fun a w ha hw => by
  refine wpList_plain rfl fun K hK => ?_
  unfold Oper.wp
  have := ha.evals hv
  have hr : (execOp a.eval { dst := none, op := .defer { callee := .value (.func f), args := l.toArray, argTypes := at_ }, type := ty, pos, after, guard := none }).run P w = .ok (.defer { target := .fn (.func f) #[], args := vs.toArray }) w := by
    simp [execOp, resolve, Act.eval, Deferred.ofValue, Sem.run_bind, this]
  rw [hr, Oper.upon_defer]
  exact hK _ _ (k _ _ ⟨ha.size, by simp [Act.put, ha.defers], ha.get⟩ hw)
theorem enterD {f : FuncId} {fn : Func} {c : Code} {vs : List Value} {w : World} {R : Ending → World → Prop} {n : Nat} (S : Nat → Prop) (H : List Res) (hf : P.funcs[f]? = some fn) (hb : fn.body = some c) (hn : fn.ntmps = n) (hl : Nat.ble vs.length n = true)
    (hw : Rep w S H w) (k : At ⟨w, S, n, []⟩ (envOf 0 vs) H (c.wp P (bodyPostD P fn R))) : Calls P f vs.toArray w R := by
  refine calls_of_wp_defers hf hb (k _ _ ⟨?_, rfl, fun t v ht => ?_⟩ hw)
  · have : vs.length ≤ n := by simpa using hl
    simp [hn]; omega
  · obtain ⟨_, h2⟩ := look_envOf vs 0 t v ht
    simp only [Nat.sub_zero] at h2
    have : t < vs.length := (List.getElem?_eq_some_iff.1 h2).1
    simp [Array.getElem?_append, this]
    simpa [this] using h2
theorem enterD0 {f : FuncId} {fn : Func} {c : Code} {vs : List Value} {w : World} {R : Ending → World → Prop} {n : Nat} (hf : P.funcs[f]? = some fn) (hb : fn.body = some c) (hn : fn.ntmps = n) (hl : Nat.ble vs.length n = true)
    (k : At ⟨w, fun _ => False, n, []⟩ (envOf 0 vs) [] (c.wp P (bodyPostD P fn R))) : Calls P f vs.toArray w R :=
  enterD (fun _ => False) [] hf hb hn hl ⟨by simp, by simp, by simp, Mod.refl _ _⟩ k
/-- A deferred call that finds nothing to do. -/
def Idle (P : Program) (f : FuncId) (vs : List Value) (w : World) : Prop := CallsD P f vs.toArray .returning w fun e u' w' => e = .returned (.tuple #[]) ∧ u' = .returning ∧ Mod (fun _ => False) w w'
/-- A deferred call that catches what comes up, and turns two resources. -/
def Catches (P : Program) (f : FuncId) (vs : List Value) (c : List PanicEntry) (r s r' s' : Res) (w : World) : Prop :=
  CallsD P f vs.toArray (.panicking c) w fun e u' w' => e = .returned (.tuple #[]) ∧ settle u' = .returning ∧ Rep w (feet [r, s]) [r', s'] w'
theorem run_invoke {f : FuncId} {vs : List Value} (hc : ∀ args w, (callFunc f args).run P w = .ok (.enter f args) w) (w : World) : (invoke (.fn (.func f) #[]) vs.toArray).run P w = .ok (.enter f vs.toArray) w := by
  simp [invoke, hc]
theorem At.leaveN {fn : Func} {R : Ending → World → Prop} {e : Exit} {f : FuncId} {vs : List Value} {r s : ResultVar} (he : e = .ret ∨ e = .normal) (hD : Γ.D = [{ target := .fn (.func f) #[], args := vs.toArray }])
    (hc : ∀ args w, (callFunc f args).run P w = .ok (.enter f args) w) (hidle : ∀ w, Rep Γ.w0 Γ.S H w → Idle P f vs w) (hr : fn.results = #[r, s]) (h : ResOf P Γ E H r v) (h' : ResOf P Γ E H s u)
    (k : ∀ w, Rep Γ.w0 Γ.S H w → R (.returned (.tuple #[v, u])) w) : At Γ E H (bodyPostD P fn R e) := fun a w ha hw => by
  have key : Leaves P fn a.tmps R a.defers .returning w := by
    rw [ha.defers.trans hD]
    refine leaves_cons (by simp) (run_invoke hc w) ((hidle w hw).mono ?_)
    rintro e u' w' ⟨rfl, rfl, hm⟩
    have hw' := hw.garbage hm
    exact ⟨_, results_two hr _ _ (resOne_run h ha hw') (resOne_run h' ha hw'), k w' hw'⟩
  rcases he with rfl | rfl <;> exact key
theorem At.leaveP {fn : Func} {R : Ending → World → Prop} {f : FuncId} {vs : List Value} {r s : ResultVar} {p q p' q' : Res} {F : List Res} (hD : Γ.D = [{ target := .fn (.func f) #[], args := vs.toArray }])
    (hc : ∀ args w, (callFunc f args).run P w = .ok (.enter f args) w) (hH : H.Perm ([p, q] ++ F)) (hcat : ∀ w, Rep Γ.w0 Γ.S ([p, q] ++ F) w → Catches P f vs c p q p' q' w) (hr : fn.results = #[r, s])
    (h : ResOf P Γ E ([p', q'] ++ F) r v) (h' : ResOf P Γ E ([p', q'] ++ F) s u)
    (k : ∀ w, Rep Γ.w0 Γ.S ([p', q'] ++ F) w → R (.returned (.tuple #[v, u])) w) : At Γ E H (bodyPostD P fn R (.panic c)) := fun a w ha hw => by
  have key : Leaves P fn a.tmps R a.defers (.panicking c) w := by
    rw [ha.defers.trans hD]
    refine leaves_cons (by simp) (run_invoke hc w) ((hcat w (hw.perm hH)).mono ?_)
    rintro e u' w' ⟨rfl, hu, hm⟩
    have hw' := Rep.frame (hw.perm hH) hm
    simp only [hu]
    exact ⟨_, results_two hr _ _ (resOne_run h ha hw') (resOne_run h' ha hw'), k w' hw'⟩
  exact key
/-! ### a deferred function that begins with recover -/
theorem enterC {f : FuncId} {fn : Func} {rest : Code} {vs : List Value} {w : World} {R : Ending → World → Prop} {n id : Nat} {um um' : FrameMode} (S : Nat → Prop) (H : List Res)
    (hf : P.funcs[f]? = some fn) (hb : fn.body = some (.seq (.region id #[{ dst := some d, op := .call { callee := .builtin .recover, args := #[], argTypes := #[] }, type := ty, pos, after, guard := none }] false) rest))
    (hn : fn.ntmps = n) (hl : Nat.ble vs.length n = true) (hd : Nat.blt d n = true) (hw : Rep w S H w)
    (hrec : ∀ (c₀ : Frame) (cs : List Frame), c₀.mode = um → recoverD (c₀ :: cs) = some (v, { c₀ with mode := um' } :: cs) ∨ (recoverD (c₀ :: cs) = none ∧ v = .nilIface ∧ um' = um))
    (k : At ⟨w, S, n, []⟩ ((d, v) :: envOf 0 vs) H (rest.wp P (bodyPost P fn R))) : CallsD P f vs.toArray um w (fun e u'' w' => u'' = um' ∧ R e w') := by
  refine callsD_of_wpS hf hb fun c₀ cs hu => ?_
  have ha : Agrees n [] (envOf 0 vs) { tmps := vs.toArray ++ Array.replicate (fn.ntmps - vs.toArray.size) undef, defers := [] } := by
    refine ⟨?_, rfl, fun t v ht => ?_⟩
    · have : vs.length ≤ n := by simpa using hl
      simp [hn]; omega
    · obtain ⟨_, h2⟩ := look_envOf vs 0 t v ht
      simp only [Nat.sub_zero] at h2
      have : t < vs.length := (List.getElem?_eq_some_iff.1 h2).1
      simp [Array.getElem?_append, this]
      simpa [this] using h2
  have hk := k _ w (ha.put d v hd) hw
  have hcs : ({ c₀ with mode := um } : Frame) = c₀ := by subst hu; rfl
  have hpost : ∀ e a' w', bodyPost P fn R e a' w' → bodyPostS P fn c₀ cs (fun e u'' w' => u'' = um' ∧ R e w') e a' ({ c₀ with mode := um' } :: cs) w' := by
    intro e a' w' hq
    cases e with
    | normal => obtain ⟨h1, v, h2, h3⟩ := hq; exact ⟨h1, um', rfl, v, h2, rfl, h3⟩
    | ret => obtain ⟨h1, v, h2, h3⟩ := hq; exact ⟨h1, um', rfl, v, h2, rfl, h3⟩
    | panic ch => exact ⟨hq.1, um', rfl, rfl, hq.2⟩
    | exit id => exact hq.elim
    | goto l => exact hq.elim
    | outgrown => exact ⟨um', rfl, hq⟩
  refine wpS_seq (wpS_region ?_)
  have hrun : ∀ (ρ : Act) w, (execOp ρ.eval { dst := some d, op := .call { callee := .builtin .recover, args := #[], argTypes := #[] }, type := ty, pos, after, guard := none }).run P w = .ok .recover w := fun ρ w => by
    simp [execOp, resolve, invoke, builtin, Sem.run_bind]
  have hr1 : List.range (#[({ dst := some d, op := .call { callee := .builtin .recover, args := #[], argTypes := #[] }, type := ty, pos, after, guard := none } : Oper)]).size = [0] := rfl
  rw [hr1]
  rcases hrec c₀ cs hu with h1 | ⟨h1, rfl, rfl⟩
  · simp only [wpOpsS, List.getElem?_toArray, List.getElem?_cons_zero, Region.wanted, hrun, h1, if_true, Exit.thenS]
    exact wpS_of_wp (wp_mono hk hpost)
  · rw [hcs] at hpost
    simp only [wpOpsS, List.getElem?_toArray, List.getElem?_cons_zero, Region.wanted, hrun, h1, if_true, Exit.thenS]
    exact wpS_of_wp (wp_mono hk hpost)
end
theorem Rep.ne01 {w0 : World} {S : Nat → Prop} {b b' T T' : Nat} {cs cs' : List Value} {F : List Res} {w : World} (h : Rep w0 S (Wk.blk b T cs :: Wk.blk b' T' cs' :: F) w) : b ≠ b' := fun e =>
  (List.pairwise_cons.1 h.sep).1 _ (List.mem_cons_self ..) b rfl e
theorem Rep.apart {w0 : World} {S : Nat → Prop} {b b' T T' : Nat} {cs cs' : List Value} {H : List Res} {w : World} (h : Rep w0 S H w) (i j : Nat) (hi : H[i]? = some (Wk.blk b T cs)) (hj : H[j]? = some (Wk.blk b' T' cs')) (hij : i ≠ j) : b ≠ b' := fun e => by
  obtain ⟨hi', rfl'⟩ := List.getElem?_eq_some_iff.1 hi
  obtain ⟨hj', rfl''⟩ := List.getElem?_eq_some_iff.1 hj
  have hp := List.pairwise_iff_getElem.1 h.sep
  rcases Nat.lt_or_gt_of_ne hij with hlt | hlt
  · have := hp i j hi' hj' hlt
    rw [rfl', rfl''] at this
    exact this b rfl e
  · have := hp j i hj' hi' hlt
    rw [rfl', rfl''] at this
    exact this b' rfl e.symm
end Go.Wk

set_option linter.unusedVariables false
set_option linter.unusedSimpArgs false
namespace Go
section
variable {P : Program} {ops : Array Oper} {md : Region.Mode} {C : World → Prop} {c : List PanicEntry}
def Thr (P : Program) (C : World → Prop) (c : List PanicEntry) (s : Sem Next) : Prop := ∀ w, C w → ∃ f args, s.run P w = .ok (.enter f args) w ∧ Calls P f args w fun e w' => e = .panicked c ∧ C w'
def thrG (P : Program) (C : World → Prop) (c : List PanicEntry) (t : Nat) (i : Nat) (s : Sem Next) (v : Value) : Prop :=
  if i = t then Thr P C c s else (∀ w, C w → Oper.quietUpon P C w v (s.run P w)) ∨ Thr P C c s
theorem wpAny_of_thr {I : Act → Prop} {t n g : Nat} {ot : Oper} {L : Array Bool → Act → Prop} {Q : Exit → Act → World → Prop} (htt : ops[t]? = some ot) (hgt : ot.guard = none)
    (hI : ∀ (i : Nat) o a v, ops[i]? = some o → I a → I (a.put o.dst v)) (hQ : ∀ a w, I a → C w → Q (.panic c) a w)
    (hL : ∀ listed a, L listed a → listed.getD t true = false → False) :
    ∀ (f : Nat) (listed : Array Bool) (a : Act) (w : World), I a → C w → listed.getD t true = false →
    wpAnyG md ops (thrG P C c t) n L f listed a → wpAny P md ops Q (f + g) listed a w
  | 0, listed, a, w, ha, hw, ht, h => (hL _ _ h ht).elim
  | f + 1, listed, a, w, ha, hw, ht, h => by
    rw [show f + 1 + g = (f + g) + 1 by omega]
    refine ⟨fun h0 => absurd h0 h.1, fun i hi => ?_⟩
    have hq := (h.2 i hi).2
    obtain ⟨hun, oi, hoi, _⟩ := mem_ready.1 hi
    unfold gOp at hq
    unfold wpOp
    simp only [hoi] at hq ⊢
    obtain ⟨v, hy, hK⟩ := hq
    have thr : Region.wanted oi (yielded ops a.tmps) = true → Thr P C c (execOp a.eval oi) → (if Region.wanted oi (yielded ops a.tmps) = true then oi.wp P a w (wpAny P md ops Q (f + g) (listed.setIfInBounds i true)) Q ∨ (oi.asks P a w ∧ LetsOut Q) else wpAny P md ops Q (f + g) (listed.setIfInBounds i true) (a.put oi.dst undef) w) := fun hwt hth => by
      obtain ⟨f', args, hr, hc⟩ := hth w hw
      rw [if_pos hwt]
      refine .inl ?_
      simp only [Oper.wp, hr, Oper.upon]
      refine hc.mono ?_
      rintro e w' ⟨rfl, hw'⟩
      exact hQ _ _ ha hw'
    by_cases hit : i = t
    · subst hit
      have : oi = ot := Option.some.inj (hoi.symm.trans htt)
      subst this
      have hwt : Region.wanted oi (yielded ops a.tmps) = true := by simp [Region.wanted, hgt]
      rcases hy with ⟨_, hy⟩ | ⟨hy, _⟩
      · simp only [thrG, if_true] at hy
        exact thr hwt hy
      · rw [hwt] at hy; cases hy
    · have hne : (listed.setIfInBounds i true).getD t true = false := by rw [getD_set_ne true hit]; exact ht
      rcases hy with ⟨hwt, hy⟩ | ⟨hwt, rfl⟩
      · simp only [thrG, if_neg hit] at hy
        rcases hy with hy | hy
        · rw [if_pos hwt]
          refine .inl ?_
          have h3 := hy w hw
          unfold Oper.wp
          generalize (execOp a.eval oi).run P w = r at *
          cases r with
          | ok nx w' =>
            cases nx <;> simp only [Oper.quietUpon] at h3 <;> simp only [Oper.upon]
            case value u =>
              obtain ⟨e1, e2⟩ := h3
              rw [e1, e2]
              exact wpAny_of_thr htt hgt hI hQ hL f _ _ w (hI i oi a v hoi ha) hw hne hK
            case skip =>
              obtain ⟨e1, e2⟩ := h3
              rw [e1, ← e2]
              exact wpAny_of_thr htt hgt hI hQ hL f _ _ w (hI i oi a v hoi ha) hw hne hK
            case enter f' args =>
              obtain ⟨e1, hc⟩ := h3
              rw [e1]
              exact hc.mono fun e w'' ⟨he, hw''⟩ => by subst he; exact wpAny_of_thr htt hgt hI hQ hL f _ _ w'' (hI i oi a v hoi ha) hw'' hne hK
          | halt x w' => simp only [Oper.quietUpon] at h3
        · exact thr hwt hy
      · rw [if_neg (by rw [hwt]; simp)]
        exact wpAny_of_thr htt hgt hI hQ hL f _ _ w (hI i oi a undef hoi ha) hw hne hK
theorem wp_region_thr {id : Nat} {Q : Exit → Act → World → Prop} {a : Act} {w : World} {l : List Oper} {I : Act → Prop} {ot : Oper} (n t : Nat) (hm : P.follows .mixedOrders = true) (hB : Region.lexTailB .any l.toArray n = true) (htn : t < n)
    (ho : l[t]? = some ot) (hg : ot.guard = none) (hI : ∀ (i : Nat) o a v, l[i]? = some o → I a → I (a.put o.dst v)) (hQ : ∀ a w, I a → C w → Q (.panic c) a w) (ha : I a) (hC : C { w with drawn := w.drawn + 1 })
    (h : wpG l.toArray (thrG P C c t) (fun _ => True) 0 (l.take n) a) : (Code.region id l.toArray true).wp P Q a w := by
  simp only [Region.lexTailB, Bool.and_eq_true, decide_eq_true_eq] at hB
  obtain ⟨⟨⟨⟨hsel, hn⟩, hs⟩, hc⟩, hlex⟩ := hB
  have hn' : n < l.length := by simpa using hn
  have htl : (l.take n).length = n := by simp; omega
  have inv0 : HeadInv .any l.toArray n (Array.replicate l.toArray.size false) :=
    ⟨by simp, fun j oj _ hl => (by rw [getD_replicate_false] at hl; cases hl), fun t _ ht => getD_in (by simpa using ht) (getD_replicate_false _ _)⟩
  have H := wpAnyG_lex (md := .any) (g := l.toArray.size - n) hsel hs hc hn (l.take n) 0 _ a (fun j hj => by
    have hj' : j < n := by rw [htl] at hj; exact hj
    simp [hj']) (by simpa using htl) inv0 (by rw [htl]; exact hlex) h
  refine wp_region_any hm ?_
  have := wpAny_of_thr (Q := Q) (g := l.toArray.size - n) (t := t) (ot := ot) (I := I) (by simpa using ho) hg (fun i o a v hi => hI i o a v (by simpa using hi)) hQ (fun listed a' hL hb => by
    have hsq := hL.2.1
    obtain ⟨g, hg⟩ : ∃ g, l.toArray.size - n = g + 1 := ⟨l.toArray.size - n - 1, by omega⟩
    rw [hg] at hsq
    simp only [Region.seqB, Bool.and_eq_true, decide_eq_true_eq] at hsq
    exact absurd (by rw [hsq.1]; simp) (tail_waits hs hc hn hL.1 _ t rfl htn hb n (Nat.le_refl n))) _ _ a { w with drawn := w.drawn + 1 } ha hC (getD_in (by simp; omega) (getD_replicate_false _ _)) H
  rw [htl, show n + (l.toArray.size - n) = l.toArray.size by omega] at this
  exact this
end
namespace Wk
section
variable {P : Program} {Γ : Ctx} {E E' : Env} {H : List Res} {ops : Array Oper} {Q : Exit → Act → World → Prop} {rest : List Oper} {o : Oper} {c : List PanicEntry}
  {d : Nat} {ty : TypeId} {pos : String} {after : Array Edge} {v u : Value} {t j : Nat}
theorem Agrees.other {n D E} {a : Act} (h : Agrees n D E a) {d : Nat} (v : Value) (hd : look E d = none) : Agrees n D E (a.put (some d) v) := by
  refine ⟨by simp [Act.put, h.size], h.defers, fun s u hs => ?_⟩
  have hne : d ≠ s := fun e => by subst e; rw [hd] at hs; cases hs
  simp only [Act.put]
  rw [Array.getElem?_setIfInBounds_ne hne]
  exact h.get s u hs
def TAt (P : Program) (Γ : Ctx) (ops : Array Oper) (H : List Res) (c : List PanicEntry) (t k : Nat) (E : Env) (l : List Oper) : Prop := ∀ a, Agrees Γ.n Γ.D E a → wpG ops (thrG P (Rep Γ.w0 Γ.S H) c t) (fun _ => True) k l a
theorem At.throwR {id : Nat} {l : List Oper} (n t : Nat) (E' : Env) (hE : Sub E E') (hfree : (l.all fun o => match o.dst with | some d => (look E' d).isNone | none => true) = true) (hm : P.follows .mixedOrders = true) (hB : Region.lexTailB .any l.toArray n = true) (htn : t < n) (ho : l[t]? = some o) (hg : o.guard = none)
    (kp : At Γ E' H (Q (.panic c))) (k : TAt P Γ l.toArray H c t 0 E (l.take n)) : At Γ E H ((Code.region id l.toArray true).wp P Q) := fun a w ha hw =>
  wp_region_thr (I := Agrees Γ.n Γ.D E') (C := Rep Γ.w0 Γ.S H) n t hm hB htn ho hg (fun i o a v hi ha => by
    have h1 := List.all_eq_true.1 hfree o (List.mem_of_getElem? hi)
    cases hd : o.dst with
    | none => exact ha
    | some d => rw [hd] at h1; exact ha.other v (Option.isNone_iff_eq_none.1 h1)) (fun a w ha hw => kp a w ha hw) (ha.weaken hE) hw.drew (k a ha)
theorem TAt.fin : TAt P Γ ops H c t j E [] := fun a ha => trivial
theorem TAt.val (h : Val P Γ E H o v) (hg : o.guard = none) (hd : o.dst = some d) (hn : Nat.blt d Γ.n = true) (hj : Nat.beq j t = false) (k : TAt P Γ ops H c t (j + 1) ((d, v) :: E) rest) : TAt P Γ ops H c t j E (o :: rest) := fun a ha => by
  have hne : ¬ j = t := fun e => by subst e; rw [Nat.beq_refl] at hj; cases hj
  refine ⟨v, .inl ⟨by simp [Region.wanted, hg], ?_⟩, ?_⟩
  · simp only [thrG, if_neg hne]
    refine .inl fun w hw => ?_
    rw [h a w ha hw]
    exact ⟨rfl, rfl⟩
  · rw [hd]; exact k _ (ha.put d v hn)
theorem TAt.callP {f : FuncId} {l : List Operand} {vs : List Value} {at_ : Array TypeId} (h : ∀ w, Rep Γ.w0 Γ.S H w → PureC P f vs v w) (hc : ∀ args w, (callFunc f args).run P w = .ok (.enter f args) w) (hv : evs E l = some vs) (hn : Nat.blt d Γ.n = true) (hj : Nat.beq j t = false)
    (k : TAt P Γ ops H c t (j + 1) ((d, v) :: E) rest) : TAt P Γ ops H c t j E ({ dst := some d, op := .call { callee := .value (.func f), args := l.toArray, argTypes := at_ }, type := ty, pos, after, guard := none } :: rest) := fun a ha => by
  have hne : ¬ j = t := fun e => by subst e; rw [Nat.beq_refl] at hj; cases hj
  refine ⟨v, .inl ⟨by simp [Region.wanted], ?_⟩, k _ (ha.put d v hn)⟩
  simp only [thrG, if_neg hne]
  refine .inl fun w hw => ?_
  rw [run_call ha hc hv w]
  exact ⟨rfl, (h w hw).mono fun e w' ⟨he, hm⟩ => ⟨he, hw.garbage hm⟩⟩
theorem TAt.callT (v : Value) {f : FuncId} {l : List Operand} {vs : List Value} {at_ : Array TypeId} (h : ∀ w, Rep Γ.w0 Γ.S H w → Throws0 P f vs c w) (hc : ∀ args w, (callFunc f args).run P w = .ok (.enter f args) w) (hv : evs E l = some vs) (hn : Nat.blt d Γ.n = true)
    (k : TAt P Γ ops H c t (j + 1) ((d, v) :: E) rest) : TAt P Γ ops H c t j E ({ dst := some d, op := .call { callee := .value (.func f), args := l.toArray, argTypes := at_ }, type := ty, pos, after, guard := none } :: rest) := fun a ha => by
  have hth : Thr P (Rep Γ.w0 Γ.S H) c (execOp a.eval { dst := some d, op := .call { callee := .value (.func f), args := l.toArray, argTypes := at_ }, type := ty, pos, after, guard := none }) := fun w hw =>
    ⟨f, vs.toArray, run_call ha hc hv w, (h w hw).mono fun e w' ⟨he, hm⟩ => ⟨he, hw.garbage hm⟩⟩
  refine ⟨v, .inl ⟨by simp [Region.wanted], ?_⟩, k _ (ha.put d v hn)⟩
  unfold thrG
  split
  · exact hth
  · exact .inr hth
end
end Wk
end Go

set_option linter.unusedVariables false
set_option linter.unusedSimpArgs false
namespace Go.Wk
open Go
section
variable {P : Program} {Γ : Ctx} {E : Env} {H : List Res} {dst : Option Tmp} {g : Option (Nat × Bool)} {ty : TypeId} {pos : String} {after : Array Edge} {x y : Operand} {v : Value}
theorem Val.indexVal {t el : TypeId} {len : Nat} {cs : Array Value} {k : IntKind} {j : Int} (hu : P.underlying t = some (.array len el)) (hs : ∀ w, (sizeOf el).run P w = .ok 1 w) (hA : ∀ w, (isAgg el).run P w = .ok false w)
    (hx : ev E x = some (.agg cs)) (hy : ev E y = some (.int k j)) (h0 : 0 ≤ j) (h1 : j < len) (hv : cs[j.toNat]? = some v) : Val P Γ E H ⟨dst, .index t x y, ty, pos, after, g⟩ v := fun a w ha _ => by
  simp [execOp, ha.eval hx, ha.eval hy, Sem.run_bind, Instr.index, asIntOf, run_underlying hu, h0, h1, hs, part, hA, hv]
end
def fillG (l m : List Value) (k : Nat) : List Value := l.take k ++ m.drop k
theorem fillG_zero (l m : List Value) : fillG l m 0 = m := by simp [fillG]
theorem fillG_all {l m : List Value} {n : Nat} (h : l.length = n) (h' : m.length = n) : fillG l m n = l := by
  unfold fillG; rw [List.take_of_length_le (by omega), List.drop_of_length_le (by omega), List.append_nil]
theorem fillG_length {l m : List Value} (h : l.length = m.length) (k : Nat) : (fillG l m k).length = l.length := by
  unfold fillG; simp; omega
theorem fillG_step {l m : List Value} {k : Nat} {c : Value} (hc : l[k]? = some c) (h : l.length = m.length) : (fillG l m k).set k c = fillG l m (k + 1) := by
  have hk : k < l.length := (List.getElem?_eq_some_iff.1 hc).1
  unfold fillG
  rw [List.set_append_right _ _ (by simp; omega), List.length_take, show min k l.length = k by omega, Nat.sub_self, List.drop_eq_getElem_cons (show k < m.length by omega), List.set_cons_zero, List.take_add_one, hc]
  simp
end Go.Wk

set_option linter.unusedVariables false
set_option linter.unusedSimpArgs false
namespace Go.Wk
open Go
section
variable {P : Program} {Γ : Ctx} {E : Env} {H : List Res} {ops : Array Oper} {Q : Exit → Act → World → Prop} {rest : List Oper}
  {d : Nat} {ty : TypeId} {pos : String} {after : Array Edge}
/-- Where the ways through x meet, y begins: what holds there is a family over s. -/
def Meet (Γ : Ctx) {σ : Type} (inv : σ → Prop) (I : σ → Env) (J : σ → List Res) (a : Act) (w : World) : Prop := ∃ s, inv s ∧ Agrees Γ.n Γ.D (I s) a ∧ Rep Γ.w0 Γ.S (J s) w
theorem At.join {σ : Type} (inv : σ → Prop) (I : σ → Env) (J : σ → List Res) {x y : Code} (hx : At Γ E H (x.wp P (Exit.then (Meet Γ inv I J) Q))) (hy : ∀ s, inv s → At Γ (I s) (J s) (y.wp P Q)) : At Γ E H ((Code.seq x y).wp P Q) :=
  At.seq fun a w ha hw => wp_mono (hx a w ha hw) fun e a w hq => by
    cases e with
    | normal => obtain ⟨s, h1, h2, h3⟩ := hq; exact hy s h1 a w h2 h3
    | _ => exact hq
theorem At.meets {σ : Type} {inv : σ → Prop} {I : σ → Env} {J : σ → List Res} (s : σ) (h : inv s) (hE : Sub E (I s)) (hH : H.Perm (J s)) : At Γ E H (Meet Γ inv I J) := fun a w ha hw => ⟨s, h, ha.weaken hE, hw.perm hH⟩
def NewRowT (P : Program) (f : FuncId) (vs : List Value) (g : Value → Value) (e sz n : Nat) (xs : List Value) (w : World) : Prop :=
  Calls P f vs.toArray w fun r w' => ∃ v', r = .returned (g v') ∧ Rep w (feet []) [rowR v' e sz n xs] w'
theorem At.callNT {g : Value → Value} {e sz n : Nat} {xs : List Value} {f : FuncId} {l : List Operand} {vs : List Value} {at_ : Array TypeId} (h : ∀ w, Rep Γ.w0 Γ.S H w → NewRowT P f vs g e sz n xs w)
    (hc : ∀ args w, (callFunc f args).run P w = .ok (.enter f args) w) (hv : evs E l = some vs) (hn : Nat.blt d Γ.n = true)
    (k : ∀ v', At Γ ((d, g v') :: E) (rowR v' e sz n xs :: H) (wpList P ops Q rest)) :
    At Γ E H (wpList P ops Q ({ dst := some d, op := .call { callee := .value (.func f), args := l.toArray, argTypes := at_ }, type := ty, pos, after, guard := none } :: rest)) :=
  At.call hc hv hn fun w hw => (h w hw).mono fun e w' ⟨v', he, hr⟩ => ⟨g v', _, he, Rep.frame (H0 := []) (F := H) hw hr, k v'⟩
end
end Go.Wk
namespace Go.Wk
open Go
/-- Cells that are read, wherever they lie. -/
def Cells (w : World) (A : Option Addr) (l : List Value) : Prop := ∀ j u, l[j]? = some u → ∃ b o, A = some ⟨b, o, none⟩ ∧ w.cell? ⟨b, o + j, none⟩ = some u
theorem Cells.mod {w w' : World} {A : Option Addr} {l : List Value} (h : Cells w A l) (hm : Mod (fun _ => False) w w') : Cells w' A l := fun j u hj => by
  obtain ⟨b, o, e, hc⟩ := h j u hj
  refine ⟨b, o, e, ?_⟩
  have hr : Rep w (fun _ => False) [] w' := ⟨by simp, by simp, by simp, hm⟩
  exact hr.oldCell hc (fun h => h)
theorem row_cells {w : World} {A : Option Addr} {e sz n c : Nat} {xs : List Value} (h : w.ownsRow 0 e sz (.slice A n c) n xs) (hsz : 0 < sz) : Cells w A xs := fun k u hk => by
  have hc := row_cell (u := u) h (q := k) hk
  rcases h.2 with ⟨h1, rfl⟩ | ⟨b, cap, cur, h1, _⟩
  · have := h.1; simp at this; subst this; simp at hk
  · simp only [Value.slice.injEq] at h1
    obtain ⟨rfl, _, _⟩ := h1
    refine ⟨b, 0, rfl, ?_⟩
    simpa [rowB, Value.ownBlock] using hc
section
variable {P : Program} {Γ : Ctx} {E : Env} {H : List Res} {dst : Option Tmp} {g : Option (Nat × Bool)} {ty : TypeId} {pos : String} {after : Array Edge} {x y : Operand} {v : Value}
/-- A part of the memory in which the call began. -/
theorem Val.loadOldPart {t b o n : Nat} {vs : List Value} (hA : ∀ w, (isAgg t).run P w = .ok true w) (hs : ∀ w, (sizeOf t).run P w = .ok n w) (hx : ev E x = some (.pointer (some ⟨b, o, none⟩))) (hl : vs.length = n)
    (hc : ∀ j u, vs[j]? = some u → Γ.w0.cell? ⟨b, o + j, none⟩ = some u) (hS : ¬ Γ.S b) : Val P Γ E H ⟨dst, .load t x, ty, pos, after, g⟩ (.agg vs.toArray) := fun a w ha hw => by
  have hld := run_loadCells_list (P := P) w ⟨b, o, none⟩ vs (fun j u hj => by rw [Addr.add_off]; exact hw.oldCell (hc j u hj) hS)
  rw [hl] at hld
  simp only [execOp, ha.eval hx, Instr.loadAt, Instr.sureAddr, loadVar, Sem.run_bind, Sem.run_pure, Result.andThen_ok, hA, if_true, hs, hld]
end
end Go.Wk
namespace Go.Wk
open Go
section
variable {P : Program} {Γ : Ctx} {E : Env} {H : List Res} {ops : Array Oper} {Q : Exit → Act → World → Prop} {rest : List Oper} {d : Nat} {ty : TypeId} {pos : String} {after : Array Edge} {x y : Operand} {v : Value}
/-- append of a slice that is read, wherever it lies, nil or not. -/
theorem At.appendSl {i t e sz by_ n m c : Nat} {A : Option Addr} {ti : TypeInfo} {z : Value} {xs ys : List Value} (ht : P.underlying t = some (.slice e)) (hti : P.info? e = some ti) (hz : ti.zero = some z) (hsize : ti.size = sz) (hby : ti.bytes = by_) (hzs : z.cells.size = sz) (hsz : Nat.blt 0 sz = true)
    (hx : ev E x = some v) (hy : ev E y = some (.slice A m c)) (hi : H[i]? = some (rowR v e sz n xs)) (hl : ys.length = m * sz) (hmc : m ≤ c) (hA : A = none → m = 0 ∧ c = 0) (hsp : 0 < c → ∀ a, A = some a → a.spot = none)
    (hsrc : ∀ w, Rep Γ.w0 Γ.S H w → Cells w A ys) (h1 : ∀ u ∈ ys, u.oneCell' = true) (h63 : (n + m) * by_ ≤ 140737488355328) (h64 : n + m ≤ 140737488355328) (hn : Nat.blt d Γ.n = true)
    (k : ∀ v', At Γ ((d, v') :: E) (H.set i (rowR v' e sz (n + m) (xs ++ ys))) (wpList P ops Q rest)) :
    At Γ E H (wpList P ops Q ({ dst := some d, op := .call { callee := .builtin .append, args := #[x, y], argTypes := #[t, t] }, type := ty, pos, after, guard := none } :: rest)) := by
  cases A with
  | none =>
    obtain ⟨rfl, rfl⟩ := hA rfl
    have hys : ys = [] := List.eq_nil_of_length_eq_zero (by omega)
    subst hys
    refine At.run rfl rfl hn fun a w ha hw => ?_
    have h : w.ownsRow 0 e sz v n xs := hw.row hi
    have hr := run_append_owned_none (P := P) (w := w) 0 t ty e ti sz ht hti v n xs h
    refine ⟨v, w, _, by simp [execOp, resolve, invoke, builtin, ha.eval hx, ha.eval hy, Sem.run_bind, hr], ?_, k v⟩
    exact Rep.change hi hw (Mod.refl _ _) (by simpa [rowR] using h) (fun b hb => .inl hb)
  | some a =>
    rcases Nat.eq_zero_or_pos c with hc0 | hc0
    · subst hc0
      obtain rfl : m = 0 := by omega
      have hys : ys = [] := List.eq_nil_of_length_eq_zero (by omega)
      subst hys
      refine At.run rfl rfl hn fun a' w ha hw => ?_
      have h : w.ownsRow 0 e sz v n xs := hw.row hi
      obtain ⟨v', w', hr, ho, hg, hf⟩ := run_append_row (P := P) (ty := ty) ht hti hz hsize hby hzs (by simpa [Nat.blt_eq] using hsz) h (a := a) (m := 0) (c := 0) hl (fun j u hj => by cases hj) h1 (by simp only [maxLen]; omega) h63
      exact ⟨v', w', _, by simp [execOp, resolve, invoke, builtin, ha.eval hx, ha.eval hy, Sem.run_bind, hr], hw.change hi (grown_mod hg) ho hf, k v'⟩
    obtain ⟨b, o, s⟩ := a
    have : s = none := hsp hc0 _ rfl
    subst this
    exact At.append ht hti hz hsize hby hzs hsz hx hy hi hl (fun w hw j u hj => by
      obtain ⟨b', o', e', hc⟩ := hsrc w hw j u hj
      simp only [Option.some.injEq, Addr.mk.injEq] at e'
      obtain ⟨rfl, rfl, _⟩ := e'
      exact hc) h1 h63 h64 hn k
end
theorem Bytes.cells {w : World} {A : Option Addr} {l : List UInt8} (h : Bytes w A l) : Cells w A (l.map bv) := fun j u hj => by
  rw [List.getElem?_map] at hj
  cases hq : l[j]? with
  | none => rw [hq] at hj; cases hj
  | some q =>
    rw [hq] at hj
    obtain ⟨b, o, e, hc⟩ := h j q hq
    exact ⟨b, o, e, by rw [hc]; exact hj⟩
end Go.Wk
