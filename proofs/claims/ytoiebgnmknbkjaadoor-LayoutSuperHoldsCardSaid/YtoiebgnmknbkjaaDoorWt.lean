/- The calculus: a region that draws its order, one operation of which gives up whenever it comes up. -/
import Derived.Test.YtoiebgnmknbkjaaDoorWx
set_option linter.unusedVariables false
set_option linter.unusedSimpArgs false
namespace Go
section
variable {P : Program} {ops : Array Oper} {md : Region.Mode} {C : World → Prop} {c : List PanicEntry}
def Thr (P : Program) (C : World → Prop) (c : List PanicEntry) (s : Sem Next) : Prop := ∀ w, C w → ∃ f args, s.run P w = .ok (.enter f args) w ∧ Calls P f args w fun e w' => e = .panicked c ∧ C w'
def thrG (P : Program) (C : World → Prop) (c : List PanicEntry) (t : Nat) (i : Nat) (s : Sem Next) (v : Value) : Prop :=
  if i = t then Thr P C c s else (∀ w, C w → Oper.quietUpon P C w v (s.run P w)) ∨ Thr P C c s
theorem wpAny_of_thr {I : Act → Prop} {t n g : Nat} {ot : Oper} {L : Array Bool → Act → Prop} {Q : Exit → Act → World → Prop} (htt : ops[t]? = some ot) (hgt : ot.guard = none)
    (hI : ∀ (i : Nat) o a v, ops[i]? = some o → I a → I (a.put o.dst v)) (hQ : ∀ a w, I a → C w → Q (.panic c) a w)
    (hL : ∀ listed a, L listed a → listed.getD t true = false → False) :
    ∀ (f : Nat) (listed : Array Bool) (a : Act) (w : World), I a → C w → listed.getD t true = false →
    wpAnyG md ops (thrG P C c t) n L f listed a → wpAny P md ops Q (f + g) listed a w
  | 0, listed, a, w, ha, hw, ht, h => (hL _ _ h ht).elim
  | f + 1, listed, a, w, ha, hw, ht, h => by
    rw [show f + 1 + g = (f + g) + 1 by omega]
    refine ⟨fun h0 => absurd h0 h.1, fun i hi => ?_⟩
    have hq := (h.2 i hi).2
    obtain ⟨hun, oi, hoi, _⟩ := mem_ready.1 hi
    unfold gOp at hq
    unfold wpOp
    simp only [hoi] at hq ⊢
    obtain ⟨v, hy, hK⟩ := hq
    have thr : Region.wanted oi (yielded ops a.tmps) = true → Thr P C c (execOp a.eval oi) → (if Region.wanted oi (yielded ops a.tmps) = true then oi.wp P a w (wpAny P md ops Q (f + g) (listed.setIfInBounds i true)) Q ∨ (oi.asks P a w ∧ LetsOut Q) else wpAny P md ops Q (f + g) (listed.setIfInBounds i true) (a.put oi.dst undef) w) := fun hwt hth => by
      obtain ⟨f', args, hr, hc⟩ := hth w hw
      rw [if_pos hwt]
      refine .inl ?_
      simp only [Oper.wp, hr, Oper.upon]
      refine hc.mono ?_
      rintro e w' ⟨rfl, hw'⟩
      exact hQ _ _ ha hw'
    by_cases hit : i = t
    · subst hit
      have : oi = ot := Option.some.inj (hoi.symm.trans htt)
      subst this
      have hwt : Region.wanted oi (yielded ops a.tmps) = true := by simp [Region.wanted, hgt]
      rcases hy with ⟨_, hy⟩ | ⟨hy, _⟩
      · simp only [thrG, if_true] at hy
        exact thr hwt hy
      · rw [hwt] at hy; cases hy
    · have hne : (listed.setIfInBounds i true).getD t true = false := by rw [getD_set_ne true hit]; exact ht
      rcases hy with ⟨hwt, hy⟩ | ⟨hwt, rfl⟩
      · simp only [thrG, if_neg hit] at hy
        rcases hy with hy | hy
        · rw [if_pos hwt]
          refine .inl ?_
          have h3 := hy w hw
          unfold Oper.wp
          generalize (execOp a.eval oi).run P w = r at *
          cases r with
          | ok nx w' =>
            cases nx <;> simp only [Oper.quietUpon] at h3 <;> simp only [Oper.upon]
            case value u =>
              obtain ⟨e1, e2⟩ := h3
              rw [e1, e2]
              exact wpAny_of_thr htt hgt hI hQ hL f _ _ w (hI i oi a v hoi ha) hw hne hK
            case skip =>
              obtain ⟨e1, e2⟩ := h3
              rw [e1, ← e2]
              exact wpAny_of_thr htt hgt hI hQ hL f _ _ w (hI i oi a v hoi ha) hw hne hK
            case enter f' args =>
              obtain ⟨e1, hc⟩ := h3
              rw [e1]
              exact hc.mono fun e w'' ⟨he, hw''⟩ => by subst he; exact wpAny_of_thr htt hgt hI hQ hL f _ _ w'' (hI i oi a v hoi ha) hw'' hne hK
          | halt x w' => simp only [Oper.quietUpon] at h3
        · exact thr hwt hy
      · rw [if_neg (by rw [hwt]; simp)]
        exact wpAny_of_thr htt hgt hI hQ hL f _ _ w (hI i oi a undef hoi ha) hw hne hK
theorem wp_region_thr {id : Nat} {Q : Exit → Act → World → Prop} {a : Act} {w : World} {l : List Oper} {I : Act → Prop} {ot : Oper} (n t : Nat) (hm : P.follows .mixedOrders = true) (hB : Region.lexTailB .any l.toArray n = true) (htn : t < n)
    (ho : l[t]? = some ot) (hg : ot.guard = none) (hI : ∀ (i : Nat) o a v, l[i]? = some o → I a → I (a.put o.dst v)) (hQ : ∀ a w, I a → C w → Q (.panic c) a w) (ha : I a) (hC : C { w with drawn := w.drawn + 1 })
    (h : wpG l.toArray (thrG P C c t) (fun _ => True) 0 (l.take n) a) : (Code.region id l.toArray true).wp P Q a w := by
  simp only [Region.lexTailB, Bool.and_eq_true, decide_eq_true_eq] at hB
  obtain ⟨⟨⟨⟨hsel, hn⟩, hs⟩, hc⟩, hlex⟩ := hB
  have hn' : n < l.length := by simpa using hn
  have htl : (l.take n).length = n := by simp; omega
  have inv0 : HeadInv .any l.toArray n (Array.replicate l.toArray.size false) :=
    ⟨by simp, fun j oj _ hl => (by rw [getD_replicate_false] at hl; cases hl), fun t _ ht => getD_in (by simpa using ht) (getD_replicate_false _ _)⟩
  have H := wpAnyG_lex (md := .any) (g := l.toArray.size - n) hsel hs hc hn (l.take n) 0 _ a (fun j hj => by
    have hj' : j < n := by rw [htl] at hj; exact hj
    simp [hj']) (by simpa using htl) inv0 (by rw [htl]; exact hlex) h
  refine wp_region_any hm ?_
  have := wpAny_of_thr (Q := Q) (g := l.toArray.size - n) (t := t) (ot := ot) (I := I) (by simpa using ho) hg (fun i o a v hi => hI i o a v (by simpa using hi)) hQ (fun listed a' hL hb => by
    have hsq := hL.2.1
    obtain ⟨g, hg⟩ : ∃ g, l.toArray.size - n = g + 1 := ⟨l.toArray.size - n - 1, by omega⟩
    rw [hg] at hsq
    simp only [Region.seqB, Bool.and_eq_true, decide_eq_true_eq] at hsq
    exact absurd (by rw [hsq.1]; simp) (tail_waits hs hc hn hL.1 _ t rfl htn hb n (Nat.le_refl n))) _ _ a { w with drawn := w.drawn + 1 } ha hC (getD_in (by simp; omega) (getD_replicate_false _ _)) H
  rw [htl, show n + (l.toArray.size - n) = l.toArray.size by omega] at this
  exact this
end
namespace Wk
section
variable {P : Program} {Γ : Ctx} {E E' : Env} {H : List Res} {ops : Array Oper} {Q : Exit → Act → World → Prop} {rest : List Oper} {o : Oper} {c : List PanicEntry}
  {d : Nat} {ty : TypeId} {pos : String} {after : Array Edge} {v u : Value} {t j : Nat}
theorem Agrees.other {n D E} {a : Act} (h : Agrees n D E a) {d : Nat} (v : Value) (hd : look E d = none) : Agrees n D E (a.put (some d) v) := by
  refine ⟨by simp [Act.put, h.size], h.defers, fun s u hs => ?_⟩
  have hne : d ≠ s := fun e => by subst e; rw [hd] at hs; cases hs
  simp only [Act.put]
  rw [Array.getElem?_setIfInBounds_ne hne]
  exact h.get s u hs
def TAt (P : Program) (Γ : Ctx) (ops : Array Oper) (H : List Res) (c : List PanicEntry) (t k : Nat) (E : Env) (l : List Oper) : Prop := ∀ a, Agrees Γ.n Γ.D E a → wpG ops (thrG P (Rep Γ.w0 Γ.S H) c t) (fun _ => True) k l a
theorem At.throwR {id : Nat} {l : List Oper} (n t : Nat) (E' : Env) (hE : Sub E E') (hfree : (l.all fun o => match o.dst with | some d => (look E' d).isNone | none => true) = true) (hm : P.follows .mixedOrders = true) (hB : Region.lexTailB .any l.toArray n = true) (htn : t < n) (ho : l[t]? = some o) (hg : o.guard = none)
    (kp : At Γ E' H (Q (.panic c))) (k : TAt P Γ l.toArray H c t 0 E (l.take n)) : At Γ E H ((Code.region id l.toArray true).wp P Q) := fun a w ha hw =>
  wp_region_thr (I := Agrees Γ.n Γ.D E') (C := Rep Γ.w0 Γ.S H) n t hm hB htn ho hg (fun i o a v hi ha => by
    have h1 := List.all_eq_true.1 hfree o (List.mem_of_getElem? hi)
    cases hd : o.dst with
    | none => exact ha
    | some d => rw [hd] at h1; exact ha.other v (Option.isNone_iff_eq_none.1 h1)) (fun a w ha hw => kp a w ha hw) (ha.weaken hE) hw.drew (k a ha)
theorem TAt.fin : TAt P Γ ops H c t j E [] := fun a ha => trivial
theorem TAt.val (h : Val P Γ E H o v) (hg : o.guard = none) (hd : o.dst = some d) (hn : Nat.blt d Γ.n = true) (hj : Nat.beq j t = false) (k : TAt P Γ ops H c t (j + 1) ((d, v) :: E) rest) : TAt P Γ ops H c t j E (o :: rest) := fun a ha => by
  have hne : ¬ j = t := fun e => by subst e; rw [Nat.beq_refl] at hj; cases hj
  refine ⟨v, .inl ⟨by simp [Region.wanted, hg], ?_⟩, ?_⟩
  · simp only [thrG, if_neg hne]
    refine .inl fun w hw => ?_
    rw [h a w ha hw]
    exact ⟨rfl, rfl⟩
  · rw [hd]; exact k _ (ha.put d v hn)
theorem TAt.callP {f : FuncId} {l : List Operand} {vs : List Value} {at_ : Array TypeId} (h : ∀ w, Rep Γ.w0 Γ.S H w → PureC P f vs v w) (hc : ∀ args w, (callFunc f args).run P w = .ok (.enter f args) w) (hv : evs E l = some vs) (hn : Nat.blt d Γ.n = true) (hj : Nat.beq j t = false)
    (k : TAt P Γ ops H c t (j + 1) ((d, v) :: E) rest) : TAt P Γ ops H c t j E ({ dst := some d, op := .call { callee := .value (.func f), args := l.toArray, argTypes := at_ }, type := ty, pos, after, guard := none } :: rest) := fun a ha => by
  have hne : ¬ j = t := fun e => by subst e; rw [Nat.beq_refl] at hj; cases hj
  refine ⟨v, .inl ⟨by simp [Region.wanted], ?_⟩, k _ (ha.put d v hn)⟩
  simp only [thrG, if_neg hne]
  refine .inl fun w hw => ?_
  rw [run_call ha hc hv w]
  exact ⟨rfl, (h w hw).mono fun e w' ⟨he, hm⟩ => ⟨he, hw.garbage hm⟩⟩
theorem TAt.callT (v : Value) {f : FuncId} {l : List Operand} {vs : List Value} {at_ : Array TypeId} (h : ∀ w, Rep Γ.w0 Γ.S H w → Throws0 P f vs c w) (hc : ∀ args w, (callFunc f args).run P w = .ok (.enter f args) w) (hv : evs E l = some vs) (hn : Nat.blt d Γ.n = true)
    (k : TAt P Γ ops H c t (j + 1) ((d, v) :: E) rest) : TAt P Γ ops H c t j E ({ dst := some d, op := .call { callee := .value (.func f), args := l.toArray, argTypes := at_ }, type := ty, pos, after, guard := none } :: rest) := fun a ha => by
  have hth : Thr P (Rep Γ.w0 Γ.S H) c (execOp a.eval { dst := some d, op := .call { callee := .value (.func f), args := l.toArray, argTypes := at_ }, type := ty, pos, after, guard := none }) := fun w hw =>
    ⟨f, vs.toArray, run_call ha hc hv w, (h w hw).mono fun e w' ⟨he, hm⟩ => ⟨he, hw.garbage hm⟩⟩
  refine ⟨v, .inl ⟨by simp [Region.wanted], ?_⟩, k _ (ha.put d v hn)⟩
  unfold thrG
  split
  · exact hth
  · exact .inr hth
end
end Wk
end Go
