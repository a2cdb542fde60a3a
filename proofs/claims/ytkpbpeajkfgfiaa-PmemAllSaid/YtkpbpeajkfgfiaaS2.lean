/- The exact laws: three pairs of devices. -/
import Derived.Test.YtkpbpeajkfgfiaaS1
import Derived.Test.YtkpbpeajkfgfiaaR8
set_option linter.unusedVariables false
set_option linter.unusedSimpArgs false
namespace Go.Proofs.Ytkpbpeajkfgfiaa
open Go Go.Wk

structure Pr where
  p : Nat
  γ : Gh
  σ : Ds
  q : Nat
  δ : Rg
  ρ : Rs
abbrev tBo : TypeId := 126
def prR (x : Pr) : Res := star [Dev x.p x.γ x.σ, RDev x.q x.δ x.ρ]
def bI (B : List Pr) (k : Nat) : Option Res := match B[k]? with | some x => some (prR x) | none => none
def nilP : Value := .pointer none
def ptV (p : Nat) : Value := .pointer (some ⟨p, 0, none⟩)
def pad3 (l : List Value) : List Value := l ++ List.replicate (3 - l.length) nilP
def bC (B : List Pr) : List Value := pad3 (B.map fun x => ptV x.p) ++ pad3 (B.map fun x => ptV x.q)
def PrOk (m : Nat) (x : Pr) : Prop := Sim x.σ x.ρ ∧ x.σ.ws.length ≤ 65536 ∧ x.σ.steps ≤ m
def BOk (m : Nat) (B : List Pr) : Prop := B.length = 3 ∧ ∀ x ∈ B, PrOk m x
def bookL (b : Nat) (B : List Pr) (m : Nat) : List Res := [blk b tBo (bC B), fam (bI B), factR (BOk m B)]
def BookR (b : Nat) (B : List Pr) (m : Nat) : Res := star (bookL b B m)
theorem BookR.ok {b m : Nat} {B : List Pr} {w : World} (h : (BookR b B m).holds w) : BOk m B := h.2 (factR (BOk m B)) (by simp [bookL])
theorem bI_some {B : List Pr} {k : Nat} {x : Pr} (h : B[k]? = some x) : bI B k = some (prR x) := by unfold bI; rw [h]
theorem bI_set {B : List Pr} {k : Nat} {x' : Pr} (h : k < B.length) : upd (upd (bI B) k none) k (some (prR x')) = bI (B.set k x') := by
  funext j
  by_cases hj : j = k
  · subst hj; rw [upd_at, bI_some (List.getElem?_set_self h)]
  · rw [upd_ne _ _ hj, upd_ne _ _ hj]; unfold bI; rw [List.getElem?_set_ne (Ne.symm hj)]
theorem bI_snoc (B : List Pr) (x : Pr) : upd (bI B) B.length (some (prR x)) = bI (B ++ [x]) := by
  funext j
  by_cases hj : j = B.length
  · subst hj; rw [upd_at, bI_some (by rw [List.getElem?_append_right (Nat.le_refl _), Nat.sub_self]; rfl)]
  · rw [upd_ne _ _ hj]
    unfold bI
    rcases Nat.lt_or_ge j B.length with h | h
    · rw [List.getElem?_append_left h]
    · rw [List.getElem?_eq_none h, List.getElem?_eq_none (by rw [List.length_append, List.length_singleton]; omega)]
theorem pad3_len {l : List Value} (h : l.length ≤ 3) : (pad3 l).length = 3 := by unfold pad3; rw [List.length_append, List.length_replicate]; omega
theorem bC_len {B : List Pr} (h : B.length ≤ 3) : (bC B).length = 6 := by
  unfold bC; rw [List.length_append, pad3_len (by rw [List.length_map]; exact h), pad3_len (by rw [List.length_map]; exact h)]
theorem pad3_at {l : List Value} {k : Nat} {u : Value} (h : l[k]? = some u) : (pad3 l)[k]? = some u := by unfold pad3; rw [List.getElem?_append_left (List.getElem?_eq_some_iff.1 h).1]; exact h
theorem bC_p {B : List Pr} {k : Nat} {x : Pr} (h3 : B.length ≤ 3) (h : B[k]? = some x) : (bC B)[k]? = some (ptV x.p) := by
  have hk := (List.getElem?_eq_some_iff.1 h).1
  unfold bC
  rw [List.getElem?_append_left (by rw [pad3_len (by rw [List.length_map]; exact h3)]; omega)]
  exact pad3_at (by rw [List.getElem?_map, h]; rfl)
theorem bC_q {B : List Pr} {k : Nat} {x : Pr} (h3 : B.length ≤ 3) (h : B[k]? = some x) : (bC B)[3 + k]? = some (ptV x.q) := by
  unfold bC
  rw [List.getElem?_append_right (by rw [pad3_len (by rw [List.length_map]; exact h3)]; omega), pad3_len (by rw [List.length_map]; exact h3), show 3 + k - 3 = k by omega]
  exact pad3_at (by rw [List.getElem?_map, h]; rfl)
theorem bC_set {B : List Pr} {k : Nat} {x' : Pr} (h3 : B.length = 3) (hk : k < 3) : ((bC B).set k (ptV x'.p)).set (3 + k) (ptV x'.q) = bC (B.set k x') := by
  obtain ⟨a, b, c, rfl⟩ : ∃ a b c, B = [a, b, c] := by match B, h3 with | [a, b, c], _ => exact ⟨a, b, c, rfl⟩
  match k, hk with
  | 0, _ => rfl
  | 1, _ => rfl
  | 2, _ => rfl
theorem bC_snoc {B : List Pr} {x' : Pr} (h3 : B.length < 3) : ((bC B).set B.length (ptV x'.p)).set (3 + B.length) (ptV x'.q) = bC (B ++ [x']) := by
  match B, h3 with
  | [], _ => rfl
  | [a], _ => rfl
  | [a, b], _ => rfl
theorem bC_keep {B : List Pr} {k : Nat} {x x' : Pr} (hk : B[k]? = some x) (h1 : x'.p = x.p) (h2 : x'.q = x.q) : bC (B.set k x') = bC B := by
  have e : ∀ (f : Pr → Value), f x' = f x → (B.set k x').map f = B.map f := fun f hf => by
    rw [List.map_set, hf]
    exact set_same (by rw [List.getElem?_map, hk]; rfl)
  unfold bC
  rw [e (fun x => ptV x.p) (by simp only [h1]), e (fun x => ptV x.q) (by simp only [h2])]
theorem Rep.inFam {I : Nat → Option Res} {k : Nat} {r r' : Res} {w w' : World} {X : List Res} (hk : I k = some r) (h : (fam I).holds w) (h' : Rep w (feet [r]) (X ++ [r']) w') : Rep w (feet [fam I]) (X ++ [fam (upd (upd I k none) k (some r'))]) w' := by
  have h1 : Rep w (feet [fam I]) ([r] ++ [fam (upd I k none)]) w := (Rep.one h).focus hk
  have h2 : Rep w (feet [fam I]) ((X ++ [r']) ++ [fam (upd I k none)]) w' := h1.frame h'
  have h3 : Rep w (feet [fam I]) (r' :: fam (upd I k none) :: X) w' := h2.perm (by
    rw [List.append_assoc]
    exact List.perm_append_comm)
  have h4 := h3.unfocus (upd_at ..)
  exact h4.perm (by
    have := (List.perm_append_comm (l₁ := [fam (upd (upd I k none) k (some r'))]) (l₂ := X))
    exact this)
theorem upd_same' {I : Nat → Option Res} {k : Nat} {r : Res} (hk : I k = some r) : upd (upd I k none) k (some r) = I := by
  funext j
  by_cases hj : j = k
  · subst hj; rw [upd_at, hk]
  · rw [upd_ne _ _ hj, upd_ne _ _ hj]
theorem Rep.ofStar {a r r' : Res} {w w' : World} {X : List Res} (h : (star [a, r]).holds w) (h' : Rep w (feet [r]) (X ++ [r']) w') : Rep w (feet [star [a, r]]) (X ++ [star [a, r']]) w' := by
  have h1 : Rep w (feet [star [a, r]]) ([r] ++ [a]) w := (Rep.of_star (r := star [a, r]) h).perm (List.Perm.swap ..)
  have h2 : Rep w (feet [star [a, r]]) ((X ++ [r']) ++ [a]) w' := h1.frame h'
  have h3 : Rep w (feet [star [a, r]]) ([a, r'] ++ X) w' := h2.perm (by
    have e1 : ((X ++ [r']) ++ [a]).Perm (a :: (X ++ [r'])) := List.perm_append_comm
    exact e1.trans ((List.perm_append_comm (l₁ := X) (l₂ := [r'])).cons a))
  exact (h3.shutS).perm (List.perm_append_comm (l₁ := [star [a, r']]) (l₂ := X))
theorem pr_of {B : List Pr} {k : Nat} {x : Pr} {w : World} (h : (fam (bI B)).holds w) (hk : B[k]? = some x) : (prR x).holds w := h.1 k _ (bI_some hk)
theorem feet_pr {B : List Pr} {k : Nat} {x : Pr} (hk : B[k]? = some x) : ∀ b, feet [prR x] b → feet [fam (bI B)] b := fun b ⟨r, hr, hb⟩ => by
  rw [List.mem_singleton.1 hr] at hb
  exact ⟨fam (bI B), by simp, k, prR x, bI_some hk, hb⟩
theorem Off.sub {v : Value} {xs : List Value} {S S' : Nat → Prop} (h : Off v xs S) (hs : ∀ b, S' b → S b) : Off v xs S' := fun hne b o s n c hv hb => h hne b o s n c hv (hs b hb)
/-- A call on one pair, seen from all three. -/
theorem pair_keep {P : Program} {f : FuncId} {vs : List Value} {v : Value} {B : List Pr} {k : Nat} {x : Pr} {w : World} (hk : B[k]? = some x) (hf : (fam (bI B)).holds w) (h : Upd P f vs (prR x) v (prR x) w) : Upd P f vs (fam (bI B)) v (fam (bI B)) w := h.mono fun e w' ⟨he, hr⟩ => ⟨he, by
  have := Rep.inFam (X := []) (bI_some hk) hf hr
  rwa [upd_same' (bI_some hk)] at this⟩
def FamP (P : Program) (f : FuncId) (vs : List Value) (B : List Pr) (k : Nat) (v : Value) (I : Pr → Prop) (w : World) : Prop := Calls P f vs.toArray w fun e w' => ∃ x', e = .returned v ∧ I x' ∧ Rep w (feet [fam (bI B)]) [fam (bI (B.set k x'))] w'
theorem pair_P {P : Program} {f : FuncId} {vs : List Value} {B : List Pr} {k : Nat} {x : Pr} {w : World} (hk : B[k]? = some x) (hf : (fam (bI B)).holds w) (h : BothP P f vs x.p x.q x.γ x.δ x.σ x.ρ w) :
    FamP P f vs B k (.bool true) (fun x' => x'.p = x.p ∧ x'.q = x.q ∧ Sim x'.σ x'.ρ ∧ x'.σ.ws.length = x.σ.ws.length ∧ x'.σ.steps ≤ x.σ.steps + 65537) w := h.mono fun e w' ⟨γ', σ', δ', ρ', he, h1, h2, h3, hr⟩ =>
  ⟨⟨x.p, γ', σ', x.q, δ', ρ'⟩, he, ⟨rfl, rfl, h1, h2, h3⟩, by
    have := Rep.inFam (X := []) (r' := prR ⟨x.p, γ', σ', x.q, δ', ρ'⟩) (bI_some hk) hf hr
    rwa [bI_set (List.getElem?_eq_some_iff.1 hk).1] at this⟩
theorem At.callFP {P : Program} {Γ : Ctx} {E : Env} {H : List Res} {ops : Array Oper} {Q : Exit → Act → World → Prop} {rest : List Oper} {d : Nat} {ty : TypeId} {pos : String} {after : Array Edge} {B : List Pr} {k : Nat} {v : Value} {I : Pr → Prop} (i : Nat) {f : FuncId} {l : List Operand} {vs : List Value} {at_ : Array TypeId} (hi : H[i]? = some (fam (bI B))) (h : ∀ w, Rep Γ.w0 Γ.S H w → (fam (bI B)).holds w → FamP P f vs B k v I w) (hc : ∀ args w, (callFunc f args).run P w = .ok (.enter f args) w) (hv : evs E l = some vs) (hn : Nat.blt d Γ.n = true)
    (c : ∀ x', I x' → At Γ ((d, v) :: E) (H.set i (fam (bI (B.set k x')))) (wpList P ops Q rest)) :
    At Γ E H (wpList P ops Q ({ dst := some d, op := .call { callee := .value (.func f), args := l.toArray, argTypes := at_ }, type := ty, pos, after, guard := none } :: rest)) :=
  At.call hc hv hn fun w hw => (h w hw (hw.all _ (List.mem_of_getElem? hi))).mono fun e w' ⟨x', he, hI, hr⟩ => ⟨v, _, he, Rep.frame1 (X := []) hi hw hr, c x' hI⟩
/-- What a crash of one of the document's devices leaves. -/
theorem crash_in {P : Program} {f : FuncId} {vs : List Value} {e sz n : Nat} {xs : List Value} {B : List Pr} {k : Nat} {x : Pr} {w : World} (hk : B[k]? = some x) (hf : (fam (bI B)).holds w) (h : RowK P f vs (RDev x.q x.δ x.ρ) e sz n xs w) : RowK P f vs (fam (bI B)) e sz n xs w := h.mono fun q w' ⟨v', he, hr⟩ => ⟨v', he, by
  have h1 := Rep.ofStar (X := [rowR v' e sz n xs]) (a := Dev x.p x.γ x.σ) (pr_of hf hk) hr
  have h2 := Rep.inFam (X := [rowR v' e sz n xs]) (bI_some hk) hf h1
  rwa [show star [Dev x.p x.γ x.σ, RDev x.q x.δ x.ρ] = prR x from rfl, upd_same' (bI_some hk)] at h2⟩
theorem rd_of {B : List Pr} {k : Nat} {x : Pr} {w : World} (h : (fam (bI B)).holds w) (hk : B[k]? = some x) : (RDev x.q x.δ x.ρ).holds w := (pr_of h hk).2 (RDev x.q x.δ x.ρ) (by simp)
theorem dv_of {B : List Pr} {k : Nat} {x : Pr} {w : World} (h : (fam (bI B)).holds w) (hk : B[k]? = some x) : (Dev x.p x.γ x.σ).holds w := (pr_of h hk).2 (Dev x.p x.γ x.σ) (by simp)
theorem feet_rd {B : List Pr} {k : Nat} {x : Pr} (hk : B[k]? = some x) : ∀ b, feet [RDev x.q x.δ x.ρ] b → feet [fam (bI B)] b := fun b ⟨r, hr, hb⟩ => by
  rw [List.mem_singleton.1 hr] at hb
  exact ⟨fam (bI B), by simp, k, prR x, bI_some hk, RDev x.q x.δ x.ρ, by simp, hb⟩
section
variable {Γ : Ctx} {E : Env} {H F : List Res} {φ : Act → World → Prop} {w w' : World} {S : Nat → Prop}
theorem At.swapF {B : List Pr} {k : Nat} {x x' : Pr} (hk : B[k]? = some x) (c : At Γ E (fam (bI (B.set k x')) :: H) φ) : At Γ E (Dev x'.p x'.γ x'.σ :: RDev x'.q x'.δ x'.ρ :: fam (bI B) :: H) φ := fun a w ha hw => by
  have h0 : Rep Γ.w0 Γ.S (prR x' :: fam (bI B) :: H) w := Rep.shutS (L := [Dev x'.p x'.γ x'.σ, RDev x'.q x'.δ x'.ρ]) hw
  have h1 : Rep Γ.w0 Γ.S (fam (bI B) :: prR x' :: H) w := h0.perm (List.Perm.swap ..)
  have h2 := h1.focus (bI_some hk)
  have h3 : Rep Γ.w0 Γ.S (prR x' :: fam (upd (bI B) k none) :: H) w := (h2.drop ((List.Sublist.refl _).cons _)).perm (List.Perm.swap ..)
  have h4 := h3.unfocus (upd_at ..)
  rw [bI_set (List.getElem?_eq_some_iff.1 hk).1] at h4
  exact c a w ha h4
theorem At.addF {B : List Pr} {x' : Pr} (c : At Γ E (fam (bI (B ++ [x'])) :: H) φ) : At Γ E (Dev x'.p x'.γ x'.σ :: RDev x'.q x'.δ x'.ρ :: fam (bI B) :: H) φ := fun a w ha hw => by
  have h0 : Rep Γ.w0 Γ.S (prR x' :: fam (bI B) :: H) w := Rep.shutS (L := [Dev x'.p x'.γ x'.σ, RDev x'.q x'.δ x'.ρ]) hw
  have h4 := h0.unfocus (k := B.length) (by unfold bI; rw [List.getElem?_eq_none (Nat.le_refl _)])
  rw [bI_snoc] at h4
  exact c a w ha h4
theorem At.famBnil (k : At Γ E (fam (bI []) :: H) φ) : At Γ E H φ := fun a w ha hw => k a w ha (hw.famNil (fun k => by unfold bI; rfl))
theorem toBook {b m : Nat} {B : List Pr} (hok : BOk m B) (hw : Rep w S (blk b tBo (bC B) :: fam (bI B) :: F) w') : Rep w S [BookR b B m] w' := by
  have h1 : Rep w S (factR (BOk m B) :: blk b tBo (bC B) :: fam (bI B) :: F) w' := Rep.fact hok hw
  have h2 : Rep w S (bookL b B m ++ F) w' := h1.perm (List.perm_middle (l₁ := [_, _]) (a := factR (BOk m B)) (l₂ := F)).symm
  exact (h2.shutS).drop ((List.nil_sublist F).cons_cons _)
end
theorem bok_set {m m' k : Nat} {B : List Pr} {x' : Pr} (h : BOk m B) (hm : m ≤ m') (hx : PrOk m' x') : BOk m' (B.set k x') := by
  refine ⟨by rw [List.length_set]; exact h.1, fun y hy => ?_⟩
  rcases List.mem_or_eq_of_mem_set hy with h1 | h1
  · obtain ⟨g1, g2, g3⟩ := h.2 y h1
    exact ⟨g1, g2, Nat.le_trans g3 hm⟩
  · rw [h1]; exact hx
theorem bok_more {m m' : Nat} {B : List Pr} (h : BOk m B) (hm : m ≤ m') : BOk m' B := ⟨h.1, fun y hy => by obtain ⟨g1, g2, g3⟩ := h.2 y hy; exact ⟨g1, g2, Nat.le_trans g3 hm⟩⟩
def BookP (P : Program) (f : FuncId) (vs : List Value) (b : Nat) (B : List Pr) (m : Nat) (w : World) : Prop := Calls P f vs.toArray w fun e w' => ∃ B', e = .returned (.bool true) ∧ Rep w (feet [BookR b B m]) [BookR b B' (m + 65537)] w'
theorem At.callBP {P : Program} {Γ : Ctx} {E : Env} {H : List Res} {ops : Array Oper} {Q : Exit → Act → World → Prop} {rest : List Oper} {d : Nat} {ty : TypeId} {pos : String} {after : Array Edge} {b m : Nat} {B : List Pr} (i : Nat) {f : FuncId} {l : List Operand} {vs : List Value} {at_ : Array TypeId} (hi : H[i]? = some (BookR b B m)) (h : ∀ w, Rep Γ.w0 Γ.S H w → (BookR b B m).holds w → BookP P f vs b B m w) (hc : ∀ args w, (callFunc f args).run P w = .ok (.enter f args) w) (hv : evs E l = some vs) (hn : Nat.blt d Γ.n = true)
    (c : ∀ B', At Γ ((d, .bool true) :: E) (H.set i (BookR b B' (m + 65537))) (wpList P ops Q rest)) :
    At Γ E H (wpList P ops Q ({ dst := some d, op := .call { callee := .value (.func f), args := l.toArray, argTypes := at_ }, type := ty, pos, after, guard := none } :: rest)) :=
  At.call hc hv hn fun w hw => (h w hw (hw.all _ (List.mem_of_getElem? hi))).mono fun e w' ⟨B', he, hr⟩ => ⟨_, _, he, Rep.frame1 (X := []) hi hw hr, c B'⟩
def NewBook (P : Program) (f : FuncId) (w : World) : Prop := Calls P f ([] : List Value).toArray w fun e w' => ∃ b B, e = .returned (.tuple #[.pointer (some ⟨b, 0, none⟩), .bool true]) ∧ Rep w (feet []) [BookR b B 0] w'
theorem At.callNBk {P : Program} {Γ : Ctx} {E : Env} {H : List Res} {ops : Array Oper} {Q : Exit → Act → World → Prop} {rest : List Oper} {d : Nat} {ty : TypeId} {pos : String} {after : Array Edge} {f : FuncId} {at_ : Array TypeId} (h : ∀ w, Rep Γ.w0 Γ.S H w → NewBook P f w) (hc : ∀ args w, (callFunc f args).run P w = .ok (.enter f args) w) (hn : Nat.blt d Γ.n = true)
    (c : ∀ b B, At Γ ((d, .tuple #[.pointer (some ⟨b, 0, none⟩), .bool true]) :: E) (BookR b B 0 :: H) (wpList P ops Q rest)) :
    At Γ E H (wpList P ops Q ({ dst := some d, op := .call { callee := .value (.func f), args := #[], argTypes := at_ }, type := ty, pos, after, guard := none } :: rest)) :=
  At.call (l := []) hc rfl hn fun w hw => (h w hw).mono fun e w' ⟨b, B, he, hr⟩ => ⟨_, _, he, by
    have := Rep.frame (H0 := []) (F := H) (by simpa using hw) hr
    simpa using this, c b B⟩

theorem place3_p (z : Int) (w : World) :
    PureC Try.prog 76 [.int .i64 z] (.int .i64 ((wordI z 3 : Nat) : Int)) w := by
 refine enter0 Try.func76 rfl Try.ntmps76 rfl ?_
 have h1 := Int.lt_tmod_of_pos z (b := 3) (by decide)
 have h2 := Int.tmod_lt_of_pos z (b := 3) (by decide)
 have hv : ((wordI z 3 : Nat) : Int) = if z.tmod 3 < 0 then z.tmod 3 + 3 else z.tmod 3 := wordI_val z (N := 3) (by decide)
 simp only [envOf]
 refine tR ?_
 refine tA rfl rfl ?_
 refine tE ?_
 refine tR ?_
 refine tM rfl rfl ?_
 refine At.val (Val.rem rfl rfl (by decide)) rfl rfl rfl ?_
 refine tA rfl rfl ?_
 refine tE ?_
 refine At.seq ?_
 refine tR ?_
 refine tM rfl rfl ?_
 refine At.val (Val.bin rfl rfl rfl) rfl rfl rfl ?_
 refine tE ?_
 refine At.cond rfl (fun h1 => ?_) (fun h1 => ?_)
 ·skip
  try simp only [hasB, isSizeB, Bool.not_eq_true', Bool.not_eq_false', bne_iff_ne, ne_eq, bne_eq_false_iff_eq, beq_iff_eq, beq_eq_false_iff_ne, decide_eq_true_eq, decide_eq_false_iff_not, gt_iff_lt, ge_iff_le] at h1
  rw [if_pos h1] at hv
  refine At.region ?_
  refine tM rfl rfl ?_
  first | refine At.val (Val.addI rfl rfl (by omega) (by omega)) rfl rfl rfl ?_ | refine At.val (Val.bin rfl rfl rfl) rfl rfl rfl ?_
  refine tA rfl rfl ?_
  refine tE ?_
  refine tR ?_
  refine tM rfl rfl ?_
  refine tA rfl rfl ?_
  refine tE ?_
  refine At.retC ?_
  refine At.ret1 (.inl rfl) rfl rfl rfl (fun w hw => ?_)
  exact ⟨congrArg (fun z => Ending.returned (Value.int .i64 z)) (by omega), hw.mod⟩
 ·skip
  try simp only [hasB, isSizeB, Bool.not_eq_true', Bool.not_eq_false', bne_iff_ne, ne_eq, bne_eq_false_iff_eq, beq_iff_eq, beq_eq_false_iff_ne, decide_eq_true_eq, decide_eq_false_iff_not, gt_iff_lt, ge_iff_le] at h1
  rw [if_neg h1] at hv
  refine At.skipC ?_
  refine At.thenN ?_
  refine tR ?_
  refine tM rfl rfl ?_
  refine tA rfl rfl ?_
  refine tE ?_
  refine At.retC ?_
  refine At.ret1 (.inl rfl) rfl rfl rfl (fun w hw => ?_)
  exact ⟨congrArg (fun z => Ending.returned (Value.int .i64 z)) (by omega), hw.mod⟩

theorem load_no (v : Value) (l : List UInt8) (w : World) (hv : RdB w v l) (hn : isSizeB (l.length : Int) = false) :
    PureC Try.prog 63 [v] (.tuple #[.pointer none, .int .i64 10]) w := by
 refine enter0 Try.func63 rfl Try.ntmps63 rfl ?_
 simp only [envOf]
 refine tR ?_
 refine tA rfl rfl ?_
 refine tA rfl rfl ?_
 refine tE ?_
 refine tR ?_
 refine tM rfl rfl ?_
 refine At.val (Val.lenRd hv Try.underlying33 rfl) rfl rfl rfl ?_
 refine At.callP (fun w hw => new_no _ w hn) Try.call54 rfl rfl ?_
 refine tM rfl rfl ?_
 refine At.val (Val.extract rfl rfl) rfl rfl rfl ?_
 refine At.val (Val.extract rfl rfl) rfl rfl rfl ?_
 refine tA rfl rfl ?_
 refine tA rfl rfl ?_
 refine tE ?_
 refine At.seq ?_
 refine tR ?_
 refine tM rfl rfl ?_
 refine At.val (Val.bin rfl rfl rfl) rfl rfl rfl ?_
 refine tE ?_
 refine At.condT rfl ?_
 refine tR ?_
 refine tM rfl rfl ?_
 refine tA rfl rfl ?_
 refine tA rfl rfl ?_
 refine tE ?_
 refine At.retC ?_
 refine At.thenR ?_
 refine At.ret2 (.inl rfl) rfl rfl rfl rfl (fun w hw => ?_)
 exact ⟨rfl, hw.mod⟩

theorem rload_no (v : Value) (l : List UInt8) (w : World) (hv : RdB w v l) (hn : isSizeB (l.length : Int) = false) :
    PureC Try.prog 84 [v] (.tuple #[.pointer none, .int .i64 10]) w := by
 refine enter0 Try.func84 rfl Try.ntmps84 rfl ?_
 simp only [envOf]
 refine tR ?_
 refine tA rfl rfl ?_
 refine tA rfl rfl ?_
 refine tE ?_
 refine tR ?_
 refine tM rfl rfl ?_
 refine At.val (Val.lenRd hv Try.underlying33 rfl) rfl rfl rfl ?_
 refine At.callP (fun w hw => rnew_no _ w hn) Try.call75 rfl rfl ?_
 refine tM rfl rfl ?_
 refine At.val (Val.extract rfl rfl) rfl rfl rfl ?_
 refine At.val (Val.extract rfl rfl) rfl rfl rfl ?_
 refine tA rfl rfl ?_
 refine tA rfl rfl ?_
 refine tE ?_
 refine At.seq ?_
 refine tR ?_
 refine tM rfl rfl ?_
 refine At.val (Val.bin rfl rfl rfl) rfl rfl rfl ?_
 refine tE ?_
 refine At.condT rfl ?_
 refine tR ?_
 refine tM rfl rfl ?_
 refine tA rfl rfl ?_
 refine tA rfl rfl ?_
 refine tE ?_
 refine At.retC ?_
 refine At.thenR ?_
 refine At.ret2 (.inl rfl) rfl rfl rfl rfl (fun w hw => ?_)
 exact ⟨rfl, hw.mod⟩

end Go.Proofs.Ytkpbpeajkfgfiaa
