/- The device: what it holds, word by word; its memory as a star; the rules of its parts. -/
import Derived.Test.YtgighokkflchmaaDb
set_option linter.unusedVariables false
set_option linter.unusedSimpArgs false
namespace Go.Wk
open Go Go.ChangeMaps
/-- A word: its durable value, the values since, how many of them the next fence makes durable. -/
structure Wd where
  old : BitVec 64
  news : List (BitVec 64)
  mark : Nat
structure Ds where
  ws : List Wd
  steps : Nat
  armed : Bool
  left : Nat
/-- Where its parts lie: the old values' slice, the map's block, each doubt's block and slice. -/
structure Gh where
  vo : Value
  mb : Nat
  g : Nat → Nat × Value
abbrev tDv : TypeId := 71
abbrev tDb : TypeId := 68
abbrev tW : TypeId := 32
def olds (ws : List Wd) : List (BitVec 64) := ws.map (·.old)
def dR (p : Nat × Value) (w : Wd) : Res := star [blk p.1 tDb [p.2, .int .i64 (w.mark : Int)], winR p.2 tW (w.news.map b64)]
def dI (ws : List Wd) (g : Nat → Nat × Value) (k : Nat) : Option Res := match ws[k]? with | some w => (match w.news with | [] => none | _ => some (dR (g k) w)) | none => none
def mkN (ws : List Wd) (g : Nat → Nat × Value) (k : Nat) : Option Value := match ws[k]? with | some w => (match w.news with | [] => none | _ => some (.pointer (some ⟨(g k).1, 0, none⟩))) | none => none
def mk (ws : List Wd) (g : Nat → Nat × Value) (x : Int) : Option Value := if 0 ≤ x ∧ x % 8 = 0 then mkN ws g (x / 8).toNat else none
structure Dgood (σ : Ds) : Prop where
  pos : 0 < σ.ws.length
  len : σ.ws.length ≤ 65536
  lines : σ.ws.length % 8 = 0
  steps : σ.steps ≤ 1099511627776
  left : σ.left ≤ 9223372036854775807
  word : ∀ w ∈ σ.ws, w.mark ≤ w.news.length ∧ w.news.length ≤ σ.steps
def devL (p : Nat) (γ : Gh) (σ : Ds) : List Res :=
  [blk p tDv [γ.vo, .map (some γ.mb), .int .i64 (σ.steps : Int), .bool σ.armed, .int .i64 (σ.left : Int)], wrow tW γ.vo (olds σ.ws), mapR γ.mb (mk σ.ws γ.g), fam (dI σ.ws γ.g), factR (Dgood σ)]
def Dev (p : Nat) (γ : Gh) (σ : Ds) : Res := star (devL p γ σ)
theorem Dev.good {p γ σ} {w : World} (h : (Dev p γ σ).holds w) : Dgood σ := h.2 (factR (Dgood σ)) (by simp [devL])
theorem olds_length (ws : List Wd) : (olds ws).length = ws.length := by simp [olds]
theorem olds_at {ws : List Wd} {k : Nat} {wd : Wd} (h : ws[k]? = some wd) : (olds ws)[k]? = some wd.old := by simp [olds, h]
theorem olds_set (ws : List Wd) (k : Nat) (wd : Wd) : olds (ws.set k wd) = (olds ws).set k wd.old := by simp [olds, List.map_set]
theorem olds_same {ws : List Wd} {k : Nat} {wd wd' : Wd} (h : ws[k]? = some wd) (he : wd'.old = wd.old) : olds (ws.set k wd') = olds ws := by
  rw [olds_set, he]
  apply List.ext_getElem?
  intro j
  rw [List.getElem?_set]
  split
  · rename_i e; subst e
    have := olds_at h
    rw [this]; simp [(List.getElem?_eq_some_iff.1 this).1]
  · rfl
theorem dI_some {ws : List Wd} {g : Nat → Nat × Value} {k : Nat} {wd : Wd} (hk : ws[k]? = some wd) (hn : wd.news ≠ []) : dI ws g k = some (dR (g k) wd) := by
  unfold dI; rw [hk]; cases h : wd.news with
  | nil => exact absurd h hn
  | cons a l => simp only [h]
theorem dI_none {ws : List Wd} {g : Nat → Nat × Value} {k : Nat} {wd : Wd} (hk : ws[k]? = some wd) (hn : wd.news = []) : dI ws g k = none := by
  unfold dI; rw [hk]; simp only [hn]
theorem dI_ne {ws : List Wd} {g g' : Nat → Nat × Value} {k j : Nat} {wd : Wd} (hj : j ≠ k) (hg : g' j = g j) : dI (ws.set k wd) g' j = dI ws g j := by
  unfold dI; rw [List.getElem?_set_ne (Ne.symm hj), hg]
theorem mkN_some {ws : List Wd} {g : Nat → Nat × Value} {k : Nat} {wd : Wd} (hk : ws[k]? = some wd) (hn : wd.news ≠ []) : mkN ws g k = some (.pointer (some ⟨(g k).1, 0, none⟩)) := by
  unfold mkN; rw [hk]; cases h : wd.news with
  | nil => exact absurd h hn
  | cons a l => simp only [h]
theorem mkN_none {ws : List Wd} {g : Nat → Nat × Value} {k : Nat} {wd : Wd} (hk : ws[k]? = some wd) (hn : wd.news = []) : mkN ws g k = none := by
  unfold mkN; rw [hk]; simp only [hn]
theorem mkN_ne {ws : List Wd} {g g' : Nat → Nat × Value} {k j : Nat} {wd : Wd} (hj : j ≠ k) (hg : g' j = g j) : mkN (ws.set k wd) g' j = mkN ws g j := by
  unfold mkN; rw [List.getElem?_set_ne (Ne.symm hj), hg]
theorem mk_at (ws : List Wd) (g : Nat → Nat × Value) (k : Nat) : mk ws g (8 * (k : Int)) = mkN ws g k := by
  unfold mk; rw [if_pos (by omega)]; congr 1; omega
theorem mk_inv {ws : List Wd} {g : Nat → Nat × Value} {x : Int} {v : Value} (h : mk ws g x = some v) : ∃ (k : Nat) (wd : Wd), x = 8 * (k : Int) ∧ ws[k]? = some wd ∧ wd.news ≠ [] ∧ v = .pointer (some ⟨(g k).1, 0, none⟩) := by
  unfold mk at h
  split at h
  · rename_i hx
    refine ⟨(x / 8).toNat, ?_⟩
    unfold mkN at h
    split at h
    · rename_i wd hwd
      split at h
      · cases h
      · rename_i hn
        exact ⟨wd, by omega, hwd, fun e => hn e, (Option.some.inj h).symm⟩
    · cases h
  · cases h
theorem mk_set {ws : List Wd} {g g' : Nat → Nat × Value} {k : Nat} {wd : Wd} (hg : ∀ j, j ≠ k → g' j = g j) : mk (ws.set k wd) g' = fun q => if q = 8 * (k : Int) then mkN (ws.set k wd) g' k else mk ws g q := by
  funext q
  by_cases hq : q = 8 * (k : Int)
  · subst hq; rw [if_pos rfl, mk_at]
  · rw [if_neg hq]
    unfold mk
    split
    · rename_i hx
      have hne : (q / 8).toNat ≠ k := fun e => hq (by omega)
      exact mkN_ne hne (hg _ hne)
    · rfl
theorem set_self? {ws : List Wd} {k : Nat} {wd : Wd} (h : k < ws.length) : (ws.set k wd)[k]? = some wd := by simp [h]
theorem mk_push {ws : List Wd} {g : Nat → Nat × Value} {k b : Nat} {v' : Value} {wd : Wd} (h : k < ws.length) (hn : wd.news ≠ []) : mk (ws.set k wd) (upd g k (b, v')) = fun q => if q = 8 * (k : Int) then some (.pointer (some ⟨b, 0, none⟩)) else mk ws g q := by
  rw [mk_set (g := g) (fun j hj => upd_ne g _ hj), mkN_some (set_self? h) hn, upd_at]
theorem mk_keep {ws : List Wd} {g : Nat → Nat × Value} {k : Nat} {v' : Value} {wd wd' : Wd} (h : ws[k]? = some wd) (hn : wd.news ≠ []) (hn' : wd'.news ≠ []) : mk (ws.set k wd') (upd g k ((g k).1, v')) = mk ws g := by
  rw [mk_push (List.getElem?_eq_some_iff.1 h).1 hn']
  funext q
  split
  · rename_i e; subst e; rw [mk_at, mkN_some h hn]
  · rfl
theorem mk_drop {ws : List Wd} {g : Nat → Nat × Value} {k : Nat} {wd : Wd} (h : k < ws.length) (hn : wd.news = []) : mk (ws.set k wd) g = fun q => if q = 8 * (k : Int) then none else mk ws g q := by
  rw [mk_set (g := g) (fun j hj => rfl), mkN_none (set_self? h) hn]
theorem fam_unf {ws : List Wd} {g : Nat → Nat × Value} {k b : Nat} {v' : Value} {wd : Wd} (h : k < ws.length) (hn : wd.news ≠ []) : upd (upd (dI ws g) k none) k (some (dR (b, v') wd)) = dI (ws.set k wd) (upd g k (b, v')) := by
  funext j
  by_cases hj : j = k
  · subst hj; rw [upd_at, dI_some (set_self? h) hn, upd_at]
  · rw [upd_ne _ _ hj, upd_ne _ _ hj, dI_ne hj (upd_ne g _ hj)]
theorem fam_drop {ws : List Wd} {g : Nat → Nat × Value} {k : Nat} {wd : Wd} (h : k < ws.length) (hn : wd.news = []) : upd (dI ws g) k none = dI (ws.set k wd) g := by
  funext j
  by_cases hj : j = k
  · subst hj; rw [upd_at, dI_none (set_self? h) hn]
  · rw [upd_ne _ _ hj, dI_ne hj rfl]
theorem upd_same {α : Type} (g : Nat → α) (k : Nat) : upd g k (g k) = g := by
  funext j; unfold upd; split
  · rename_i e; rw [e]
  · rfl
section
variable {P : Program} {Γ : Ctx} {E : Env} {H L F : List Res} {ops : Array Oper} {Q : Exit → Act → World → Prop} {rest : List Oper} {w0 w w' : World} {S : Nat → Prop} {φ : Act → World → Prop} {ψ : Act → Prop}
  {d : Nat} {dst : Option Tmp} {gd : Option (Nat × Bool)} {ty : TypeId} {pos : String} {after : Array Edge} {x y z : Operand} {v u : Value} {ws : List Wd} {g : Nat → Nat × Value} {k i : Nat} {wd : Wd} {p : Nat} {γ : Gh} {σ σ' : Ds}
theorem fam_dbt (h : (fam (dI ws g)).holds w) (hk : ws[k]? = some wd) (hn : wd.news ≠ []) : Holds w (g k).1 tDb [(g k).2, .int .i64 (wd.mark : Int)] ∧ Win w (g k).2 tW (wd.news.map b64) := by
  have h1 := h.1 k _ (dI_some hk hn)
  exact ⟨h1.2 (blk (g k).1 tDb _) (by simp), h1.2 (winR (g k).2 tW _) (by simp)⟩
theorem Val.loadDbt {t q : Nat} (hA : ∀ w, (isAgg t).run P w = .ok false w) (hx : ev E x = some (.pointer (some ⟨(g k).1, q, none⟩))) (hi : H[i]? = some (fam (dI ws g))) (hk : ws[k]? = some wd) (hn : wd.news ≠ []) (hv : ([(g k).2, .int .i64 (wd.mark : Int)] : List Value)[q]? = some u) :
    Val P Γ E H ⟨dst, .load t x, ty, pos, after, gd⟩ u := fun a w ha hw => by
  have h := (fam_dbt (hw.all _ (List.mem_of_getElem? hi)) hk hn).1
  have := run_loadAt_cell (P := P) hA ((h.cell q).trans hv)
  simp [execOp, ha.eval hx, Sem.run_bind, this]
theorem Val.lenDbt {t el : Nat} (hi : H[i]? = some (fam (dI ws g))) (hk : ws[k]? = some wd) (hn : wd.news ≠ []) (hu : P.underlying t = some (.slice el)) (hx : ev E x = some (g k).2) :
    Val P Γ E H ⟨dst, .call { callee := .builtin .len, args := #[x], argTypes := #[t] }, ty, pos, after, gd⟩ (.int .i64 (wd.news.length : Int)) := fun a w ha hw => by
  have h := (fam_dbt (hw.all _ (List.mem_of_getElem? hi)) hk hn).2
  rcases h with ⟨h1, h2⟩ | ⟨b, o, c, cur, h1, _⟩
  · have := congrArg List.length h2; simp at this; exact absurd this hn
  · rw [h1, List.length_map] at hx
    exact Val.len (bt := #[]) hu hx a w ha hw
theorem At.dbtSome (i : Nat) (hi : H[i]? = some (fam (dI ws g))) (hk : ws[k]? = some wd) (hn : wd.news ≠ []) (c : ∀ b o c, (g k).2 = .slice (some ⟨b, o, none⟩) wd.news.length c → At Γ E H φ) : At Γ E H φ := fun a w ha hw => by
  have h := (fam_dbt (hw.all _ (List.mem_of_getElem? hi)) hk hn).2
  rcases h with ⟨h1, h2⟩ | ⟨b, o, c', cur, h1, _⟩
  · have := congrArg List.length h2; simp at this; exact absurd this hn
  · rw [List.length_map] at h1; exact c b o c' h1 a w ha hw
theorem Val.loadNews {t b o n c j q : Nat} {z' : BitVec 64} (hA : ∀ w, (isAgg t).run P w = .ok false w) (hx : ev E x = some (.pointer (some ⟨b, q, none⟩))) (hi : H[i]? = some (fam (dI ws g))) (hk : ws[k]? = some wd) (hn : wd.news ≠ []) (hg : (g k).2 = .slice (some ⟨b, o, none⟩) n c) (hq : o + j = q) (hv : wd.news[j]? = some z') :
    Val P Γ E H ⟨dst, .load t x, ty, pos, after, gd⟩ (b64 z') := fun a w ha hw => by
  subst hq
  have h := (fam_dbt (hw.all _ (List.mem_of_getElem? hi)) hk hn).2
  rw [hg] at h
  have := run_loadAt_cell (P := P) hA (h.at (u := b64 z') (by rw [List.getElem?_map, hv]; rfl))
  simp [execOp, ha.eval hx, Sem.run_bind, this]
theorem At.focusD (i : Nat) (hi : H[i]? = some (fam (dI ws g))) (hk : ws[k]? = some wd) (hn : wd.news ≠ []) (c : At Γ E (blk (g k).1 tDb [(g k).2, .int .i64 (wd.mark : Int)] :: winR (g k).2 tW (wd.news.map b64) :: fam (upd (dI ws g) k none) :: H.eraseIdx i) φ) : At Γ E H φ := fun a w ha hw =>
  c a w ha ((hw.perm (erase_perm H i _ hi)).focus (dI_some hk hn)).openS
theorem At.unfocusD {b : Nat} {v' : Value} (hk : k < ws.length) (hn : wd.news ≠ []) (c : At Γ E (fam (dI (ws.set k wd) (upd g k (b, v'))) :: H) φ) : At Γ E (blk b tDb [v', .int .i64 (wd.mark : Int)] :: winR v' tW (wd.news.map b64) :: fam (upd (dI ws g) k none) :: H) φ := fun a w ha hw => by
  have h1 : Rep Γ.w0 Γ.S (dR (b, v') wd :: fam (upd (dI ws g) k none) :: H) w := Rep.shutS (L := [blk b tDb [v', .int .i64 (wd.mark : Int)], winR v' tW (wd.news.map b64)]) hw
  have h2 := h1.unfocus (upd_at ..)
  rw [fam_unf hk hn] at h2
  exact c a w ha h2
/-- .. of a doubt that is new. -/
theorem At.bornD {b : Nat} {v' : Value} {wo : Wd} (hk : ws[k]? = some wo) (ho : wo.news = []) (hn : wd.news ≠ []) (c : At Γ E (fam (dI (ws.set k wd) (upd g k (b, v'))) :: H) φ) : At Γ E (blk b tDb [v', .int .i64 (wd.mark : Int)] :: winR v' tW (wd.news.map b64) :: fam (dI ws g) :: H) φ := by
  have e : upd (dI ws g) k none = dI ws g := by
    funext j; unfold upd; split
    · rename_i e; rw [e, dI_none hk ho]
    · rfl
  have := At.unfocusD (Γ := Γ) (E := E) (H := H) (φ := φ) (g := g) (b := b) (v' := v') (wd := wd) (List.getElem?_eq_some_iff.1 hk).1 hn c
  rwa [e] at this
theorem At.dropD {r1 r2 : Res} (hk : k < ws.length) (hn : wd.news = []) (c : At Γ E (fam (dI (ws.set k wd) g) :: H) φ) : At Γ E (r1 :: r2 :: fam (upd (dI ws g) k none) :: H) φ := fun a w ha hw => by
  rw [fam_drop hk hn] at hw
  exact c a w ha (hw.drop ((List.Sublist.refl _).cons _ |>.cons _))
theorem At.rot3 {a b c f : Res} (h : At Γ E (a :: b :: c :: f :: F) φ) : At Γ E (f :: a :: b :: c :: F) φ := fun q w ha hw => h q w ha (hw.perm (List.perm_middle (l₁ := [a, b, c])).symm)
theorem At.rot4 {a b c e f : Res} (h : At Γ E (a :: b :: c :: e :: f :: F) φ) : At Γ E (f :: a :: b :: c :: e :: F) φ := fun q w ha hw => h q w ha (hw.perm (List.perm_middle (l₁ := [a, b, c, e])).symm)
/-! ### calls that keep a resource, that change a device -/
theorem set_same {α : Type} {H : List α} {i : Nat} {r : α} (hi : H[i]? = some r) : H.set i r = H := by
  apply List.ext_getElem?
  intro q
  rw [List.getElem?_set]
  split
  · rename_i e; subst e
    split
    · rw [hi]
    · rename_i hn; rw [List.getElem?_eq_none (by omega)]
  · rfl
theorem Rep.kept {r : Res} (hi : H[i]? = some r) (h : Rep w0 S H w) (h' : Rep w (feet [r]) [r] w') : Rep w0 S H w' := by
  have := Rep.frame1 (X := []) hi h h'
  rwa [set_same hi] at this
theorem At.callK (i : Nat) {r : Res} {f : FuncId} {l : List Operand} {vs : List Value} {at_ : Array TypeId} (hi : H[i]? = some r) (h : ∀ w, Rep Γ.w0 Γ.S H w → r.holds w → Upd P f vs r v r w) (hc : ∀ args w, (callFunc f args).run P w = .ok (.enter f args) w) (hv : evs E l = some vs) (hn : Nat.blt d Γ.n = true)
    (c : At Γ ((d, v) :: E) H (wpList P ops Q rest)) :
    At Γ E H (wpList P ops Q ({ dst := some d, op := .call { callee := .value (.func f), args := l.toArray, argTypes := at_ }, type := ty, pos, after, guard := none } :: rest)) :=
  At.call hc hv hn fun w hw => (h w hw (hw.all _ (List.mem_of_getElem? hi))).mono fun e w' ⟨he, hr⟩ => ⟨v, _, he, hw.kept hi hr, c⟩
theorem QAt.callK (i : Nat) {r : Res} {f : FuncId} {l : List Operand} {vs : List Value} {at_ : Array TypeId} (hi : H[i]? = some r) (h : ∀ w, Rep Γ.w0 Γ.S H w → r.holds w → Upd P f vs r v r w) (hc : ∀ args w, (callFunc f args).run P w = .ok (.enter f args) w) (hv : evs E l = some vs) (hn : Nat.blt d Γ.n = true)
    (c : QAt P Γ ops ((d, v) :: E) H rest ψ) : QAt P Γ ops E H ({ dst := some d, op := .call { callee := .value (.func f), args := l.toArray, argTypes := at_ }, type := ty, pos, after, guard := none } :: rest) ψ := fun a ha => by
  unfold wpQuiet
  rw [if_pos (by simp [Region.wanted])]
  refine ⟨v, fun w hw => ?_, c _ (ha.put d v hn)⟩
  unfold Oper.quietAt
  rw [run_call ha hc hv w]
  exact ⟨rfl, (h w hw (hw.all _ (List.mem_of_getElem? hi))).mono fun e w' ⟨he, hm⟩ => ⟨he, hw.kept hi hm⟩⟩
/-- .. with the star open, at the front. -/
theorem Rep.keptS (h : Rep w0 S (L ++ F) w) (h' : Rep w (feet [star L]) [star L] w') : Rep w0 S (L ++ F) w' := (Rep.kept (H := star L :: F) (i := 0) rfl h.shutS h').openS
theorem At.callKS (L : List Res) {F : List Res} {f : FuncId} {l : List Operand} {vs : List Value} {at_ : Array TypeId} (hL : H = L ++ F) (h : ∀ w, Rep Γ.w0 Γ.S H w → (star L).holds w → Upd P f vs (star L) v (star L) w) (hc : ∀ args w, (callFunc f args).run P w = .ok (.enter f args) w) (hv : evs E l = some vs) (hn : Nat.blt d Γ.n = true)
    (c : At Γ ((d, v) :: E) H (wpList P ops Q rest)) :
    At Γ E H (wpList P ops Q ({ dst := some d, op := .call { callee := .value (.func f), args := l.toArray, argTypes := at_ }, type := ty, pos, after, guard := none } :: rest)) := by
  subst hL
  exact At.call hc hv hn fun w hw => (h w hw (hw.shutS.all _ (List.mem_cons_self ..))).mono fun e w' ⟨he, hr⟩ => ⟨v, _, he, hw.keptS hr, c⟩
theorem QAt.callKS (L : List Res) {F : List Res} {f : FuncId} {l : List Operand} {vs : List Value} {at_ : Array TypeId} (hL : H = L ++ F) (h : ∀ w, Rep Γ.w0 Γ.S H w → (star L).holds w → Upd P f vs (star L) v (star L) w) (hc : ∀ args w, (callFunc f args).run P w = .ok (.enter f args) w) (hv : evs E l = some vs) (hn : Nat.blt d Γ.n = true)
    (c : QAt P Γ ops ((d, v) :: E) H rest ψ) : QAt P Γ ops E H ({ dst := some d, op := .call { callee := .value (.func f), args := l.toArray, argTypes := at_ }, type := ty, pos, after, guard := none } :: rest) ψ := by
  subst hL
  intro a ha
  unfold wpQuiet
  rw [if_pos (by simp [Region.wanted])]
  refine ⟨v, fun w hw => ?_, c _ (ha.put d v hn)⟩
  unfold Oper.quietAt
  rw [run_call ha hc hv w]
  exact ⟨rfl, (h w hw (hw.shutS.all _ (List.mem_cons_self ..))).mono fun e w' ⟨he, hm⟩ => ⟨he, hw.keptS hm⟩⟩
/-- A call that changes a device. -/
def DevU (P : Program) (f : FuncId) (vs : List Value) (p : Nat) (γ : Gh) (σ : Ds) (v : Value) (σ' : Ds) (w : World) : Prop := Calls P f vs.toArray w fun e w' => ∃ γ', e = .returned v ∧ Rep w (feet [Dev p γ σ]) [Dev p γ' σ'] w'
theorem At.callD (i : Nat) {f : FuncId} {l : List Operand} {vs : List Value} {at_ : Array TypeId} (hi : H[i]? = some (Dev p γ σ)) (h : ∀ w, Rep Γ.w0 Γ.S H w → (Dev p γ σ).holds w → DevU P f vs p γ σ v σ' w) (hc : ∀ args w, (callFunc f args).run P w = .ok (.enter f args) w) (hv : evs E l = some vs) (hn : Nat.blt d Γ.n = true)
    (c : ∀ γ', At Γ ((d, v) :: E) (H.set i (Dev p γ' σ')) (wpList P ops Q rest)) :
    At Γ E H (wpList P ops Q ({ dst := some d, op := .call { callee := .value (.func f), args := l.toArray, argTypes := at_ }, type := ty, pos, after, guard := none } :: rest)) :=
  At.call hc hv hn fun w hw => (h w hw (hw.all _ (List.mem_of_getElem? hi))).mono fun e w' ⟨γ', he, hr⟩ => ⟨v, _, he, Rep.frame1 (X := []) hi hw hr, c γ'⟩
/-- A call that makes a device, or none. -/
def NewDev (P : Program) (f : FuncId) (vs : List Value) (σ : Ds) (w : World) : Prop := Calls P f vs.toArray w fun e w' => ∃ p γ, e = .returned (.tuple #[.pointer (some ⟨p, 0, none⟩), .int .i64 0]) ∧ Rep w (feet []) [Dev p γ σ] w'
theorem At.callND {f : FuncId} {l : List Operand} {vs : List Value} {at_ : Array TypeId} (h : ∀ w, Rep Γ.w0 Γ.S H w → NewDev P f vs σ w) (hc : ∀ args w, (callFunc f args).run P w = .ok (.enter f args) w) (hv : evs E l = some vs) (hn : Nat.blt d Γ.n = true)
    (c : ∀ p γ, At Γ ((d, .tuple #[.pointer (some ⟨p, 0, none⟩), .int .i64 0]) :: E) (Dev p γ σ :: H) (wpList P ops Q rest)) :
    At Γ E H (wpList P ops Q ({ dst := some d, op := .call { callee := .value (.func f), args := l.toArray, argTypes := at_ }, type := ty, pos, after, guard := none } :: rest)) :=
  At.call hc hv hn fun w hw => (h w hw).mono fun e w' ⟨p, γ, he, hr⟩ => ⟨_, _, he, by
    have := Rep.frame (H0 := []) (F := H) (by simpa using hw) hr
    simpa using this, c p γ⟩
/-- A call that reads one resource and makes a row. -/
def RowK (P : Program) (f : FuncId) (vs : List Value) (r : Res) (e sz n : Nat) (xs : List Value) (w : World) : Prop := Calls P f vs.toArray w fun q w' => ∃ v', q = .returned v' ∧ Rep w (feet [r]) [rowR v' e sz n xs, r] w'
theorem At.callRK (i : Nat) {r : Res} {e sz n : Nat} {xs : List Value} {f : FuncId} {l : List Operand} {vs : List Value} {at_ : Array TypeId} (hi : H[i]? = some r) (h : ∀ w, Rep Γ.w0 Γ.S H w → r.holds w → RowK P f vs r e sz n xs w) (hc : ∀ args w, (callFunc f args).run P w = .ok (.enter f args) w) (hv : evs E l = some vs) (hn : Nat.blt d Γ.n = true)
    (c : ∀ v', At Γ ((d, v') :: E) (rowR v' e sz n xs :: H) (wpList P ops Q rest)) :
    At Γ E H (wpList P ops Q ({ dst := some d, op := .call { callee := .value (.func f), args := l.toArray, argTypes := at_ }, type := ty, pos, after, guard := none } :: rest)) :=
  At.call hc hv hn fun w hw => (h w hw (hw.all _ (List.mem_of_getElem? hi))).mono fun q w' ⟨v', he, hr⟩ => ⟨v', _, he, by
    have h1 : Rep Γ.w0 Γ.S ([r] ++ H.eraseIdx i) w := hw.perm (erase_perm H i r hi)
    exact (h1.frame (H0' := [rowR v' e sz n xs, r]) hr).perm ((erase_perm H i r hi).symm.cons _), c v'⟩
/-- .. with the star open, at the front. -/
theorem At.callRKS (L : List Res) {F : List Res} {e sz n : Nat} {xs : List Value} {f : FuncId} {l : List Operand} {vs : List Value} {at_ : Array TypeId} (hL : H = L ++ F) (h : ∀ w, Rep Γ.w0 Γ.S H w → (star L).holds w → RowK P f vs (star L) e sz n xs w) (hc : ∀ args w, (callFunc f args).run P w = .ok (.enter f args) w) (hv : evs E l = some vs) (hn : Nat.blt d Γ.n = true)
    (c : ∀ v', At Γ ((d, v') :: E) (rowR v' e sz n xs :: H) (wpList P ops Q rest)) :
    At Γ E H (wpList P ops Q ({ dst := some d, op := .call { callee := .value (.func f), args := l.toArray, argTypes := at_ }, type := ty, pos, after, guard := none } :: rest)) := by
  subst hL
  exact At.call hc hv hn fun w hw => (h w hw (hw.shutS.all _ (List.mem_cons_self ..))).mono fun q w' ⟨v', he, hr⟩ => ⟨v', _, he, by
    have h1 : Rep Γ.w0 Γ.S ([star L] ++ F) w := hw.shutS
    have h2 : Rep Γ.w0 Γ.S (rowR v' e sz n xs :: star L :: F) w' := h1.frame (H0' := [rowR v' e sz n xs, star L]) hr
    have h3 : Rep Γ.w0 Γ.S (star L :: rowR v' e sz n xs :: F) w' := h2.perm (List.Perm.swap ..)
    exact h3.openS.perm List.perm_middle, c v'⟩
theorem retRK {p : Nat} {γ : Gh} {σ : Ds} {r : Res} {F : List Res} (hw : Rep w S (r :: devL p γ σ ++ F) w') : Rep w S [r, Dev p γ σ] w' := by
  have h1 : Rep w S (devL p γ σ ++ (r :: F)) w' := hw.perm (List.perm_middle (l₁ := devL p γ σ)).symm
  exact ((h1.shutS).perm (List.Perm.swap ..)).drop ((List.nil_sublist F).cons_cons _ |>.cons_cons _)
theorem enterV {f : FuncId} {fn : Func} {c : Code} {vs : List Value} {w : World} {R : Ending → World → Prop} {n : Nat} (hd : (Dev p γ σ).holds w) (hf : P.funcs[f]? = some fn) (hb : fn.body = some c) (hn : fn.ntmps = n) (hl : Nat.ble vs.length n = true)
    (k : At ⟨w, feet [Dev p γ σ], n, []⟩ (envOf 0 vs) (devL p γ σ) (c.wp P (bodyPost P fn R))) : Calls P f vs.toArray w R := enter (feet [Dev p γ σ]) (devL p γ σ) hf hb hn hl (Rep.of_star (r := Dev p γ σ) hd) k
theorem enterVc {f : FuncId} {fn : Func} {c : Code} {vs : List Value} {w : World} {R : Ending → World → Prop} {n : Nat} (hd : (Dev p γ σ).holds w) (hf : P.funcs[f]? = some fn) (hb : fn.body = some c) (hn : fn.ntmps = n) (hl : Nat.ble vs.length n = true)
    (k : At ⟨w, feet [Dev p γ σ], n, []⟩ (envOf 0 vs) [Dev p γ σ] (c.wp P (bodyPost P fn R))) : Calls P f vs.toArray w R := enter (feet [Dev p γ σ]) [Dev p γ σ] hf hb hn hl (Rep.one hd) k
theorem retK {F : List Res} (hw : Rep w S (devL p γ σ ++ F) w') : Rep w S [Dev p γ σ] w' := (hw.shutS).drop ((List.nil_sublist F).cons_cons _)
/-- An open device whose parts are known is a device again. -/
theorem toDev {F : List Res} {a b c e : Res} (hg : Dgood σ) (hw : Rep w S (a :: b :: c :: e :: F) w') (ha : a = blk p tDv [γ.vo, .map (some γ.mb), .int .i64 (σ.steps : Int), .bool σ.armed, .int .i64 (σ.left : Int)]) (hb : b = wrow tW γ.vo (olds σ.ws)) (hc : c = mapR γ.mb (mk σ.ws γ.g)) (he : e = fam (dI σ.ws γ.g)) : Rep w S (Dev p γ σ :: F) w' := by
  subst ha hb hc he
  have h1 : Rep w S (factR (Dgood σ) :: _) w' := Rep.fact hg hw
  have h2 : Rep w S (devL p γ σ ++ F) w' := h1.perm (List.perm_middle (l₁ := [_, _, _, _]) (a := factR (Dgood σ)) (l₂ := F)).symm
  exact h2.shutS
end
end Go.Wk
