/- The device: more rules: what is made new, closures that capture, words in rows. -/
import Derived.Test.YtgighokkflchmaaDd
set_option linter.unusedVariables false
set_option linter.unusedSimpArgs false
namespace Go.Wk
open Go
section
variable {P : Program} {Γ : Ctx} {E : Env} {H L F : List Res} {ops : Array Oper} {Q : Exit → Act → World → Prop} {rest : List Oper} {w0 w w' : World} {S : Nat → Prop} {φ : Act → World → Prop} {ψ : Act → Prop}
  {d : Nat} {dst : Option Tmp} {gd : Option (Nat × Bool)} {ty : TypeId} {pos : String} {after : Array Edge} {x y z : Operand} {v u : Value} {ws : List Wd} {g : Nat → Nat × Value}
theorem Rep.famNil {I : Nat → Option Res} (hI : ∀ k, I k = none) (h : Rep w0 S H w) : Rep w0 S (fam I :: H) w :=
  ⟨List.pairwise_cons.2 ⟨fun s _ b ⟨k, r, hk, _⟩ _ => (by rw [hI k] at hk; cases hk), h.sep⟩, fun r hr => by
    rcases List.mem_cons.1 hr with rfl | h1
    · exact ⟨fun k r hk => (by rw [hI k] at hk; cases hk), fun k k' r r' hk => (by rw [hI k] at hk; cases hk)⟩
    · exact h.all r h1, fun r hr b hb => by
    rcases List.mem_cons.1 hr with rfl | h1
    · obtain ⟨k, r, hk, _⟩ := hb; rw [hI k] at hk; cases hk
    · exact h.mine r h1 b hb, h.mod⟩
theorem dI_calm (h : ∀ w ∈ ws, w.news = []) (k : Nat) : dI ws g k = none := by
  cases hk : ws[k]? with
  | none => unfold dI; rw [hk]
  | some wd => exact dI_none hk (h wd (List.mem_of_getElem? hk))
theorem dI_calm' {ws' : List Wd} {g' : Nat → Nat × Value} (h : ∀ w ∈ ws, w.news = []) (h' : ∀ w ∈ ws', w.news = []) : dI ws g = dI ws' g' := funext fun k => by rw [dI_calm h, dI_calm h']
theorem mk_calm (h : ∀ w ∈ ws, w.news = []) : mk ws g = fun _ => none := by
  funext q
  unfold mk
  split
  · cases hk : ws[(q / 8).toNat]? with
    | none => unfold mkN; rw [hk]
    | some wd => exact mkN_none hk (h wd (List.mem_of_getElem? hk))
  · rfl
theorem made_w (n : Nat) : (madeCells #[Value.int .u64 0] (n * 1)).toList = (List.replicate n (0 : BitVec 64)).map b64 := by
  rw [Nat.mul_one]
  apply List.ext_getElem
  · simp [madeCells]
  · intro i h1 h2
    simp [madeCells, Nat.mod_one]
theorem At.makeRowW {t e n : Nat} {ti : TypeInfo} (ht : P.underlying t = some (.slice e)) (hti : P.info? e = some ti) (hz : ti.zero = some (.int .u64 0)) (hsize : ti.size = 1) (hb : ti.bytes = 8)
    (hx : ev E x = some (.int .i64 (n : Int))) (hy : ev E y = some (.int .i64 (n : Int))) (h63 : n ≤ 1073741824) (hn : Nat.blt d Γ.n = true)
    (k : ∀ v, At Γ ((d, v) :: E) (wrow e v (List.replicate n 0) :: H) (wpList P ops Q rest)) :
    At Γ E H (wpList P ops Q ({ dst := some d, op := .makeSlice t x y, type := ty, pos, after, guard := none } :: rest)) :=
  At.makeRow ht hti hz hsize (made_w n) hx hy (by rw [hb]; omega) (by omega) hn fun v => by
    have := k v
    unfold wrow at this
    rwa [List.length_replicate] at this
theorem now_last {wd : Wd} (hn : wd.news ≠ []) {y : BitVec 64} (hy : y = wd.news.getLast?.getD wd.old) : wd.news[wd.news.length - 1]? = some y := by
  rw [hy, ← List.getLast?_eq_getElem?]
  cases h : wd.news.getLast? with
  | none => rw [List.getLast?_eq_none_iff] at h; exact absurd h hn
  | some z => rfl
theorem Rep.modF (h : Rep w0 (feet []) H w) : Mod (fun _ => False) w0 w := h.mod.mono (fun b hb => by simp [feet] at hb)
/-- A closure that captured several values. -/
theorem run_callV {n : Nat} {D : List Deferred} {a : Act} (ha : Agrees n D E a) {f : FuncId} {fx : Operand} {caps : List Value} {l : List Operand} {vs : List Value} {at_ : Array TypeId} (hf : ev E fx = some (.func (.func f) #[] caps.toArray)) (hc : ∀ args w, (callFunc f args).run P w = .ok (.enter f args) w) (hv : evs E l = some vs) (w : World) :
    (execOp a.eval { dst := dst, op := .call { callee := .value fx, args := l.toArray, argTypes := at_ }, type := ty, pos, after, guard := gd }).run P w = .ok (.enter f (vs ++ caps).toArray) w := by
  have hev := ha.evals hv
  simp [execOp, resolve, ha.eval hf, Deferred.ofValue, Sem.run_bind, invoke, hev, hc]
theorem QAt.callVK (i : Nat) {r : Res} {f : FuncId} {fx : Operand} {caps : List Value} {l : List Operand} {vs : List Value} {at_ : Array TypeId} (hi : H[i]? = some r) (hf : ev E fx = some (.func (.func f) #[] caps.toArray)) (h : ∀ w, Rep Γ.w0 Γ.S H w → r.holds w → Upd P f (vs ++ caps) r v r w)
    (hc : ∀ args w, (callFunc f args).run P w = .ok (.enter f args) w) (hv : evs E l = some vs) (hn : Nat.blt d Γ.n = true)
    (c : QAt P Γ ops ((d, v) :: E) H rest ψ) : QAt P Γ ops E H ({ dst := some d, op := .call { callee := .value fx, args := l.toArray, argTypes := at_ }, type := ty, pos, after, guard := none } :: rest) ψ := fun a ha => by
  unfold wpQuiet
  rw [if_pos (by simp [Region.wanted])]
  refine ⟨v, fun w hw => ?_, c _ (ha.put d v hn)⟩
  unfold Oper.quietAt
  rw [run_callV ha hf hc hv w]
  exact ⟨rfl, (h w hw (hw.all _ (List.mem_of_getElem? hi))).mono fun e w' ⟨he, hm⟩ => ⟨he, hw.kept hi hm⟩⟩
theorem QAt.callVKS (L : List Res) {F : List Res} {f : FuncId} {fx : Operand} {caps : List Value} {l : List Operand} {vs : List Value} {at_ : Array TypeId} (hL : H = L ++ F) (hf : ev E fx = some (.func (.func f) #[] caps.toArray)) (h : ∀ w, Rep Γ.w0 Γ.S H w → (star L).holds w → Upd P f (vs ++ caps) (star L) v (star L) w)
    (hc : ∀ args w, (callFunc f args).run P w = .ok (.enter f args) w) (hv : evs E l = some vs) (hn : Nat.blt d Γ.n = true)
    (c : QAt P Γ ops ((d, v) :: E) H rest ψ) : QAt P Γ ops E H ({ dst := some d, op := .call { callee := .value fx, args := l.toArray, argTypes := at_ }, type := ty, pos, after, guard := none } :: rest) ψ := by
  subst hL
  intro a ha
  unfold wpQuiet
  rw [if_pos (by simp [Region.wanted])]
  refine ⟨v, fun w hw => ?_, c _ (ha.put d v hn)⟩
  unfold Oper.quietAt
  rw [run_callV ha hf hc hv w]
  exact ⟨rfl, (h w hw (hw.shutS.all _ (List.mem_cons_self ..))).mono fun e w' ⟨he, hm⟩ => ⟨he, hw.keptS hm⟩⟩
theorem At.winNil (e : Nat) (k : At Γ E (winR (.slice none 0 0) e [] :: H) φ) : At Γ E H φ := fun a w ha hw =>
  k a w ha (hw.new (r' := winR (.slice none 0 0) e []) (Mod.refl _ _) (.inl ⟨rfl, rfl⟩) (fun b hb => by simp [winR, Value.ownBlock] at hb))
theorem At.bornD0 {k b : Nat} {v' : Value} {wo wd : Wd} (hm : wd.mark = 0) (hk : ws[k]? = some wo) (ho : wo.news = []) (hn : wd.news ≠ []) (c : At Γ E (fam (dI (ws.set k wd) (upd g k (b, v'))) :: H) φ) : At Γ E (blk b tDb [v', .int .i64 0] :: winR v' tW (wd.news.map b64) :: fam (dI ws g) :: H) φ := by
  have := At.bornD (Γ := Γ) (E := E) (H := H) (φ := φ) (g := g) (b := b) (v' := v') hk ho hn c
  rwa [hm] at this
theorem At.unfocusZ {k b : Nat} {v' : Value} {wd : Wd} (hm : wd.mark = 0) (hk : k < ws.length) (hn : wd.news ≠ []) (c : At Γ E (fam (dI (ws.set k wd) (upd g k (b, v'))) :: H) φ) : At Γ E (blk b tDb [v', .int .i64 0] :: winR v' tW (wd.news.map b64) :: fam (upd (dI ws g) k none) :: H) φ := by
  have := At.unfocusD (Γ := Γ) (E := E) (H := H) (φ := φ) (g := g) (b := b) (v' := v') hk hn c
  rwa [hm] at this
theorem At.dbtCap {k : Nat} {wd : Wd} {b o n c : Nat} (i : Nat) (hi : H[i]? = some (fam (dI ws g))) (hk : ws[k]? = some wd) (hn : wd.news ≠ []) (hv : (g k).2 = .slice (some ⟨b, o, none⟩) n c) (q : wd.news.length ≤ c → At Γ E H φ) : At Γ E H φ := fun a w ha hw => by
  have h := (fam_dbt (hw.all _ (List.mem_of_getElem? hi)) hk hn).2
  rw [hv] at h
  rcases h with ⟨h1, _⟩ | ⟨b', o', c', cur, h1, _, h2, _⟩
  · cases h1
  · simp only [Value.slice.injEq] at h1
    obtain ⟨_, _, rfl⟩ := h1
    rw [List.length_map] at h2
    exact q h2 a w ha hw
theorem At.winOne (i : Nat) {e : Nat} {xs : List Value} (hi : H[i]? = some (winR v e xs)) (k : v.oneCell' = true → At Γ E H φ) : At Γ E H φ := fun a w ha hw => by
  have h : Win w v e xs := hw.all _ (List.mem_of_getElem? hi)
  rcases h with ⟨rfl, rfl⟩ | ⟨b, o, c, cur, rfl, _⟩ <;> exact k rfl a w ha hw
theorem At.bring (i : Nat) {r : Res} (hi : H[i]? = some r) (k : At Γ E (r :: H.eraseIdx i) φ) : At Γ E H φ := fun a w ha hw => k a w ha (hw.perm (erase_perm H i r hi))
theorem At.rew {H' : List Res} (h : H = H') (k : At Γ E H' φ) : At Γ E H φ := by subst h; exact k
/-- One part of a list is laid over. -/
def putK (l : List UInt8) (o : Nat) (x : BitVec 64) (k : Nat) : List UInt8 := l.take o ++ (le8 x).take k ++ l.drop (o + k)
abbrev put8 (l : List UInt8) (o : Nat) (x : BitVec 64) : List UInt8 := putK l o x 8
theorem putK_zero (l : List UInt8) (o : Nat) (x : BitVec 64) : putK l o x 0 = l := by simp [putK]
theorem putK_length {l : List UInt8} {o k : Nat} (x : BitVec 64) (h : o + k ≤ l.length) (hk : k ≤ 8) : (putK l o x k).length = l.length := by
  unfold putK; simp [le_length]; omega
theorem putK_step {l : List UInt8} {o k : Nat} (x : BitVec 64) (h : o + k < l.length) (hk : k < 8) : (putK l o x k).set (o + k) (UInt8.ofNat (x.toNat / 256 ^ k)) = putK l o x (k + 1) := by
  unfold putK
  rw [le_take_succ 8 _ k hk]
  have e : (l.take o ++ (le8 x).take k).length = o + k := by simp [le_length]; omega
  rw [List.set_append_right _ _ (by omega), e, Nat.sub_self, List.drop_eq_getElem_cons h, List.set_cons_zero]
  simp [Nat.add_assoc]
end
end Go.Wk
