/- The exact laws: one call on both. -/
import Derived.Test.YtkpbpeajkfgfiaaR9
import Derived.Test.YtkpbpeajkfgfiaaQ6
set_option linter.unusedVariables false
set_option linter.unusedSimpArgs false
namespace Go.Proofs.Ytkpbpeajkfgfiaa
open Go Go.Wk

/-- A list of old stands in no resource that is held. -/
theorem Rep.offOld {w0 w : World} {S : Nat → Prop} {H : List Res} {r : Res} {v : Value} {sz n : Nat} {xs : List Value} (hw : Rep w0 S H w) (h : Rd w0 v sz n xs) (ho : Off v xs S) (hr : r ∈ H) : Off v xs (feet [r]) := fun hne b o s n' c hv ⟨q, hq, hb⟩ => by
  rw [List.mem_singleton.1 hq] at hb
  obtain ⟨A, c', rfl, h2, _⟩ := h
  have hl : 0 < xs.length := List.length_pos_iff.2 hne
  obtain ⟨b', o', e, hc⟩ := h2 0 _ (List.getElem?_eq_getElem hl)
  simp only [Value.slice.injEq] at hv
  rw [hv.1] at e
  simp only [Option.some.injEq, Addr.mk.injEq] at e
  obtain ⟨rfl, _, _⟩ := e
  have hlt := block_lt_of_cell hc
  rcases hw.mine r hr _ hb with h3 | h3
  · simp only at *; omega
  · exact ho hne _ _ _ _ _ (by rw [hv.1]) h3
def BothP (P : Program) (f : FuncId) (vs : List Value) (p q : Nat) (γ : Gh) (δ : Rg) (σ : Ds) (ρ : Rs) (w : World) : Prop := Calls P f vs.toArray w fun e w' => ∃ γ' σ' δ' ρ', e = .returned (.bool true) ∧ Sim σ' ρ' ∧ σ'.ws.length = σ.ws.length ∧ σ'.steps ≤ σ.steps + 65537 ∧ Rep w (feet [star [Dev p γ σ, RDev q δ ρ]]) [star [Dev p γ' σ', RDev q δ' ρ']] w'
theorem dts_bd {σ : Ds} (h : Dgood σ) {k : Nat} {x : Dt} (hx : (dts σ.ws)[k]? = some x) : x.2.2.length ≤ 1099511627776 := by
  obtain ⟨w, hw, e⟩ := dts_news hx
  have h1 := (h.word w hw).2
  have h2 := h.steps
  rw [e]; omega


theorem take_succ_of_get' {α : Type} {l : List α} {k : Nat} {x : α} (h : l[k]? = some x) : l.take (k + 1) = l.take k ++ [x] := by rw [List.take_add_one, h]; rfl


theorem QAt.idxIO {P : Program} {Γ : Ctx} {E : Env} {H : List Res} {ops : Array Oper} {rest : List Oper} {ψ : Act → Prop} {d : Nat} {ty : TypeId} {pos : String} {after : Array Edge} {x y : Operand} {v : Value} {t el j : Nat} {l : List Int} {k : IntKind} {z : Int} {g : Option (Nat × Bool)} (h : RdI Γ.w0 v l) (ho : Off v (l.map (Value.int .i64)) Γ.S) (hu : P.underlying t = some (.slice el)) (hs : ∀ w, (sizeOf el).run P w = .ok 1 w) (hx : ev E x = some v) (hy : ev E y = some (.int k (j : Int))) (hz : l[j]? = some z)
    (hg : g = none) (hn : Nat.blt d Γ.n = true)
    (c : ∀ b o, Γ.w0.cell? ⟨b, o, none⟩ = some (.int .i64 z) → ¬ Γ.S b → QAt P Γ ops ((d, .pointer (some ⟨b, o, none⟩)) :: E) H rest ψ) :
    QAt P Γ ops E H ({ dst := some d, op := .indexAddr t x y, type := ty, pos, after, guard := g } :: rest) ψ := by
  have hj := (List.getElem?_eq_some_iff.1 hz).1
  obtain ⟨b, o, cap, rfl, hc⟩ := h.at (j := j) hj
  exact QAt.val (Val.indexSl _ rfl hu hs hx hy (by omega) (by omega)) hg rfl hn (c b _ (by have := hc 0 (.int .i64 z) (by rw [Nat.mul_one, Nat.add_zero, List.getElem?_map, hz]; rfl); rwa [Nat.add_zero] at this) (ho (fun e => by rw [List.map_eq_nil_iff] at e; rw [e] at hz; cases hz) b _ _ _ _ rfl))

theorem copyInts_n (v : Value) (l : List Int) (w : World) (hv : RdI w v l) (hlen : l.length ≤ 17592186044416) :
    NewRow Try.prog 98 [v] 3 1 l.length (l.map (Value.int .i64)) w := by
 refine enter (feet []) [] Try.func98 rfl Try.ntmps98 rfl ⟨by simp, by simp, by simp, Mod.refl _ _⟩ ?_
 simp only [envOf]
 refine tR ?_
 refine tA rfl rfl ?_
 refine tE ?_
 refine tR ?_
 refine tA rfl rfl ?_
 refine At.nil ?_
 refine At.rowNilI 3 ?_
 refine At.thenN ?_
 refine At.seq ?_
 refine tR ?_
 refine tA rfl rfl ?_
 refine tE ?_
 refine At.block ?_
 skip
 refine At.loop (σ := Nat × Value) (fun s => s.1 ≤ l.length) (fun s => [(0, v), (3, s.2), (4, .int .i64 (s.1 : Int))]) (fun s => [irow 3 s.2 (l.take s.1)]) (fun s => l.length - s.1) (0, .slice none 0 0) (Nat.zero_le _) (Sub.cons rfl (Sub.cons rfl (Sub.cons rfl Sub.nil))) (List.Perm.refl _) ?_
 intro s hs
 obtain ⟨k, vl⟩ := s
 dsimp only at hs ⊢
 refine At.seq ?_
 refine tR ?_
 refine tM rfl rfl ?_
 refine tM rfl rfl ?_
 refine At.val (Val.lenRd hv Try.underlying23 rfl) rfl rfl rfl ?_
 refine At.val (Val.bin rfl rfl rfl) rfl rfl rfl ?_
 refine tE ?_
 refine At.cond rfl (fun h1 => ?_) (fun h1 => ?_)
 ·skip
  try simp only [hasB, isSizeB, Bool.not_eq_true', Bool.not_eq_false', bne_iff_ne, ne_eq, bne_eq_false_iff_eq, beq_iff_eq, beq_eq_false_iff_ne, decide_eq_true_eq, decide_eq_false_iff_not, gt_iff_lt, ge_iff_le] at h1
  obtain ⟨z, hz⟩ : ∃ z, l[k]? = some z := ⟨_, List.getElem?_eq_getElem (by omega)⟩
  refine At.skipC ?_
  refine At.thenN ?_
  refine At.seq ?_
  refine At.block ?_
  refine At.region ?_
  refine tM rfl rfl ?_
  refine tM rfl rfl ?_
  refine tM rfl rfl ?_
  refine At.idxI' hv (fun _ _ _ _ _ _ _ h => by simp [feet] at h) Try.underlying23 Try.sizeOf3 rfl rfl (by omega) (by omega) rfl rfl (fun bx ox cx hcx hcc hox => ?_)
  rw [Int.toNat_natCast] at hcx
  obtain rfl : z = cx := Option.some.inj (hz.symm.trans hcx)
  refine At.val (Val.loadOld Try.isAgg3 rfl hcc hox) rfl rfl rfl ?_
  refine At.buildSl (fun a ha => by simp only [List.map_toArray, List.map_cons, List.map_nil, ha.eval (x := (.tmp 15)) rfl]; try rfl) (bs_23_1 _ ) rfl (fun b2 => ?_)
  refine At.appendI1 (i := 1) (j := 0) (c := z) (by_ := 8) Try.underlying23 info_3 rfl rfl rfl rfl rfl rfl rfl rfl (by rw [List.length_take]; omega) (by rw [List.length_take]; omega) rfl (fun v3 => ?_)
  simp only [sc0, scS]
  refine At.drop 0 ?_
  simp only [ec0, ecS]
  refine tA rfl rfl ?_
  refine At.nil ?_
  refine At.blkN ?_
  refine At.thenN ?_
  refine At.region ?_
  refine tM rfl rfl ?_
  first | refine At.val (Val.addI rfl rfl (by omega) (by omega)) rfl rfl rfl ?_ | refine At.val (Val.bin rfl rfl rfl) rfl rfl rfl ?_
  refine tA rfl rfl ?_
  refine tE ?_
  exact At.again (k + 1, v3) (show k + 1 ≤ _ by omega) (by dsimp only; omega) (Sub.cons rfl (Sub.cons rfl (Sub.cons (congrArg (fun z => some (Value.int IntKind.i64 z)) (by omega)) Sub.nil))) (by dsimp only; rw [take_succ_of_get' hz])
 ·skip
  try simp only [hasB, isSizeB, Bool.not_eq_true', Bool.not_eq_false', bne_iff_ne, ne_eq, bne_eq_false_iff_eq, beq_iff_eq, beq_eq_false_iff_ne, decide_eq_true_eq, decide_eq_false_iff_not, gt_iff_lt, ge_iff_le] at h1
  refine At.exitC ?_
  refine At.thenX ?_
  refine At.thenX ?_
  refine At.blkX ?_
  refine At.thenN ?_
  refine tR ?_
  refine tM rfl rfl ?_
  refine tA rfl rfl ?_
  refine tE ?_
  refine At.retC ?_
  refine At.ret1 (.inl rfl) rfl rfl rfl (fun w hw => ?_)
  rw [List.take_of_length_le (by omega)] at hw
  exact ⟨_, rfl, hw⟩

theorem sameDoubts_k (v u : Value) (Q Q' : List Dq) (w : World) (hQQ : Q.map Prod.fst = Q'.map Prod.fst) (hQb : Q.length ≤ 65536) (hnb : ∀ x ∈ Q, x.1.2.2.length ≤ 1099511627776) (hd : (star [dbtR v Q, dbtR u Q']).holds w) :
    Upd Try.prog 96 [v, u] (star [dbtR v Q, dbtR u Q']) (.bool true) (star [dbtR v Q, dbtR u Q']) w := by
 refine enter (feet [star [dbtR v Q, dbtR u Q']]) [dbtR v Q, dbtR u Q'] Try.func96 rfl Try.ntmps96 rfl (Rep.of_star (r := star [dbtR v Q, dbtR u Q']) hd) ?_
 have hQl : Q.length = Q'.length := by have := congrArg List.length hQQ; rwa [List.length_map, List.length_map] at this
 simp only [envOf]
 refine tR ?_
 refine tA rfl rfl ?_
 refine tE ?_
 refine At.seq ?_
 refine tR ?_
 refine tM rfl rfl ?_
 refine At.val (Val.lenDb (i := 0) rfl Try.underlying43 rfl) rfl rfl rfl ?_
 refine tM rfl rfl ?_
 refine At.val (Val.lenDb (i := 1) rfl Try.underlying43 rfl) rfl rfl rfl ?_
 refine At.val (Val.bin rfl rfl rfl) rfl rfl rfl ?_
 refine tE ?_
 refine At.cond rfl (fun h1 => ?_) (fun h1 => ?_)
 ·skip
  try simp only [hasB, isSizeB, Bool.not_eq_true', Bool.not_eq_false', bne_iff_ne, ne_eq, bne_eq_false_iff_eq, beq_iff_eq, beq_eq_false_iff_ne, decide_eq_true_eq, decide_eq_false_iff_not, gt_iff_lt, ge_iff_le] at h1
  omega
 ·skip
  try simp only [hasB, isSizeB, Bool.not_eq_true', Bool.not_eq_false', bne_iff_ne, ne_eq, bne_eq_false_iff_eq, beq_iff_eq, beq_eq_false_iff_ne, decide_eq_true_eq, decide_eq_false_iff_not, gt_iff_lt, ge_iff_le] at h1
  refine At.skipC ?_
  refine At.thenN ?_
  refine At.seq ?_
  refine tR ?_
  refine tA rfl rfl ?_
  refine tE ?_
  refine At.block ?_
  skip
  refine At.loop (σ := Nat) (fun k => k ≤ Q.length) (fun k => [(0, v), (1, u), (5, .int .i64 (k : Int))]) (fun k => [dbtR v Q, dbtR u Q']) (fun k => Q.length - k) 0 (Nat.zero_le _) (Sub.cons rfl (Sub.cons rfl (Sub.cons rfl Sub.nil))) (List.Perm.refl _) ?_
  intro k hs
  refine At.seq ?_
  refine tR ?_
  refine tM rfl rfl ?_
  refine tM rfl rfl ?_
  refine At.val (Val.lenDb (i := 0) rfl Try.underlying43 rfl) rfl rfl rfl ?_
  refine At.val (Val.bin rfl rfl rfl) rfl rfl rfl ?_
  refine tE ?_
  refine At.cond rfl (fun h2 => ?_) (fun h2 => ?_)
  ·skip
   try simp only [hasB, isSizeB, Bool.not_eq_true', Bool.not_eq_false', bne_iff_ne, ne_eq, bne_eq_false_iff_eq, beq_iff_eq, beq_eq_false_iff_ne, decide_eq_true_eq, decide_eq_false_iff_not, gt_iff_lt, ge_iff_le] at h2
   have hkl : k < Q.length := by omega
   obtain ⟨⟨⟨xa, xo, xn⟩, xs⟩, hx⟩ : ∃ x, Q[k]? = some x := ⟨_, List.getElem?_eq_getElem hkl⟩
   obtain ⟨⟨yy, ys⟩, hy⟩ : ∃ y, Q'[k]? = some y := ⟨_, List.getElem?_eq_getElem (by omega)⟩
   obtain rfl : yy = (xa, xo, xn) := by have h1 := fst_at hQQ hx; have h2 := fst_at rfl hy; exact Option.some.inj (h2.symm.trans h1)
   have hxl : xn.length ≤ 1099511627776 := hnb _ (List.mem_of_getElem? hx)
   refine At.skipC ?_
   refine At.thenN ?_
   refine At.seq ?_
   refine At.block ?_
   refine At.seq ?_
   refine At.quiet rfl (by decide +kernel) ?_
   refine qM rfl rfl ?_
   refine qM rfl rfl ?_
   refine QAt.val (Val.indexDb (i := 0) (k * 3) (by omega) Try.underlying43 Try.sizeOf48 rfl rfl rfl (by omega) (by omega)) rfl rfl rfl ?_
   refine QAt.val (Val.field (k * 3 + 0) rfl fo_48_0 rfl) rfl rfl rfl ?_
   refine QAt.val (Val.loadDb (i := 0) 0 Try.isAgg3 rfl rfl rfl hx rfl) rfl rfl rfl ?_
   refine qM rfl rfl ?_
   refine qM rfl rfl ?_
   refine QAt.val (Val.indexDb (i := 1) (k * 3) (by omega) Try.underlying43 Try.sizeOf48 rfl rfl rfl (by omega) (by omega)) rfl rfl rfl ?_
   refine QAt.val (Val.field (k * 3 + 0) rfl fo_48_0 rfl) rfl rfl rfl ?_
   refine QAt.val (Val.loadDb (i := 1) 0 Try.isAgg3 rfl rfl rfl hy rfl) rfl rfl rfl ?_
   refine QAt.val (Val.bin rfl rfl rfl) rfl rfl rfl ?_
   rw [bne_self_eq_false]
   refine qM rfl rfl ?_
   refine QAt.yes rfl rfl ?_
   refine qM rfl rfl ?_
   refine QAt.yes rfl rfl ?_
   refine qM rfl rfl ?_
   refine QAt.yes rfl rfl ?_
   refine QAt.val (Val.indexDb (i := 0) (k * 3) (by omega) Try.underlying43 Try.sizeOf48 rfl rfl rfl (by omega) (by omega)) rfl rfl rfl ?_
   refine QAt.yes rfl rfl ?_
   refine QAt.val (Val.field (k * 3 + 1) rfl fo_48_1 rfl) rfl rfl rfl ?_
   refine QAt.yes rfl rfl ?_
   refine QAt.val (Val.loadDb (i := 0) 1 Try.isAgg30 rfl rfl rfl hx rfl) rfl rfl rfl ?_
   refine QAt.yes rfl rfl ?_
   refine qM rfl rfl ?_
   refine QAt.yes rfl rfl ?_
   refine qM rfl rfl ?_
   refine QAt.yes rfl rfl ?_
   refine QAt.val (Val.indexDb (i := 1) (k * 3) (by omega) Try.underlying43 Try.sizeOf48 rfl rfl rfl (by omega) (by omega)) rfl rfl rfl ?_
   refine QAt.yes rfl rfl ?_
   refine QAt.val (Val.field (k * 3 + 1) rfl fo_48_1 rfl) rfl rfl rfl ?_
   refine QAt.yes rfl rfl ?_
   refine QAt.val (Val.loadDb (i := 1) 1 Try.isAgg30 rfl rfl rfl hy rfl) rfl rfl rfl ?_
   refine QAt.yes rfl rfl ?_
   refine QAt.val (Val.bin rfl rfl rfl) rfl rfl rfl ?_
   rw [bne_self_eq_false]
   refine QAt.val (Val.pickF rfl rfl) rfl rfl rfl ?_
   refine qM rfl rfl ?_
   refine QAt.yes rfl rfl ?_
   refine qM rfl rfl ?_
   refine QAt.yes rfl rfl ?_
   refine qM rfl rfl ?_
   refine QAt.yes rfl rfl ?_
   refine QAt.val (Val.indexDb (i := 0) (k * 3) (by omega) Try.underlying43 Try.sizeOf48 rfl rfl rfl (by omega) (by omega)) rfl rfl rfl ?_
   refine QAt.yes rfl rfl ?_
   refine QAt.val (Val.field (k * 3 + 2) rfl fo_48_2 rfl) rfl rfl rfl ?_
   refine QAt.yes rfl rfl ?_
   refine QAt.val (Val.loadDb (i := 0) 2 Try.isAgg36 rfl rfl rfl hx rfl) rfl rfl rfl ?_
   refine QAt.yes rfl rfl ?_
   refine qM rfl rfl ?_
   refine QAt.yes rfl rfl ?_
   refine qM rfl rfl ?_
   refine QAt.yes rfl rfl ?_
   refine QAt.val (Val.indexDb (i := 1) (k * 3) (by omega) Try.underlying43 Try.sizeOf48 rfl rfl rfl (by omega) (by omega)) rfl rfl rfl ?_
   refine QAt.yes rfl rfl ?_
   refine QAt.val (Val.field (k * 3 + 2) rfl fo_48_2 rfl) rfl rfl rfl ?_
   refine QAt.yes rfl rfl ?_
   refine QAt.val (Val.loadDb (i := 1) 2 Try.isAgg36 rfl rfl rfl hy rfl) rfl rfl rfl ?_
   refine QAt.yes rfl rfl ?_
   refine QAt.callP (fun w hw => sameWords_p _ _ xn xn w (dbt_news (hw.all _ (List.mem_of_getElem? (i := 0) rfl)) hx) (dbt_news (hw.all _ (List.mem_of_getElem? (i := 1) rfl)) hy) (by omega) (by omega)) Try.call65 rfl rfl ?_
   rw [decide_eq_true rfl]
   ·skip
    refine QAt.yes rfl rfl ?_
    refine QAt.val (Val.not rfl) rfl rfl rfl ?_
    refine QAt.val (Val.pickF rfl rfl) rfl rfl rfl ?_
    refine QAt.fin ?_
    refine At.thenN ?_
    refine At.condF rfl ?_
    refine At.skipC ?_
    refine At.blkN ?_
    refine At.thenN ?_
    refine At.region ?_
    refine tM rfl rfl ?_
    first | refine At.val (Val.addI rfl rfl (by omega) (by omega)) rfl rfl rfl ?_ | refine At.val (Val.bin rfl rfl rfl) rfl rfl rfl ?_
    refine tA rfl rfl ?_
    refine tE ?_
    exact At.again (k + 1) (show k + 1 ≤ _ by omega) (by omega) (Sub.cons rfl (Sub.cons rfl (Sub.cons (congrArg (fun z => some (Value.int IntKind.i64 z)) (by omega)) Sub.nil))) (List.Perm.refl _)
  ·skip
   try simp only [hasB, isSizeB, Bool.not_eq_true', Bool.not_eq_false', bne_iff_ne, ne_eq, bne_eq_false_iff_eq, beq_iff_eq, beq_eq_false_iff_ne, decide_eq_true_eq, decide_eq_false_iff_not, gt_iff_lt, ge_iff_le] at h2
   refine At.exitC ?_
   refine At.thenX ?_
   refine At.thenX ?_
   refine At.blkX ?_
   refine At.thenN ?_
   refine tR ?_
   refine tA rfl rfl ?_
   refine tE ?_
   refine At.retC ?_
   refine At.ret1 (.inl rfl) rfl rfl rfl (fun w hw => ?_)
   exact ⟨rfl, Rep.shutS (F := []) hw⟩

theorem looks_k (p q : Nat) (γ : Gh) (δ : Rg) (σ : Ds) (ρ : Rs) (kd dd a n : Int) (x : BitVec 64) (vB vL : Value) (w : World) (hsim : Sim σ ρ) (hd : (star [Dev p γ σ, RDev q δ ρ]).holds w) :
    Upd Try.prog 78 [.pointer (some ⟨p, 0, none⟩), .pointer (some ⟨q, 0, none⟩), .agg #[.int .i64 kd, .int .i64 dd, .int .i64 a, .int .i64 n, b64 x, vB, vL]] (star [Dev p γ σ, RDev q δ ρ]) (.bool true) (star [Dev p γ σ, RDev q δ ρ]) w := by
 refine enter (feet [star [Dev p γ σ, RDev q δ ρ]]) [Dev p γ σ, RDev q δ ρ] Try.func78 rfl Try.ntmps78 rfl (Rep.of_star (r := star [Dev p γ σ, RDev q δ ρ]) hd) ?_
 have hgd := Dev.good (hd.2 (Dev p γ σ) (by simp))
 have hwl := hgd.len
 have hsl := hsim.len
 simp only [envOf]
 refine tR ?_
 refine At.box rfl rfl rfl (fun b1 => ?_)
 refine tA rfl rfl ?_
 refine tE ?_
 refine At.seq ?_
 refine tR ?_
 refine At.val (Val.field 0 rfl fo_118_0 rfl) rfl rfl rfl ?_
 refine At.val (Val.load (i := 0) Try.isAgg3 rfl rfl rfl) rfl rfl rfl ?_
 refine tE ?_
 refine At.block ?_
 refine tR ?_
 refine At.val (Val.bin rfl rfl rfl) rfl rfl rfl ?_
 refine tA rfl rfl ?_
 refine tE ?_
 refine At.cond rfl (fun h2 => ?_) (fun h2 => ?_)
 ·skip
  try simp only [hasB, isSizeB, Bool.not_eq_true', Bool.not_eq_false', bne_iff_ne, ne_eq, bne_eq_false_iff_eq, beq_iff_eq, beq_eq_false_iff_ne, decide_eq_true_eq, decide_eq_false_iff_not, gt_iff_lt, ge_iff_le] at h2
  refine tR ?_
  refine tM rfl rfl ?_
  refine At.callK 1 rfl (fun w hw hr => size_k _ _ _ w hr) Try.call42 rfl rfl ?_
  refine tM rfl rfl ?_
  refine At.callK 2 rfl (fun w hw hr => rsize_k _ _ _ w hr) Try.call85 rfl rfl ?_
  refine At.val (Val.bin rfl rfl rfl) rfl rfl rfl ?_
  rw [show (8 * (σ.ws.length : Int) == 64 * (ρ.ls.length : Int)) = true from beq_iff_eq.2 (by omega)]
  refine tA rfl rfl ?_
  refine tE ?_
  refine At.retC ?_
  refine At.blkR ?_
  refine At.thenR ?_
  refine At.ret1 (.inl rfl) rfl rfl rfl (fun w hw => ?_)
  exact ⟨rfl, Rep.shutS (F := []) (hw.drop (List.Sublist.refl _ |>.cons _))⟩
 ·skip
  try simp only [hasB, isSizeB, Bool.not_eq_true', Bool.not_eq_false', bne_iff_ne, ne_eq, bne_eq_false_iff_eq, beq_iff_eq, beq_eq_false_iff_ne, decide_eq_true_eq, decide_eq_false_iff_not, gt_iff_lt, ge_iff_le] at h2
  refine tR ?_
  refine At.val (Val.bin rfl rfl rfl) rfl rfl rfl ?_
  refine tA rfl rfl ?_
  refine tE ?_
  refine At.cond rfl (fun h3 => ?_) (fun h3 => ?_)
  ·skip
   try simp only [hasB, isSizeB, Bool.not_eq_true', Bool.not_eq_false', bne_iff_ne, ne_eq, bne_eq_false_iff_eq, beq_iff_eq, beq_eq_false_iff_ne, decide_eq_true_eq, decide_eq_false_iff_not, gt_iff_lt, ge_iff_le] at h3
   refine tR ?_
   refine tM rfl rfl ?_
   refine At.val (Val.field 2 rfl fo_118_2 rfl) rfl rfl rfl ?_
   refine At.val (Val.load (i := 0) Try.isAgg3 rfl rfl rfl) rfl rfl rfl ?_
   refine At.callK 1 rfl (fun w hw hr => word_t _ _ _ _ w hr) Try.call35 rfl rfl ?_
   refine tM rfl rfl ?_
   refine At.val (Val.extract rfl rfl) rfl rfl rfl ?_
   refine At.val (Val.extract rfl rfl) rfl rfl rfl ?_
   refine tA rfl rfl ?_
   refine tA rfl rfl ?_
   refine tE ?_
   refine tR ?_
   refine tM rfl rfl ?_
   refine At.val (Val.field 2 rfl fo_118_2 rfl) rfl rfl rfl ?_
   refine At.val (Val.load (i := 0) Try.isAgg3 rfl rfl rfl) rfl rfl rfl ?_
   refine At.callK 2 rfl (fun w hw hr => rword_t _ _ _ σ _ w hsim hr) Try.call86 rfl rfl ?_
   refine tM rfl rfl ?_
   refine At.val (Val.extract rfl rfl) rfl rfl rfl ?_
   refine At.val (Val.extract rfl rfl) rfl rfl rfl ?_
   refine tA rfl rfl ?_
   refine tA rfl rfl ?_
   refine tE ?_
   refine tR ?_
   refine tM rfl rfl ?_
   refine tM rfl rfl ?_
   refine At.val (Val.bin rfl rfl rfl) rfl rfl rfl ?_
   rw [beq_self_eq_true]
   refine tM rfl rfl ?_
   refine At.yes rfl rfl ?_
   refine tM rfl rfl ?_
   refine At.yes rfl rfl ?_
   refine tM rfl rfl ?_
   refine At.yes rfl rfl ?_
   refine At.val (Val.bin rfl rfl rfl) rfl rfl rfl ?_
   rw [beq_self_eq_true]
   refine At.val (Val.pickT rfl rfl) rfl rfl rfl ?_
   refine tA rfl rfl ?_
   refine tE ?_
   refine At.retC ?_
   refine At.blkR ?_
   refine At.thenR ?_
   refine At.ret1 (.inl rfl) rfl rfl rfl (fun w hw => ?_)
   exact ⟨rfl, Rep.shutS (F := []) (hw.drop (List.Sublist.refl _ |>.cons _))⟩
  ·skip
   try simp only [hasB, isSizeB, Bool.not_eq_true', Bool.not_eq_false', bne_iff_ne, ne_eq, bne_eq_false_iff_eq, beq_iff_eq, beq_eq_false_iff_ne, decide_eq_true_eq, decide_eq_false_iff_not, gt_iff_lt, ge_iff_le] at h3
   refine At.skipC ?_
   refine At.blkN ?_
   refine At.thenN ?_
   refine tR ?_
   refine tM rfl rfl ?_
   refine At.val (Val.field 2 rfl fo_118_2 rfl) rfl rfl rfl ?_
   refine At.val (Val.load (i := 0) Try.isAgg3 rfl rfl rfl) rfl rfl rfl ?_
   refine At.val (Val.field 3 rfl fo_118_3 rfl) rfl rfl rfl ?_
   refine At.val (Val.load (i := 0) Try.isAgg3 rfl rfl rfl) rfl rfl rfl ?_
   refine At.callRKT 1 rfl (fun w hw hr => read_t _ _ _ _ _ w hr) Try.call47 rfl rfl (fun v4 => ?_)
   refine tM rfl rfl ?_
   refine At.val (Val.extract rfl rfl) rfl rfl rfl ?_
   refine At.val (Val.extract rfl rfl) rfl rfl rfl ?_
   refine tA rfl rfl ?_
   refine tA rfl rfl ?_
   refine tE ?_
   refine tR ?_
   refine tM rfl rfl ?_
   refine At.val (Val.field 2 rfl fo_118_2 rfl) rfl rfl rfl ?_
   refine At.val (Val.load (i := 1) Try.isAgg3 rfl rfl rfl) rfl rfl rfl ?_
   refine At.val (Val.field 3 rfl fo_118_3 rfl) rfl rfl rfl ?_
   refine At.val (Val.load (i := 1) Try.isAgg3 rfl rfl rfl) rfl rfl rfl ?_
   refine At.callRKT 3 rfl (fun w hw hr => rread_t _ _ _ σ _ _ w hsim hwl hr) Try.call87 rfl rfl (fun v5 => ?_)
   refine tM rfl rfl ?_
   refine At.val (Val.extract rfl rfl) rfl rfl rfl ?_
   refine At.val (Val.extract rfl rfl) rfl rfl rfl ?_
   refine tA rfl rfl ?_
   refine tA rfl rfl ?_
   refine tE ?_
   refine tR ?_
   refine tM rfl rfl ?_
   refine tM rfl rfl ?_
   refine At.callP (fun w hw => sameBytes_p _ _ _ _ w (row_rd (hw.row (i := 1) rfl) (by decide)) (row_rd (hw.row (i := 0) rfl) (by decide)) (by have := readT_len σ a n; omega) (by have := readT_len σ a n; omega)) Try.call28 rfl rfl ?_
   rw [decide_eq_true rfl]
   ·skip
    refine tM rfl rfl ?_
    refine At.yes rfl rfl ?_
    refine tM rfl rfl ?_
    refine At.yes rfl rfl ?_
    refine tM rfl rfl ?_
    refine At.yes rfl rfl ?_
    refine At.val (Val.bin rfl rfl rfl) rfl rfl rfl ?_
    rw [beq_self_eq_true]
    refine At.val (Val.pickT rfl rfl) rfl rfl rfl ?_
    refine tA rfl rfl ?_
    refine tE ?_
    refine At.retC ?_
    refine At.ret1 (.inl rfl) rfl rfl rfl (fun w hw => ?_)
    exact ⟨rfl, Rep.shutS (F := []) (hw.drop (List.Sublist.refl _ |>.cons _ |>.cons _ |>.cons _))⟩

theorem tells_k (p q : Nat) (γ : Gh) (δ : Rg) (σ : Ds) (ρ : Rs) (kd dd a n : Int) (x : BitVec 64) (vB vL : Value) (w : World) (hsim : Sim σ ρ) (cs : List Int) (hvL : RdI w vL cs) (hoL : Off vL (cs.map (Value.int .i64)) (feet [star [Dev p γ σ, RDev q δ ρ]])) (hcl : cs.length ≤ 17592186044416) (hst : σ.steps ≤ 1099511627775) (hd : (star [Dev p γ σ, RDev q δ ρ]).holds w) :
    Upd Try.prog 80 [.pointer (some ⟨p, 0, none⟩), .pointer (some ⟨q, 0, none⟩), .agg #[.int .i64 kd, .int .i64 dd, .int .i64 a, .int .i64 n, b64 x, vB, vL]] (star [Dev p γ σ, RDev q δ ρ]) (.bool true) (star [Dev p γ σ, RDev q δ ρ]) w := by
 refine enter (feet [star [Dev p γ σ, RDev q δ ρ]]) [Dev p γ σ, RDev q δ ρ] Try.func80 rfl Try.ntmps80 rfl (Rep.of_star (r := star [Dev p γ σ, RDev q δ ρ]) hd) ?_
 have hgd := Dev.good (hd.2 (Dev p γ σ) (by simp))
 have hwl := hgd.len
 have hsl := hsim.len
 have hnw : ∀ u ∈ σ.ws, u.news.length ≤ 1099511627775 := fun u hu => by have := (hgd.word u hu).2; omega
 simp only [envOf]
 refine tR ?_
 refine At.box rfl rfl rfl (fun b1 => ?_)
 refine tA rfl rfl ?_
 refine tE ?_
 refine At.seq ?_
 refine tR ?_
 refine At.val (Val.field 0 rfl fo_118_0 rfl) rfl rfl rfl ?_
 refine At.val (Val.load (i := 0) Try.isAgg3 rfl rfl rfl) rfl rfl rfl ?_
 refine tE ?_
 refine At.block ?_
 refine tR ?_
 refine At.val (Val.bin rfl rfl rfl) rfl rfl rfl ?_
 refine tA rfl rfl ?_
 refine tE ?_
 refine At.cond rfl (fun h2 => ?_) (fun h2 => ?_)
 ·skip
  try simp only [hasB, isSizeB, Bool.not_eq_true', Bool.not_eq_false', bne_iff_ne, ne_eq, bne_eq_false_iff_eq, beq_iff_eq, beq_eq_false_iff_ne, decide_eq_true_eq, decide_eq_false_iff_not, gt_iff_lt, ge_iff_le] at h2
  refine tR ?_
  refine tM rfl rfl ?_
  refine At.callDB 1 rfl (fun w hw hr => doubts_k _ _ _ w hr) Try.call27 rfl rfl (fun v3 Q4 hQ5 => ?_)
  refine tM rfl rfl ?_
  refine At.callDB 3 rfl (fun w hw hr => rdoubts_s _ _ _ σ w hsim hwl hr) Try.call97 rfl rfl (fun v6 Q7 hQ8 => ?_)
  refine At.bring 1 rfl ?_
  simp only [ec0, ecS]
  have hQl9 : Q4.length ≤ 65536 := by have h1 := congrArg List.length hQ5; rw [List.length_map, dts_length] at h1; have h2 := dk_le σ.ws; omega
  refine At.callKS [dbtR v3 Q4, dbtR v6 Q7] rfl (fun w hw hr => sameDoubts_k _ _ _ _ w (by rw [hQ5, hQ8]) hQl9 (fun z hz => by obtain ⟨k, hk⟩ := List.getElem?_of_mem hz; exact dts_bd hgd (fst_at hQ5 hk)) hr) Try.call96 rfl rfl ?_
  refine tA rfl rfl ?_
  refine tE ?_
  refine At.retC ?_
  refine At.blkR ?_
  refine At.thenR ?_
  refine At.ret1 (.inl rfl) rfl rfl rfl (fun w hw => ?_)
  exact ⟨rfl, Rep.shutS (F := []) (hw.drop (List.Sublist.refl _ |>.cons _ |>.cons _ |>.cons _))⟩
 ·skip
  try simp only [hasB, isSizeB, Bool.not_eq_true', Bool.not_eq_false', bne_iff_ne, ne_eq, bne_eq_false_iff_eq, beq_iff_eq, beq_eq_false_iff_ne, decide_eq_true_eq, decide_eq_false_iff_not, gt_iff_lt, ge_iff_le] at h2
  refine tR ?_
  refine At.val (Val.bin rfl rfl rfl) rfl rfl rfl ?_
  refine tA rfl rfl ?_
  refine tE ?_
  refine At.cond rfl (fun h9 => ?_) (fun h9 => ?_)
  ·skip
   try simp only [hasB, isSizeB, Bool.not_eq_true', Bool.not_eq_false', bne_iff_ne, ne_eq, bne_eq_false_iff_eq, beq_iff_eq, beq_eq_false_iff_ne, decide_eq_true_eq, decide_eq_false_iff_not, gt_iff_lt, ge_iff_le] at h9
   refine tR ?_
   refine At.val (Val.field 6 rfl fo_118_6 rfl) rfl rfl rfl ?_
   refine At.val (Val.load (i := 0) Try.isAgg23 rfl rfl rfl) rfl rfl rfl ?_
   refine At.callN (fun w hw => copyInts_n vL cs w (hvL.keep hw hoL) hcl) Try.call98 rfl rfl (fun v10 => ?_)
   refine tA rfl rfl ?_
   refine tE ?_
   refine tR ?_
   refine tM rfl rfl ?_
   refine tM rfl rfl ?_
   refine At.callRK 2 rfl (fun w hw hr => crash_k _ _ _ _ cs w (row_rd (hw.row (i := 0) rfl) (by decide)) (hw.offRow (i := 0) (j := 2) rfl rfl (by decide)) hr) Try.call21 rfl rfl (fun v11 => ?_)
   refine tA rfl rfl ?_
   refine tE ?_
   refine At.seq ?_
   refine tR ?_
   refine tA rfl rfl ?_
   refine tE ?_
   refine At.block ?_
   skip
   refine At.loop (σ := Nat) (fun k => k ≤ cs.length) (fun k => [(0, .pointer (some ⟨p, 0, none⟩)), (1, .pointer (some ⟨q, 0, none⟩)), (5, .pointer (some ⟨b1, 0, none⟩)), (7, v10), (8, v11), (9, .int .i64 (k : Int))]) (fun k => [rowR v11 5 1 ((wbytes (picked σ.ws (pkC σ.ws cs))).length) ((wbytes (picked σ.ws (pkC σ.ws cs))).map bv), rowR v10 3 1 (cs.length) (cs.map (Value.int .i64)), blk b1 118 ([.int .i64 kd, .int .i64 dd, .int .i64 a, .int .i64 n, b64 x, vB, vL]), Dev p γ (σ), RDev q δ (ρ)]) (fun k => cs.length - k) 0 (Nat.zero_le _) (Sub.cons rfl (Sub.cons rfl (Sub.cons rfl (Sub.cons rfl (Sub.cons rfl (Sub.cons rfl Sub.nil)))))) (List.Perm.refl _) ?_
   intro k hs
   refine At.seq ?_
   refine tR ?_
   refine tM rfl rfl ?_
   refine tM rfl rfl ?_
   refine At.val (Val.lenRow (i := 1) Try.underlying23 rfl rfl) rfl rfl rfl ?_
   refine At.val (Val.bin rfl rfl rfl) rfl rfl rfl ?_
   refine tE ?_
   refine At.cond rfl (fun h12 => ?_) (fun h12 => ?_)
   ·skip
    try simp only [hasB, isSizeB, Bool.not_eq_true', Bool.not_eq_false', bne_iff_ne, ne_eq, bne_eq_false_iff_eq, beq_iff_eq, beq_eq_false_iff_ne, decide_eq_true_eq, decide_eq_false_iff_not, gt_iff_lt, ge_iff_le] at h12
    obtain ⟨z, hz⟩ : ∃ z, cs[k]? = some z := ⟨_, List.getElem?_eq_getElem (by omega)⟩
    refine At.skipC ?_
    refine At.thenN ?_
    refine At.seq ?_
    refine At.block ?_
    refine At.seq ?_
    refine At.quiet rfl (by decide +kernel) ?_
    refine qM rfl rfl ?_
    refine qM rfl rfl ?_
    refine QAt.val (Val.indexRow (i := 1) k (by omega) Try.underlying23 Try.sizeOf3 rfl rfl rfl (by omega) (by omega)) rfl rfl rfl ?_
    refine QAt.val (Val.loadRow (i := 1) Try.isAgg3 rfl rfl (by rw [List.getElem?_map, hz]; rfl)) rfl rfl rfl ?_
    refine QAt.val (Val.field 6 rfl fo_118_6 rfl) rfl rfl rfl ?_
    refine QAt.val (Val.load (i := 2) Try.isAgg23 rfl rfl rfl) rfl rfl rfl ?_
    refine qM rfl rfl ?_
    refine QAt.idxIO hvL hoL Try.underlying23 Try.sizeOf3 rfl rfl hz rfl rfl (fun bx ox hcc hox => ?_)
    refine QAt.val (Val.loadOld Try.isAgg3 rfl hcc hox) rfl rfl rfl ?_
    refine QAt.val (Val.bin rfl rfl rfl) rfl rfl rfl ?_
    rw [bne_self_eq_false]
    refine QAt.fin ?_
    refine At.thenN ?_
    refine At.condF rfl ?_
    refine At.skipC ?_
    refine At.blkN ?_
    refine At.thenN ?_
    refine At.region ?_
    refine tM rfl rfl ?_
    first | refine At.val (Val.addI rfl rfl (by omega) (by omega)) rfl rfl rfl ?_ | refine At.val (Val.bin rfl rfl rfl) rfl rfl rfl ?_
    refine tA rfl rfl ?_
    refine tE ?_
    exact At.again (k + 1) (show k + 1 ≤ _ by omega) (by omega) (Sub.cons rfl (Sub.cons rfl (Sub.cons rfl (Sub.cons rfl (Sub.cons rfl (Sub.cons (congrArg (fun z => some (Value.int IntKind.i64 z)) (by omega)) Sub.nil)))))) (List.Perm.refl _)
   ·skip
    try simp only [hasB, isSizeB, Bool.not_eq_true', Bool.not_eq_false', bne_iff_ne, ne_eq, bne_eq_false_iff_eq, beq_iff_eq, beq_eq_false_iff_ne, decide_eq_true_eq, decide_eq_false_iff_not, gt_iff_lt, ge_iff_le] at h12
    refine At.exitC ?_
    refine At.thenX ?_
    refine At.thenX ?_
    refine At.blkX ?_
    refine At.thenN ?_
    refine tR ?_
    refine tM rfl rfl ?_
    refine tM rfl rfl ?_
    refine At.val (Val.field 6 rfl fo_118_6 rfl) rfl rfl rfl ?_
    refine At.val (Val.load (i := 2) Try.isAgg23 rfl rfl rfl) rfl rfl rfl ?_
    refine At.callRK 4 rfl (fun w hw hr => rcrash_s _ _ _ σ vL cs w hsim hwl hnw (hvL.keep hw hoL) (Rep.offOld hw hvL hoL (List.mem_of_getElem? (i := 4) rfl)) hr) Try.call83 rfl rfl (fun v13 => ?_)
    refine At.callP (fun w hw => sameBytes_p _ _ _ _ w (row_rd (hw.row (i := 1) rfl) (by decide)) (row_rd (hw.row (i := 0) rfl) (by decide)) (by rw [wbytes_length, picked_length]; omega) (by rw [wbytes_length, picked_length]; omega)) Try.call28 rfl rfl ?_
    rw [decide_eq_true rfl]
    ·skip
     refine tA rfl rfl ?_
     refine tE ?_
     refine At.retC ?_
     refine At.blkR ?_
     refine At.thenR ?_
     refine At.ret1 (.inl rfl) rfl rfl rfl (fun w hw => ?_)
     exact ⟨rfl, Rep.shutS (F := []) (hw.drop (List.Sublist.refl _ |>.cons _ |>.cons _ |>.cons _ |>.cons _))⟩
  ·skip
   try simp only [hasB, isSizeB, Bool.not_eq_true', Bool.not_eq_false', bne_iff_ne, ne_eq, bne_eq_false_iff_eq, beq_iff_eq, beq_eq_false_iff_ne, decide_eq_true_eq, decide_eq_false_iff_not, gt_iff_lt, ge_iff_le] at h9
   refine At.skipC ?_
   refine At.blkN ?_
   refine At.thenN ?_
   refine tR ?_
   refine tM rfl rfl ?_
   refine At.callRK 1 rfl (fun w hw hr => view_k _ _ _ w hr) Try.call22 rfl rfl (fun v14 => ?_)
   refine tM rfl rfl ?_
   refine At.callRK 3 rfl (fun w hw hr => rview_s _ _ _ σ w hsim hwl hr) Try.call99 rfl rfl (fun v15 => ?_)
   refine At.callP (fun w hw => sameBytes_p _ _ _ _ w (row_rd (hw.row (i := 1) rfl) (by decide)) (row_rd (hw.row (i := 0) rfl) (by decide)) (by rw [wbytes_length, viewWs, List.length_map]; omega) (by rw [wbytes_length, viewWs, List.length_map]; omega)) Try.call28 rfl rfl ?_
   rw [decide_eq_true rfl]
   ·skip
    refine tA rfl rfl ?_
    refine tE ?_
    refine At.retC ?_
    refine At.ret1 (.inl rfl) rfl rfl rfl (fun w hw => ?_)
    exact ⟨rfl, Rep.shutS (F := []) (hw.drop (List.Sublist.refl _ |>.cons _ |>.cons _ |>.cons _))⟩

theorem stepsB_k (p q : Nat) (γ : Gh) (δ : Rg) (σ : Ds) (ρ : Rs) (kd dd a n : Int) (x : BitVec 64) (vB vL : Value) (w : World) (hsim : Sim σ ρ) (lB : List UInt8) (hvB : RdB w vB lB) (hoB : Off vB (lB.map bv) (feet [star [Dev p γ σ, RDev q δ ρ]])) (hbl : lB.length ≤ 140737488355328) (hn : n ≤ 9223372036854775807) (hst : σ.steps + 65537 ≤ 1099511627776) (hd : (star [Dev p γ σ, RDev q δ ρ]).holds w) :
    BothP Try.prog 79 [.pointer (some ⟨p, 0, none⟩), .pointer (some ⟨q, 0, none⟩), .agg #[.int .i64 kd, .int .i64 dd, .int .i64 a, .int .i64 n, b64 x, vB, vL]] p q γ δ σ ρ w := by
 refine enter (feet [star [Dev p γ σ, RDev q δ ρ]]) [Dev p γ σ, RDev q δ ρ] Try.func79 rfl Try.ntmps79 rfl (Rep.of_star (r := star [Dev p γ σ, RDev q δ ρ]) hd) ?_
 have hgd := Dev.good (hd.2 (Dev p γ σ) (by simp))
 have hwl := hgd.len
 have hsl := hsim.len
 simp only [envOf]
 refine tR ?_
 refine At.box rfl rfl rfl (fun b1 => ?_)
 refine tA rfl rfl ?_
 refine tE ?_
 refine tR ?_
 refine tA rfl rfl ?_
 refine tE ?_
 refine tR ?_
 refine tA rfl rfl ?_
 refine tE ?_
 refine At.seq ?_
 refine tR ?_
 refine At.val (Val.field 0 rfl fo_118_0 rfl) rfl rfl rfl ?_
 refine At.val (Val.load (i := 0) Try.isAgg3 rfl rfl rfl) rfl rfl rfl ?_
 refine tE ?_
 refine At.block ?_
 refine tR ?_
 refine At.val (Val.bin rfl rfl rfl) rfl rfl rfl ?_
 refine tA rfl rfl ?_
 refine tE ?_
 refine At.cond rfl (fun h2 => ?_) (fun h2 => ?_)
 ·skip
  try simp only [hasB, isSizeB, Bool.not_eq_true', Bool.not_eq_false', bne_iff_ne, ne_eq, bne_eq_false_iff_eq, beq_iff_eq, beq_eq_false_iff_ne, decide_eq_true_eq, decide_eq_false_iff_not, gt_iff_lt, ge_iff_le] at h2
  refine tR ?_
  refine tM rfl rfl ?_
  refine At.val (Val.field 2 rfl fo_118_2 rfl) rfl rfl rfl ?_
  refine At.val (Val.load (i := 0) Try.isAgg3 rfl rfl rfl) rfl rfl rfl ?_
  refine At.val (Val.field 4 rfl fo_118_4 rfl) rfl rfl rfl ?_
  refine At.val (Val.load (i := 0) Try.isAgg30 rfl rfl rfl) rfl rfl rfl ?_
  refine At.callD 1 rfl (fun w hw hr => store_t _ _ _ _ _ w (by omega) hr) Try.call31 rfl rfl (fun y3 => ?_)
  simp only [sc0, scS]
  refine tA rfl rfl ?_
  refine tE ?_
  refine At.region ?_
  refine tM rfl rfl ?_
  refine At.val (Val.field 2 rfl fo_118_2 rfl) rfl rfl rfl ?_
  refine At.val (Val.load (i := 0) Try.isAgg3 rfl rfl rfl) rfl rfl rfl ?_
  refine At.val (Val.field 4 rfl fo_118_4 rfl) rfl rfl rfl ?_
  refine At.val (Val.load (i := 0) Try.isAgg30 rfl rfl rfl) rfl rfl rfl ?_
  refine At.callRP 2 rfl (fun w hw hr => rstore_t _ _ _ σ _ _ w hsim (by omega) hr) Try.call88 rfl rfl (fun y4 r5 hs6 => ?_)
  simp only [sc0, scS]
  refine tA rfl rfl ?_
  refine At.nil ?_
  refine At.blkN ?_
  refine At.thenN ?_
  refine tR ?_
  refine tM rfl rfl ?_
  refine tM rfl rfl ?_
  refine At.val (Val.bin rfl rfl rfl) rfl rfl rfl ?_
  rw [beq_self_eq_true]
  refine tA rfl rfl ?_
  refine tE ?_
  refine At.retC ?_
  refine At.ret1 (.inl rfl) rfl rfl rfl (fun w hw => ?_)
  exact ⟨y3, (storeT σ a x).2, y4, r5, rfl, hs6, (goes_store σ a x).1, (goes_store σ a x).2, Rep.shutS (F := []) (hw.drop (List.Sublist.refl _ |>.cons _))⟩
 ·skip
  try simp only [hasB, isSizeB, Bool.not_eq_true', Bool.not_eq_false', bne_iff_ne, ne_eq, bne_eq_false_iff_eq, beq_iff_eq, beq_eq_false_iff_ne, decide_eq_true_eq, decide_eq_false_iff_not, gt_iff_lt, ge_iff_le] at h2
  refine tR ?_
  refine At.val (Val.bin rfl rfl rfl) rfl rfl rfl ?_
  refine tA rfl rfl ?_
  refine tE ?_
  refine At.cond rfl (fun h7 => ?_) (fun h7 => ?_)
  ·skip
   try simp only [hasB, isSizeB, Bool.not_eq_true', Bool.not_eq_false', bne_iff_ne, ne_eq, bne_eq_false_iff_eq, beq_iff_eq, beq_eq_false_iff_ne, decide_eq_true_eq, decide_eq_false_iff_not, gt_iff_lt, ge_iff_le] at h7
   refine tR ?_
   refine At.val (Val.field 5 rfl fo_118_5 rfl) rfl rfl rfl ?_
   refine At.val (Val.load (i := 0) Try.isAgg33 rfl rfl rfl) rfl rfl rfl ?_
   refine At.callN (fun w hw => copyBytes_n vB lB w (hvB.keep hw hoB) hbl) Try.call41 rfl rfl (fun v8 => ?_)
   refine tA rfl rfl ?_
   refine tE ?_
   refine tR ?_
   refine tM rfl rfl ?_
   refine At.val (Val.field 2 rfl fo_118_2 rfl) rfl rfl rfl ?_
   refine At.val (Val.load (i := 1) Try.isAgg3 rfl rfl rfl) rfl rfl rfl ?_
   refine tM rfl rfl ?_
   refine At.callD 2 rfl (fun w hw hr => write_t _ _ _ _ _ lB w (row_rd (hw.row (i := 0) rfl) (by decide)) (hw.offRow (i := 0) (j := 2) rfl rfl (by decide)) (by omega) hr) Try.call43 rfl rfl (fun y9 => ?_)
   simp only [sc0, scS]
   refine tA rfl rfl ?_
   refine tE ?_
   refine tR ?_
   refine tM rfl rfl ?_
   refine At.val (Val.field 2 rfl fo_118_2 rfl) rfl rfl rfl ?_
   refine At.val (Val.load (i := 1) Try.isAgg3 rfl rfl rfl) rfl rfl rfl ?_
   refine At.val (Val.field 5 rfl fo_118_5 rfl) rfl rfl rfl ?_
   refine At.val (Val.load (i := 1) Try.isAgg33 rfl rfl rfl) rfl rfl rfl ?_
   refine At.callRP 3 rfl (fun w hw hr => rwrite_t _ _ _ σ _ vB lB w hsim (hvB.keep hw hoB) (Rep.offOld hw hvB hoB (List.mem_of_getElem? (i := 3) rfl)) (by omega) hwl hr) Try.call89 rfl rfl (fun y10 r11 hs12 => ?_)
   simp only [sc0, scS]
   refine tA rfl rfl ?_
   refine tE ?_
   refine At.seq ?_
   refine tR ?_
   refine tM rfl rfl ?_
   refine At.val (Val.field 5 rfl fo_118_5 rfl) rfl rfl rfl ?_
   refine At.val (Val.load (i := 1) Try.isAgg33 rfl rfl rfl) rfl rfl rfl ?_
   refine At.callP (fun w hw => sameBytes_p _ _ lB lB w (row_rd (hw.row (i := 0) rfl) (by decide)) (hvB.keep hw hoB) hbl hbl) Try.call28 rfl rfl ?_
   rw [decide_eq_true rfl]
   ·skip
    refine At.val (Val.not rfl) rfl rfl rfl ?_
    refine tE ?_
    refine At.condF rfl ?_
    refine At.skipC ?_
    refine At.thenN ?_
    refine tR ?_
    refine tA rfl rfl ?_
    refine tE ?_
    refine At.block ?_
    skip
    refine At.loop (σ := Nat × List UInt8) (fun s => s.1 ≤ lB.length ∧ s.2.length = lB.length) (fun s => [(5, .pointer (some ⟨b1, 0, none⟩)), (7, .int .i64 (writeT σ a lB).1), (8, .int .i64 (writeT σ a lB).1), (9, v8), (10, .int .i64 (s.1 : Int))]) (fun s => [brow 5 v8 s.2, blk b1 118 ([.int .i64 kd, .int .i64 dd, .int .i64 a, .int .i64 n, b64 x, vB, vL]), Dev p y9 ((writeT σ a lB).2), RDev q y10 (r11)]) (fun s => lB.length - s.1) (0, lB) ⟨Nat.zero_le _, rfl⟩ (Sub.cons rfl (Sub.cons rfl (Sub.cons rfl (Sub.cons rfl (Sub.cons rfl Sub.nil))))) (List.Perm.refl _) ?_
    intro s hs
    obtain ⟨k, li⟩ := s
    dsimp only at hs ⊢
    have hil := hs.2
    refine At.seq ?_
    refine tR ?_
    refine tM rfl rfl ?_
    refine tM rfl rfl ?_
    refine At.val (Val.lenRow (i := 0) Try.underlying33 rfl rfl) rfl rfl rfl ?_
    refine At.val (Val.bin rfl rfl rfl) rfl rfl rfl ?_
    refine tE ?_
    refine At.cond rfl (fun h13 => ?_) (fun h13 => ?_)
    ·skip
     try simp only [hasB, isSizeB, Bool.not_eq_true', Bool.not_eq_false', bne_iff_ne, ne_eq, bne_eq_false_iff_eq, beq_iff_eq, beq_eq_false_iff_ne, decide_eq_true_eq, decide_eq_false_iff_not, gt_iff_lt, ge_iff_le] at h13
     refine At.skipC ?_
     refine At.thenN ?_
     refine At.seq ?_
     refine At.block ?_
     refine At.region ?_
     refine tM rfl rfl ?_
     refine tM rfl rfl ?_
     refine tM rfl rfl ?_
     refine tM rfl rfl ?_
     refine At.idxRowB (i := 0) rfl Try.underlying33 Try.sizeOf5 rfl rfl (by omega) (by omega) rfl rfl (fun q14 hq15 hl16 => ?_)
     refine At.val (Val.loadRowB (i := 0) Try.isAgg5 rfl rfl hq15) rfl rfl rfl ?_
     refine At.val (Val.bin rfl rfl rfl) rfl rfl rfl ?_
     rw [show ((q14.toNat : Nat) : Int) + 85 = ((q14.toNat + 85 : Nat) : Int) from by omega, wrap_u8_nat]
     refine At.idxRowB (i := 0) rfl Try.underlying33 Try.sizeOf5 rfl rfl (by omega) (by omega) rfl rfl (fun q17 hq18 hl19 => ?_)
     refine At.storeRowB (i := 0) (c := UInt8.ofNat (q14.toNat + 85)) Try.sizeOf5 rfl rfl rfl (by omega) ?_
     simp only [sc0, scS]
     refine At.nil ?_
     refine At.blkN ?_
     refine At.thenN ?_
     refine At.region ?_
     refine tM rfl rfl ?_
     first | refine At.val (Val.addI rfl rfl (by omega) (by omega)) rfl rfl rfl ?_ | refine At.val (Val.bin rfl rfl rfl) rfl rfl rfl ?_
     refine tA rfl rfl ?_
     refine tE ?_
     exact At.again (k + 1, li.set k _) ⟨(show k + 1 ≤ _ by omega), (by show (li.set _ _).length = _; rw [List.length_set]; exact hs.2)⟩ (by dsimp only; omega) (Sub.cons rfl (Sub.cons rfl (Sub.cons rfl (Sub.cons rfl (Sub.cons (congrArg (fun z => some (Value.int IntKind.i64 z)) (by omega)) Sub.nil))))) (List.Perm.refl _)
    ·skip
     try simp only [hasB, isSizeB, Bool.not_eq_true', Bool.not_eq_false', bne_iff_ne, ne_eq, bne_eq_false_iff_eq, beq_iff_eq, beq_eq_false_iff_ne, decide_eq_true_eq, decide_eq_false_iff_not, gt_iff_lt, ge_iff_le] at h13
     refine At.exitC ?_
     refine At.thenX ?_
     refine At.thenX ?_
     refine At.blkX ?_
     refine At.blkN ?_
     refine At.thenN ?_
     refine tR ?_
     refine tM rfl rfl ?_
     refine tM rfl rfl ?_
     refine At.val (Val.bin rfl rfl rfl) rfl rfl rfl ?_
     rw [beq_self_eq_true]
     refine tA rfl rfl ?_
     refine tE ?_
     refine At.retC ?_
     refine At.ret1 (.inl rfl) rfl rfl rfl (fun w hw => ?_)
     exact ⟨y9, (writeT σ a lB).2, y10, r11, rfl, hs12, (goes_write a lB hwl).1, (goes_write a lB hwl).2, Rep.shutS (F := []) (hw.drop (List.Sublist.refl _ |>.cons _ |>.cons _))⟩
  ·skip
   try simp only [hasB, isSizeB, Bool.not_eq_true', Bool.not_eq_false', bne_iff_ne, ne_eq, bne_eq_false_iff_eq, beq_iff_eq, beq_eq_false_iff_ne, decide_eq_true_eq, decide_eq_false_iff_not, gt_iff_lt, ge_iff_le] at h7
   refine tR ?_
   refine At.val (Val.bin rfl rfl rfl) rfl rfl rfl ?_
   refine tA rfl rfl ?_
   refine tE ?_
   refine At.cond rfl (fun h20 => ?_) (fun h20 => ?_)
   ·skip
    try simp only [hasB, isSizeB, Bool.not_eq_true', Bool.not_eq_false', bne_iff_ne, ne_eq, bne_eq_false_iff_eq, beq_iff_eq, beq_eq_false_iff_ne, decide_eq_true_eq, decide_eq_false_iff_not, gt_iff_lt, ge_iff_le] at h20
    refine tR ?_
    refine tM rfl rfl ?_
    refine At.val (Val.field 2 rfl fo_118_2 rfl) rfl rfl rfl ?_
    refine At.val (Val.load (i := 0) Try.isAgg3 rfl rfl rfl) rfl rfl rfl ?_
    refine At.callD 1 rfl (fun w hw hr => flush_t _ _ _ _ w (by omega) hr) Try.call32 rfl rfl (fun y21 => ?_)
    simp only [sc0, scS]
    refine tA rfl rfl ?_
    refine tE ?_
    refine At.region ?_
    refine tM rfl rfl ?_
    refine At.val (Val.field 2 rfl fo_118_2 rfl) rfl rfl rfl ?_
    refine At.val (Val.load (i := 0) Try.isAgg3 rfl rfl rfl) rfl rfl rfl ?_
    refine At.callRP 2 rfl (fun w hw hr => rflush_t _ _ _ σ _ w hsim (by omega) hr) Try.call90 rfl rfl (fun y22 r23 hs24 => ?_)
    simp only [sc0, scS]
    refine tA rfl rfl ?_
    refine At.nil ?_
    refine At.blkN ?_
    refine At.thenN ?_
    refine tR ?_
    refine tM rfl rfl ?_
    refine tM rfl rfl ?_
    refine At.val (Val.bin rfl rfl rfl) rfl rfl rfl ?_
    rw [beq_self_eq_true]
    refine tA rfl rfl ?_
    refine tE ?_
    refine At.retC ?_
    refine At.ret1 (.inl rfl) rfl rfl rfl (fun w hw => ?_)
    exact ⟨y21, (flushT σ a).2, y22, r23, rfl, hs24, (goes_flush σ a).1, (goes_flush σ a).2, Rep.shutS (F := []) (hw.drop (List.Sublist.refl _ |>.cons _))⟩
   ·skip
    try simp only [hasB, isSizeB, Bool.not_eq_true', Bool.not_eq_false', bne_iff_ne, ne_eq, bne_eq_false_iff_eq, beq_iff_eq, beq_eq_false_iff_ne, decide_eq_true_eq, decide_eq_false_iff_not, gt_iff_lt, ge_iff_le] at h20
    refine tR ?_
    refine At.val (Val.bin rfl rfl rfl) rfl rfl rfl ?_
    refine tA rfl rfl ?_
    refine tE ?_
    refine At.cond rfl (fun h25 => ?_) (fun h25 => ?_)
    ·skip
     try simp only [hasB, isSizeB, Bool.not_eq_true', Bool.not_eq_false', bne_iff_ne, ne_eq, bne_eq_false_iff_eq, beq_iff_eq, beq_eq_false_iff_ne, decide_eq_true_eq, decide_eq_false_iff_not, gt_iff_lt, ge_iff_le] at h25
     refine tR ?_
     refine tM rfl rfl ?_
     refine At.val (Val.field 2 rfl fo_118_2 rfl) rfl rfl rfl ?_
     refine At.val (Val.load (i := 0) Try.isAgg3 rfl rfl rfl) rfl rfl rfl ?_
     refine At.val (Val.field 3 rfl fo_118_3 rfl) rfl rfl rfl ?_
     refine At.val (Val.load (i := 0) Try.isAgg3 rfl rfl rfl) rfl rfl rfl ?_
     refine At.callD 1 rfl (fun w hw hr => flushAll_t _ _ _ _ _ w (by omega) hr) Try.call40 rfl rfl (fun y26 => ?_)
     simp only [sc0, scS]
     refine tA rfl rfl ?_
     refine tE ?_
     refine At.region ?_
     refine tM rfl rfl ?_
     refine At.val (Val.field 2 rfl fo_118_2 rfl) rfl rfl rfl ?_
     refine At.val (Val.load (i := 0) Try.isAgg3 rfl rfl rfl) rfl rfl rfl ?_
     refine At.val (Val.field 3 rfl fo_118_3 rfl) rfl rfl rfl ?_
     refine At.val (Val.load (i := 0) Try.isAgg3 rfl rfl rfl) rfl rfl rfl ?_
     refine At.callRP 2 rfl (fun w hw hr => rflushAll_t _ _ _ σ _ _ w hsim (by omega) hwl hr) Try.call91 rfl rfl (fun y27 r28 hs29 => ?_)
     simp only [sc0, scS]
     refine tA rfl rfl ?_
     refine At.nil ?_
     refine At.blkN ?_
     refine At.thenN ?_
     refine tR ?_
     refine tM rfl rfl ?_
     refine tM rfl rfl ?_
     refine At.val (Val.bin rfl rfl rfl) rfl rfl rfl ?_
     rw [beq_self_eq_true]
     refine tA rfl rfl ?_
     refine tE ?_
     refine At.retC ?_
     refine At.ret1 (.inl rfl) rfl rfl rfl (fun w hw => ?_)
     exact ⟨y26, (flushAllT σ a n).2, y27, r28, rfl, hs29, (goes_flushAll a n hwl).1, (goes_flushAll a n hwl).2, Rep.shutS (F := []) (hw.drop (List.Sublist.refl _ |>.cons _))⟩
    ·skip
     try simp only [hasB, isSizeB, Bool.not_eq_true', Bool.not_eq_false', bne_iff_ne, ne_eq, bne_eq_false_iff_eq, beq_iff_eq, beq_eq_false_iff_ne, decide_eq_true_eq, decide_eq_false_iff_not, gt_iff_lt, ge_iff_le] at h25
     refine tR ?_
     refine At.val (Val.bin rfl rfl rfl) rfl rfl rfl ?_
     refine tA rfl rfl ?_
     refine tE ?_
     refine At.cond rfl (fun h30 => ?_) (fun h30 => ?_)
     ·skip
      try simp only [hasB, isSizeB, Bool.not_eq_true', Bool.not_eq_false', bne_iff_ne, ne_eq, bne_eq_false_iff_eq, beq_iff_eq, beq_eq_false_iff_ne, decide_eq_true_eq, decide_eq_false_iff_not, gt_iff_lt, ge_iff_le] at h30
      refine tR ?_
      refine tM rfl rfl ?_
      refine At.callD 1 rfl (fun w hw hr => fence_t _ _ _ w (by omega) hr) Try.call33 rfl rfl (fun y31 => ?_)
      simp only [sc0, scS]
      refine tA rfl rfl ?_
      refine tE ?_
      refine At.region ?_
      refine tM rfl rfl ?_
      refine At.callRP 2 rfl (fun w hw hr => rfence_t _ _ _ σ w hsim (by omega) hr) Try.call92 rfl rfl (fun y32 r33 hs34 => ?_)
      simp only [sc0, scS]
      refine tA rfl rfl ?_
      refine At.nil ?_
      refine At.blkN ?_
      refine At.thenN ?_
      refine tR ?_
      refine tM rfl rfl ?_
      refine tM rfl rfl ?_
      refine At.val (Val.bin rfl rfl rfl) rfl rfl rfl ?_
      rw [beq_self_eq_true]
      refine tA rfl rfl ?_
      refine tE ?_
      refine At.retC ?_
      refine At.ret1 (.inl rfl) rfl rfl rfl (fun w hw => ?_)
      exact ⟨y31, (fenceT σ).2, y32, r33, rfl, hs34, (goes_fence σ).1, (goes_fence σ).2, Rep.shutS (F := []) (hw.drop (List.Sublist.refl _ |>.cons _))⟩
     ·skip
      try simp only [hasB, isSizeB, Bool.not_eq_true', Bool.not_eq_false', bne_iff_ne, ne_eq, bne_eq_false_iff_eq, beq_iff_eq, beq_eq_false_iff_ne, decide_eq_true_eq, decide_eq_false_iff_not, gt_iff_lt, ge_iff_le] at h30
      refine tR ?_
      refine At.val (Val.bin rfl rfl rfl) rfl rfl rfl ?_
      refine tA rfl rfl ?_
      refine tE ?_
      refine At.cond rfl (fun h35 => ?_) (fun h35 => ?_)
      ·skip
       try simp only [hasB, isSizeB, Bool.not_eq_true', Bool.not_eq_false', bne_iff_ne, ne_eq, bne_eq_false_iff_eq, beq_iff_eq, beq_eq_false_iff_ne, decide_eq_true_eq, decide_eq_false_iff_not, gt_iff_lt, ge_iff_le] at h35
       refine tR ?_
       refine tM rfl rfl ?_
       refine At.val (Val.field 3 rfl fo_118_3 rfl) rfl rfl rfl ?_
       refine At.val (Val.load (i := 0) Try.isAgg3 rfl rfl rfl) rfl rfl rfl ?_
       refine At.callD 1 rfl (fun w hw hr => arm_t _ _ _ _ w hn hr) Try.call36 rfl rfl (fun y36 => ?_)
       simp only [sc0, scS]
       refine tA rfl rfl ?_
       refine tE ?_
       refine At.region ?_
       refine tM rfl rfl ?_
       refine At.val (Val.field 3 rfl fo_118_3 rfl) rfl rfl rfl ?_
       refine At.val (Val.load (i := 0) Try.isAgg3 rfl rfl rfl) rfl rfl rfl ?_
       refine At.callRP 2 rfl (fun w hw hr => rarm_t _ _ _ σ _ w hsim hn hr) Try.call93 rfl rfl (fun y37 r38 hs39 => ?_)
       simp only [sc0, scS]
       refine tA rfl rfl ?_
       refine At.nil ?_
       refine At.blkN ?_
       refine At.thenN ?_
       refine tR ?_
       refine tM rfl rfl ?_
       refine tM rfl rfl ?_
       refine At.val (Val.bin rfl rfl rfl) rfl rfl rfl ?_
       rw [beq_self_eq_true]
       refine tA rfl rfl ?_
       refine tE ?_
       refine At.retC ?_
       refine At.ret1 (.inl rfl) rfl rfl rfl (fun w hw => ?_)
       exact ⟨y36, (armT σ n).2, y37, r38, rfl, hs39, (goes_arm σ n).1, (goes_arm σ n).2, Rep.shutS (F := []) (hw.drop (List.Sublist.refl _ |>.cons _))⟩
      ·skip
       try simp only [hasB, isSizeB, Bool.not_eq_true', Bool.not_eq_false', bne_iff_ne, ne_eq, bne_eq_false_iff_eq, beq_iff_eq, beq_eq_false_iff_ne, decide_eq_true_eq, decide_eq_false_iff_not, gt_iff_lt, ge_iff_le] at h35
       refine tR ?_
       refine At.val (Val.bin rfl rfl rfl) rfl rfl rfl ?_
       refine tA rfl rfl ?_
       refine tE ?_
       refine At.cond rfl (fun h40 => ?_) (fun h40 => ?_)
       ·skip
        try simp only [hasB, isSizeB, Bool.not_eq_true', Bool.not_eq_false', bne_iff_ne, ne_eq, bne_eq_false_iff_eq, beq_iff_eq, beq_eq_false_iff_ne, decide_eq_true_eq, decide_eq_false_iff_not, gt_iff_lt, ge_iff_le] at h40
        refine tR ?_
        refine tM rfl rfl ?_
        refine At.callK 1 rfl (fun w hw hr => steps_k _ _ _ w hr) Try.call38 rfl rfl ?_
        refine tM rfl rfl ?_
        refine At.callK 2 rfl (fun w hw hr => rsteps_k _ _ _ w hr) Try.call94 rfl rfl ?_
        refine At.val (Val.bin rfl rfl rfl) rfl rfl rfl ?_
        rw [show ((σ.steps : Int) == (ρ.now : Int)) = true from beq_iff_eq.2 (by rw [hsim.now])]
        refine tA rfl rfl ?_
        refine tE ?_
        refine At.retC ?_
        refine At.blkR ?_
        refine At.thenR ?_
        refine At.ret1 (.inl rfl) rfl rfl rfl (fun w hw => ?_)
        exact ⟨γ, σ, δ, ρ, rfl, hsim, rfl, Nat.le_add_right _ _, Rep.shutS (F := []) (hw.drop (List.Sublist.refl _ |>.cons _))⟩
       ·skip
        try simp only [hasB, isSizeB, Bool.not_eq_true', Bool.not_eq_false', bne_iff_ne, ne_eq, bne_eq_false_iff_eq, beq_iff_eq, beq_eq_false_iff_ne, decide_eq_true_eq, decide_eq_false_iff_not, gt_iff_lt, ge_iff_le] at h40
        refine tR ?_
        refine tM rfl rfl ?_
        refine At.callK 1 rfl (fun w hw hr => dead_k _ _ _ w hr) Try.call37 rfl rfl ?_
        refine tM rfl rfl ?_
        refine At.callK 2 rfl (fun w hw hr => rdead_k _ _ _ w hr) Try.call95 rfl rfl ?_
        refine At.val (Val.eqB Try.underlying4 rfl rfl) rfl rfl rfl ?_
        rw [hsim.dead, show (decide (ρ.left = 0) == (ρ.left == 0)) = true from by cases h0 : decide (ρ.left = 0) with | true => rw [beq_iff_eq.2 (of_decide_eq_true h0)]; rfl | false => rw [beq_eq_false_iff_ne.2 (of_decide_eq_false h0)]; rfl]
        refine tA rfl rfl ?_
        refine tE ?_
        refine At.retC ?_
        refine At.blkR ?_
        refine At.thenR ?_
        refine At.ret1 (.inl rfl) rfl rfl rfl (fun w hw => ?_)
        exact ⟨γ, σ, δ, ρ, rfl, hsim, rfl, Nat.le_add_right _ _, Rep.shutS (F := []) (hw.drop (List.Sublist.refl _ |>.cons _))⟩

end Go.Proofs.Ytkpbpeajkfgfiaa
