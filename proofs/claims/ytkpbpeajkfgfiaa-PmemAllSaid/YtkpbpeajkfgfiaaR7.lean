/- The document's device: what changes it. -/
import Derived.Test.YtkpbpeajkfgfiaaR5
import Derived.Test.YtkpbpeajkfgfiaaP12
set_option linter.unusedVariables false
set_option linter.unusedSimpArgs false
namespace Go.Proofs.Ytkpbpeajkfgfiaa
open Go Go.Wk

theorem rstore_s (p : Nat) (γ : Rg) (ρ : Rs) (σ : Ds) (K : Nat) (x : BitVec 64) (w : World) (hsim : Sim σ ρ) (hK : K < σ.ws.length) (hs : σ.steps + 1 ≤ 1099511627776) (hno : deadB σ = false) (hd : (RDev p γ ρ).holds w) :
    RDevP Try.prog 88 [.pointer (some ⟨p, 0, none⟩), .int .i64 (8 * (K : Int)), b64 x] p γ ρ (.int .i64 0) (Sim (storeD σ K x)) w := by
  obtain ⟨l, v0, u, h1, h2, h3, h4⟩ := hsim.at hK
  have := rstore_d p γ ρ (K / 8) (K % 8) l x w h1 (Nat.mod_lt _ (by decide)) (by rw [← hsim.now]; exact hs) (hsim.alive hno) hd
  rw [K_split] at this
  refine this.toP ?_
  have h5 := hsim.store (k := K / 8) (j := K % 8) (x := x) hno h1 (Nat.mod_lt _ (by decide)) (by rwa [show 8 * (K / 8) + K % 8 = K by omega])
  rw [show 8 * (K / 8) + K % 8 = K by omega] at h5
  rwa [storeD_some h3]
theorem rflush_s (p : Nat) (γ : Rg) (ρ : Rs) (σ : Ds) (a : Int) (k : Nat) (w : World) (hsim : Sim σ ρ) (hk : 8 * k < σ.ws.length) (h0 : 64 * (k : Int) ≤ a) (h1 : a < 64 * (k : Int) + 64) (hs : σ.steps + 1 ≤ 1099511627776) (hno : deadB σ = false) (hd : (RDev p γ ρ).holds w) :
    RDevP Try.prog 90 [.pointer (some ⟨p, 0, none⟩), .int .i64 a] p γ ρ (.int .i64 0) (Sim (lineD σ k)) w := by
  have hl := hsim.len
  obtain ⟨l, hl⟩ : ∃ l, ρ.ls[k]? = some l := ⟨_, List.getElem?_eq_getElem (by omega)⟩
  exact (rflush_d p γ ρ a k l w hl h0 h1 (by rw [← hsim.now]; exact hs) (hsim.alive hno) hd).toP (hsim.flush hno hl)
theorem rfence_s (p : Nat) (γ : Rg) (ρ : Rs) (σ : Ds) (w : World) (hsim : Sim σ ρ) (hs : σ.steps + 1 ≤ 1099511627776) (hno : deadB σ = false) (hd : (RDev p γ ρ).holds w) :
    RDevP Try.prog 92 [.pointer (some ⟨p, 0, none⟩)] p γ ρ (.int .i64 0) (Sim (fenceD (stepD σ))) w :=
  (rfence_d p γ ρ w (by rw [← hsim.now]; exact hs) (hsim.alive hno) hd).toP (hsim.fence hno)
theorem rarm_s (p : Nat) (γ : Rg) (ρ : Rs) (σ : Ds) (m : Nat) (w : World) (hsim : Sim σ ρ) (hm : m ≤ 9223372036854775807) (hno : deadB σ = false) (hd : (RDev p γ ρ).holds w) :
    RDevP Try.prog 93 [.pointer (some ⟨p, 0, none⟩), .int .i64 (m : Int)] p γ ρ (.int .i64 0) (Sim (armD σ m)) w :=
  (rarm_d p γ ρ m w hm (hsim.alive hno) hd).toP (hsim.arm m)
theorem toP_same {w w' : World} {p : Nat} {γ : Rg} {ρ : Rs} {S : Nat → Prop} (hw : Rep w S [RDev p γ ρ] w') : Rep w S [RDev p γ ρ] w' := hw


theorem At.idxBO {P : Program} {Γ : Ctx} {E : Env} {H : List Res} {ops : Array Oper} {Q : Exit → Act → World → Prop} {rest : List Oper} {d : Nat} {ty : TypeId} {pos : String} {after : Array Edge} {x y : Operand} {v : Value} {t el j : Nat} {jv : Int} {l : List UInt8} {k : IntKind} {z : UInt8} {g : Option (Nat × Bool)} (h : RdB Γ.w0 v l) (ho : Off v (l.map bv) Γ.S) (hj : jv = (j : Int)) (hu : P.underlying t = some (.slice el)) (hs : ∀ w, (sizeOf el).run P w = .ok 1 w) (hx : ev E x = some v) (hy : ev E y = some (.int k jv)) (hz : l[j]? = some z)
    (hg : g = none) (hn : Nat.blt d Γ.n = true)
    (c : ∀ b o, Γ.w0.cell? ⟨b, o, none⟩ = some (bv z) → ¬ Γ.S b → At Γ ((d, .pointer (some ⟨b, o, none⟩)) :: E) H (wpList P ops Q rest)) :
    At Γ E H (wpList P ops Q ({ dst := some d, op := .indexAddr t x y, type := ty, pos, after, guard := g } :: rest)) := by
  subst hj
  have hj := (List.getElem?_eq_some_iff.1 hz).1
  obtain ⟨b, o, cap, rfl, hc⟩ := h.at (j := j) hj
  exact At.val (Val.indexSl _ rfl hu hs hx hy (by omega) (by omega)) hg rfl hn (c b _ (by have := hc 0 (bv z) (by rw [Nat.mul_one, Nat.add_zero, List.getElem?_map, hz]; rfl); rwa [Nat.add_zero] at this) (ho (fun e => by rw [List.map_eq_nil_iff] at e; rw [e] at hz; cases hz) b _ _ _ _ rfl))

theorem rwrite_s (p : Nat) (γ : Rg) (ρ : Rs) (σ : Ds) (K m : Nat) (v : Value) (lb : List UInt8) (w : World) (hsim : Sim σ ρ) (hwl : σ.ws.length ≤ 65536) (hv : RdB w v lb) (ho : Off v (lb.map bv) (feet [RDev p γ ρ])) (hm : lb.length = 8 * m) (hkl : K + m ≤ σ.ws.length) (hst : σ.steps + m ≤ 1099511627776) (hd : (RDev p γ ρ).holds w) :
    RDevP Try.prog 89 [.pointer (some ⟨p, 0, none⟩), .int .i64 (8 * (K : Int)), v] p γ ρ (.int .i64 (storesE K σ (wordsL lb m)).1) (Sim (storesE K σ (wordsL lb m)).2) w := by
 obtain ⟨A, c, rfl⟩ : ∃ A c, v = .slice A lb.length c := by obtain ⟨A, c, h, _⟩ := hv; exact ⟨A, c, h⟩
 refine enterRc hd Try.func89 rfl Try.ntmps89 rfl ?_
 obtain ⟨hQ, hg⟩ := RDev.facts hd
 have hln := hg.len
 have hps := hg.pos
 have hnw := hg.now
 have hsl := hsim.len
 simp only [envOf]
 refine tR ?_
 refine tA rfl rfl ?_
 refine tE ?_
 refine At.seq ?_
 refine tR ?_
 refine tM rfl rfl ?_
 refine tM rfl rfl ?_
 refine tM rfl rfl ?_
 refine At.val (Val.lenRd hv Try.underlying33 rfl) rfl rfl rfl ?_
 refine At.callK 0 rfl (fun w hw hr => inside_k _ _ _ _ _ w hr) Try.call116 rfl rfl ?_
 refine At.val (Val.not rfl) rfl rfl rfl ?_
 refine tE ?_
 refine At.cond rfl (fun h1 => ?_) (fun h1 => ?_)
 ·skip
  try simp only [hasB, isSizeB, Bool.not_eq_true', Bool.not_eq_false', bne_iff_ne, ne_eq, bne_eq_false_iff_eq, beq_iff_eq, beq_eq_false_iff_ne, decide_eq_true_eq, decide_eq_false_iff_not, gt_iff_lt, ge_iff_le] at h1
  simp only [hasR, decide_eq_false_iff_not] at h1; omega
 ·skip
  try simp only [hasB, isSizeB, Bool.not_eq_true', Bool.not_eq_false', bne_iff_ne, ne_eq, bne_eq_false_iff_eq, beq_iff_eq, beq_eq_false_iff_ne, decide_eq_true_eq, decide_eq_false_iff_not, gt_iff_lt, ge_iff_le] at h1
  refine At.skipC ?_
  refine At.thenN ?_
  refine At.seq ?_
  refine tR ?_
  refine tM rfl rfl ?_
  refine At.val (Val.remI rfl rfl (by omega) (by decide)) rfl rfl rfl ?_
  rw [show 8 * (K : Int) % 8 = 0 from by omega]
  refine At.val (Val.bin rfl rfl rfl) rfl rfl rfl ?_
  refine tM rfl rfl ?_
  refine At.yes rfl rfl ?_
  refine tM rfl rfl ?_
  refine At.yes rfl rfl ?_
  refine At.val (Val.lenRd hv Try.underlying33 rfl) rfl rfl rfl ?_
  refine At.yes rfl rfl ?_
  refine At.val (Val.remI rfl rfl (by omega) (by decide)) rfl rfl rfl ?_
  rw [show ((lb.length : Nat) : Int) % 8 = 0 from by omega]
  refine At.yes rfl rfl ?_
  refine At.val (Val.bin rfl rfl rfl) rfl rfl rfl ?_
  refine At.val (Val.pickF rfl rfl) rfl rfl rfl ?_
  refine tE ?_
  refine At.condF rfl ?_
  refine At.skipC ?_
  refine At.thenN ?_
  refine At.seq ?_
  refine tR ?_
  refine tA rfl rfl ?_
  refine tE ?_
  refine At.block ?_
  skip
  refine At.loop (σ := (Nat × Ds) × Rg × Rs) (fun s => s.1.1 ≤ m ∧ storesE K σ (wordsL lb m) = storesE (K + s.1.1) s.1.2 ((wordsL lb m).drop s.1.1) ∧ s.1.2.ws.length = σ.ws.length ∧ s.1.2.steps = σ.steps + s.1.1 ∧ Sim s.1.2 s.2.2) (fun s => [(0, .pointer (some ⟨p, 0, none⟩)), (1, .int .i64 (8 * (K : Int))), (2, (.slice A lb.length c)), (7, .int .i64 (8 * (s.1.1 : Int)))]) (fun s => [RDev p s.2.1 s.2.2]) (fun s => m - s.1.1) ((0, σ), γ, ρ) ⟨Nat.zero_le _, rfl, rfl, rfl, hsim⟩ (Sub.cons rfl (Sub.cons rfl (Sub.cons rfl (Sub.cons rfl Sub.nil)))) (List.Perm.refl _) ?_
  intro s hs
  obtain ⟨⟨j, σ1⟩, γ1, ρ1⟩ := s
  dsimp only at hs ⊢
  obtain ⟨hj, he, hl1, hs1, hsim1⟩ := hs
  refine At.seq ?_
  refine tR ?_
  refine tM rfl rfl ?_
  refine tM rfl rfl ?_
  refine At.val (Val.lenRd hv Try.underlying33 rfl) rfl rfl rfl ?_
  refine At.val (Val.bin rfl rfl rfl) rfl rfl rfl ?_
  refine tE ?_
  refine At.cond rfl (fun h2 => ?_) (fun h2 => ?_)
  ·skip
   try simp only [hasB, isSizeB, Bool.not_eq_true', Bool.not_eq_false', bne_iff_ne, ne_eq, bne_eq_false_iff_eq, beq_iff_eq, beq_eq_false_iff_ne, decide_eq_true_eq, decide_eq_false_iff_not, gt_iff_lt, ge_iff_le] at h2
   have hjm : j < m := by omega
   refine At.skipC ?_
   refine At.thenN ?_
   refine At.seq ?_
   refine At.block ?_
   refine tR ?_
   refine tA rfl rfl ?_
   refine tE ?_
   refine At.seq ?_
   refine tR ?_
   refine tA rfl rfl ?_
   refine tE ?_
   refine At.block ?_
   skip
   refine At.loop (σ := Nat) (fun k => k ≤ 8) (fun k => [(0, .pointer (some ⟨p, 0, none⟩)), (1, .int .i64 (8 * (K : Int))), (2, (.slice A lb.length c)), (7, .int .i64 (8 * (j : Int))), (8, .int .u64 ((num lb (8 * j + k) (8 - k) : Nat) : Int)), (9, .int .i64 ((k : Int) - 1))]) (fun k => [RDev p γ1 (ρ1)]) (fun k => k) 8 (Nat.le_refl _) (Sub.cons rfl (Sub.cons rfl (Sub.cons rfl (Sub.cons rfl (Sub.cons (congrArg (fun z => some (Value.int IntKind.u64 z)) (by rw [Nat.sub_self, num_zero]; rfl)) (Sub.cons rfl Sub.nil)))))) (List.Perm.refl _) ?_
   intro k hk8
   refine At.seq ?_
   refine tR ?_
   refine tM rfl rfl ?_
   refine At.val (Val.bin rfl rfl rfl) rfl rfl rfl ?_
   refine tE ?_
   refine At.cond rfl (fun h3 => ?_) (fun h3 => ?_)
   ·skip
    try simp only [hasB, isSizeB, Bool.not_eq_true', Bool.not_eq_false', bne_iff_ne, ne_eq, bne_eq_false_iff_eq, beq_iff_eq, beq_eq_false_iff_ne, decide_eq_true_eq, decide_eq_false_iff_not, gt_iff_lt, ge_iff_le] at h3
    have hk1 : 1 ≤ k := by omega
    refine At.skipC ?_
    refine At.thenN ?_
    refine At.seq ?_
    refine At.block ?_
    refine At.region ?_
    refine tM rfl rfl ?_
    have hlt := num_lt (l := lb) (8 * j + k) (8 - k)
    have hlt' : num lb (8 * j + k) (8 - k) < 72057594037927936 := Nat.lt_of_lt_of_le hlt (Nat.pow_le_pow_right (n := 256) (i := 8 - k) (j := 7) (by decide) (by omega))
    refine At.val (Val.bin rfl rfl rfl) rfl rfl rfl ?_
    rw [wrap_u64 (n := ((num lb (8 * j + k) (8 - k) : Nat) : Int) * 256) (by omega) (by omega)]
    refine tM rfl rfl ?_
    refine tM rfl rfl ?_
    refine tM rfl rfl ?_
    first | refine At.val (Val.addI rfl rfl (by omega) (by omega)) rfl rfl rfl ?_ | refine At.val (Val.bin rfl rfl rfl) rfl rfl rfl ?_
    obtain ⟨c0, hc0⟩ : ∃ c0, lb[8 * j + (k - 1)]? = some c0 := ⟨_, List.getElem?_eq_getElem (by omega)⟩
    refine At.idxBO hv ho (j := 8 * j + (k - 1)) (jv := 8 * (j : Int) + ((k : Int) - 1)) (by omega) Try.underlying33 Try.sizeOf5 rfl rfl hc0 rfl rfl (fun bx ox hcx hox => ?_)
    have hcl := UInt8.toNat_lt c0
    refine At.val (Val.loadOld Try.isAgg5 rfl hcx hox) rfl rfl rfl ?_
    refine At.val (Val.toU Try.underlying5 Try.underlying30 rfl (by omega) (by omega)) rfl rfl rfl ?_
    have hq8 := hc0
    refine At.val (Val.bin rfl rfl rfl) rfl rfl rfl ?_
    rw [wrap_u64 (by omega) (by omega)]
    refine tA rfl rfl ?_
    refine At.nil ?_
    refine At.blkN ?_
    refine At.thenN ?_
    refine At.region ?_
    refine tM rfl rfl ?_
    first | refine At.val (Val.subI rfl rfl (by omega) (by omega)) rfl rfl rfl ?_ | refine At.val (Val.bin rfl rfl rfl) rfl rfl rfl ?_
    refine tA rfl rfl ?_
    refine tE ?_
    exact At.again (k - 1) (show k - 1 ≤ 8 by omega) (show k - 1 < k by omega) (Sub.cons rfl (Sub.cons rfl (Sub.cons rfl (Sub.cons rfl (Sub.cons (congrArg (fun z => some (Value.int IntKind.u64 z)) (by rw [show 8 - (k - 1) = 8 - k + 1 by omega, num_cons hq8, show 8 * j + (k - 1) + 1 = 8 * j + k by omega]; omega)) (Sub.cons (congrArg (fun z => some (Value.int IntKind.i64 z)) (by omega)) Sub.nil)))))) (List.Perm.refl _)
   ·skip
    try simp only [hasB, isSizeB, Bool.not_eq_true', Bool.not_eq_false', bne_iff_ne, ne_eq, bne_eq_false_iff_eq, beq_iff_eq, beq_eq_false_iff_ne, decide_eq_true_eq, decide_eq_false_iff_not, gt_iff_lt, ge_iff_le] at h3
    obtain rfl : k = 0 := by omega
    refine At.exitC ?_
    refine At.thenX ?_
    refine At.thenX ?_
    refine At.blkX ?_
    refine At.thenN ?_
    refine tR ?_
    refine tM rfl rfl ?_
    refine tM rfl rfl ?_
    refine tM rfl rfl ?_
    first | refine At.val (Val.addI rfl rfl (by omega) (by omega)) rfl rfl rfl ?_ | refine At.val (Val.bin rfl rfl rfl) rfl rfl rfl ?_
    refine tM rfl rfl ?_
    obtain ⟨x, hx0⟩ : ∃ x, x = wdA lb (8 * j) := ⟨_, rfl⟩
    rw [show Value.int .u64 ((num lb (8 * j + 0) (8 - 0) : Nat) : Int) = b64 x from by rw [hx0]; exact wdA_val lb (8 * j)]
    have hx : (wordsL lb m)[j]? = some x := by rw [hx0]; exact wordsL_at (by omega)
    rw [show 8 * (K : Int) + 8 * (j : Int) = 8 * ((K + j : Nat) : Int) from by omega]
    cases hdb : deadB σ1
    ·skip
     refine At.callRP 0 rfl (fun w hw hr => rstore_s _ _ _ σ1 (K + j) x w hsim1 (by omega) (by omega) hdb hr) Try.call88 rfl rfl (fun y4 r5 hs6 => ?_)
     simp only [sc0, scS]
     refine tA rfl rfl ?_
     refine tE ?_
     refine tR ?_
     refine tM rfl rfl ?_
     refine At.val (Val.bin rfl rfl rfl) rfl rfl rfl ?_
     refine tE ?_
     refine At.condF rfl ?_
     refine At.skipC ?_
     refine At.blkN ?_
     refine At.thenN ?_
     refine At.region ?_
     refine tM rfl rfl ?_
     first | refine At.val (Val.addI rfl rfl (by omega) (by omega)) rfl rfl rfl ?_ | refine At.val (Val.bin rfl rfl rfl) rfl rfl rfl ?_
     refine tA rfl rfl ?_
     refine tE ?_
     exact At.again ((j + 1, storeD σ1 (K + j) x), y4, r5) ⟨(show j + 1 ≤ m by omega), (by rw [he, drop_cons hx, storesE_live hdb]; rfl), (storeD_rest x (show K + j < σ1.ws.length by omega)).2.2.trans hl1, (show (storeD σ1 (K + j) x).steps = σ.steps + (j + 1) by have := (storeD_rest x (show K + j < σ1.ws.length by omega)).1; omega), hs6⟩ (by dsimp only; omega) (Sub.cons rfl (Sub.cons rfl (Sub.cons rfl (Sub.cons (congrArg (fun z => some (Value.int IntKind.i64 z)) (by first | omega | (dsimp only; omega))) Sub.nil)))) (List.Perm.refl _)
    ·skip
     refine At.callK 0 rfl (fun w hw hr => rstore_0 _ _ _ _ _ w (by rw [hsim1.wrong]; exact place_at (by omega)) (hsim1.isdead hdb) hr) Try.call88 rfl rfl ?_
     refine tA rfl rfl ?_
     refine tE ?_
     refine tR ?_
     refine tM rfl rfl ?_
     refine At.val (Val.bin rfl rfl rfl) rfl rfl rfl ?_
     refine tE ?_
     refine At.condT rfl ?_
     refine tR ?_
     refine tM rfl rfl ?_
     refine tA rfl rfl ?_
     refine tE ?_
     refine At.retC ?_
     refine At.blkR ?_
     refine At.thenR ?_
     refine At.thenR ?_
     refine At.blkR ?_
     refine At.thenR ?_
     refine At.ret1 (.inl rfl) rfl rfl rfl (fun w hw => ?_)
     rw [he, drop_cons hx, storesE_dead hdb]
     exact ⟨_, _, rfl, hsim1, hw⟩
  ·skip
   try simp only [hasB, isSizeB, Bool.not_eq_true', Bool.not_eq_false', bne_iff_ne, ne_eq, bne_eq_false_iff_eq, beq_iff_eq, beq_eq_false_iff_ne, decide_eq_true_eq, decide_eq_false_iff_not, gt_iff_lt, ge_iff_le] at h2
   refine At.exitC ?_
   refine At.thenX ?_
   refine At.thenX ?_
   refine At.blkX ?_
   refine At.thenN ?_
   refine tR ?_
   refine tA rfl rfl ?_
   refine tE ?_
   refine At.retC ?_
   refine At.ret1 (.inl rfl) rfl rfl rfl (fun w hw => ?_)
   rw [he, List.drop_of_length_le (by rw [wordsL_length]; omega)]
   exact ⟨_, _, rfl, hsim1, hw⟩

theorem rwrite_no (p : Nat) (γ : Rg) (ρ : Rs) (a : Int) (v : Value) (lb : List UInt8) (w : World) (hv : RdB w v lb) (ha : hasR ρ a lb.length = false) (hd : (RDev p γ ρ).holds w) :
    Upd Try.prog 89 [.pointer (some ⟨p, 0, none⟩), .int .i64 a, v] (RDev p γ ρ) (.int .i64 11) (RDev p γ ρ) w := by
 refine enterRc hd Try.func89 rfl Try.ntmps89 rfl ?_
 obtain ⟨hQ, hg⟩ := RDev.facts hd
 have hln := hg.len
 have hps := hg.pos
 have hnw := hg.now
 simp only [envOf]
 refine tR ?_
 refine tA rfl rfl ?_
 refine tE ?_
 refine At.seq ?_
 refine tR ?_
 refine tM rfl rfl ?_
 refine tM rfl rfl ?_
 refine tM rfl rfl ?_
 refine At.val (Val.lenRd hv Try.underlying33 rfl) rfl rfl rfl ?_
 refine At.callK 0 rfl (fun w hw hr => inside_k _ _ _ _ _ w hr) Try.call116 rfl rfl ?_
 refine At.val (Val.not rfl) rfl rfl rfl ?_
 refine tE ?_
 refine At.cond rfl (fun h1 => ?_) (fun h1 => ?_)
 ·skip
  refine tR ?_
  refine tA rfl rfl ?_
  refine tE ?_
  refine At.retC ?_
  refine At.thenR ?_
  refine At.ret1 (.inl rfl) rfl rfl rfl (fun w hw => ?_)
  exact ⟨rfl, hw⟩
 ·skip
  rw [ha] at h1; cases h1

theorem rwrite_al (p : Nat) (γ : Rg) (ρ : Rs) (a : Int) (v : Value) (lb : List UInt8) (w : World) (hv : RdB w v lb) (hh : hasR ρ a lb.length = true) (ha : ¬ (a % 8 = 0 ∧ lb.length % 8 = 0)) (hd : (RDev p γ ρ).holds w) :
    Upd Try.prog 89 [.pointer (some ⟨p, 0, none⟩), .int .i64 a, v] (RDev p γ ρ) (.int .i64 12) (RDev p γ ρ) w := by
 refine enterRc hd Try.func89 rfl Try.ntmps89 rfl ?_
 obtain ⟨hQ, hg⟩ := RDev.facts hd
 have hln := hg.len
 have hps := hg.pos
 have hnw := hg.now
 have hh' := hh
 simp only [hasR, decide_eq_true_eq] at hh'
 simp only [envOf]
 refine tR ?_
 refine tA rfl rfl ?_
 refine tE ?_
 refine At.seq ?_
 refine tR ?_
 refine tM rfl rfl ?_
 refine tM rfl rfl ?_
 refine tM rfl rfl ?_
 refine At.val (Val.lenRd hv Try.underlying33 rfl) rfl rfl rfl ?_
 refine At.callK 0 rfl (fun w hw hr => inside_k _ _ _ _ _ w hr) Try.call116 rfl rfl ?_
 refine At.val (Val.not rfl) rfl rfl rfl ?_
 refine tE ?_
 refine At.cond rfl (fun h1 => ?_) (fun h1 => ?_)
 ·skip
  try simp only [hasB, isSizeB, Bool.not_eq_true', Bool.not_eq_false', bne_iff_ne, ne_eq, bne_eq_false_iff_eq, beq_iff_eq, beq_eq_false_iff_ne, decide_eq_true_eq, decide_eq_false_iff_not, gt_iff_lt, ge_iff_le] at h1
  rw [hh] at h1; cases h1
 ·skip
  try simp only [hasB, isSizeB, Bool.not_eq_true', Bool.not_eq_false', bne_iff_ne, ne_eq, bne_eq_false_iff_eq, beq_iff_eq, beq_eq_false_iff_ne, decide_eq_true_eq, decide_eq_false_iff_not, gt_iff_lt, ge_iff_le] at h1
  refine At.skipC ?_
  refine At.thenN ?_
  refine At.seq ?_
  refine tR ?_
  refine tM rfl rfl ?_
  first | refine At.val (Val.remI rfl rfl (by omega) (by decide)) rfl rfl rfl ?_ | refine At.val (Val.rem rfl rfl (by decide)) rfl rfl rfl ?_
  refine At.weaken [(0, _), (1, _), (2, _), (6, _), (11, _), (12, _), (13, _), (14, _), (15, _), (16, _), (18, _)] (Sub.cons rfl (Sub.cons rfl (Sub.cons rfl (Sub.cons rfl (Sub.cons rfl (Sub.cons rfl (Sub.cons rfl (Sub.cons rfl (Sub.cons rfl (Sub.cons rfl (Sub.cons rfl Sub.nil))))))))))) ?_
  refine At.boolMeet 7 25 (true) ?_ ?_
  ·skip
   simp only [List.take_succ_cons, List.take_zero]
   refine At.val (Val.bin rfl rfl rfl) rfl rfl rfl ?_
   refine tM rfl rfl ?_
   refine At.split (t := 20) rfl (fun h2 => ?_) (fun h2 => ?_)
   ·skip
    try simp only [hasB, isSizeB, Bool.not_eq_true', Bool.not_eq_false', bne_iff_ne, ne_eq, bne_eq_false_iff_eq, beq_iff_eq, beq_eq_false_iff_ne, decide_eq_true_eq, decide_eq_false_iff_not, gt_iff_lt, ge_iff_le] at h2
    refine At.no rfl rfl rfl rfl ?_
    refine At.no rfl rfl rfl rfl ?_
    refine At.no rfl rfl rfl rfl ?_
    refine At.no rfl rfl rfl rfl ?_
    refine At.val (Val.pickT rfl rfl) rfl rfl rfl ?_
    refine At.nil ?_
    exact At.boolEnd rfl (by first | exact (decide_eq_true (by omega)).symm | exact (decide_eq_false (by omega)).symm | (apply Bool.eq_iff_iff.2; simp only [decide_eq_true_eq, beq_iff_eq, bne_iff_ne, ne_eq, Bool.not_eq_true', decide_eq_false_iff_not]; omega) | rfl | (simp_all; done) | (simp_all; omega)) (by repeat (first | exact Sub.nil | refine Sub.cons rfl ?_))
   ·skip
    try simp only [hasB, isSizeB, Bool.not_eq_true', Bool.not_eq_false', bne_iff_ne, ne_eq, bne_eq_false_iff_eq, beq_iff_eq, beq_eq_false_iff_ne, decide_eq_true_eq, decide_eq_false_iff_not, gt_iff_lt, ge_iff_le] at h2
    refine At.yes rfl rfl ?_
    refine tM rfl rfl ?_
    refine At.yes rfl rfl ?_
    refine At.val (Val.lenRd hv Try.underlying33 rfl) rfl rfl rfl ?_
    refine At.yes rfl rfl ?_
    first | refine At.val (Val.remI rfl rfl (by omega) (by decide)) rfl rfl rfl ?_ | refine At.val (Val.rem rfl rfl (by decide)) rfl rfl rfl ?_
    refine At.yes rfl rfl ?_
    refine At.val (Val.bin rfl rfl rfl) rfl rfl rfl ?_
    refine At.val (Val.pickF rfl rfl) rfl rfl rfl ?_
    refine At.nil ?_
    exact At.boolEnd rfl (by first | exact (decide_eq_true (by omega)).symm | exact (decide_eq_false (by omega)).symm | (apply Bool.eq_iff_iff.2; simp only [decide_eq_true_eq, beq_iff_eq, bne_iff_ne, ne_eq, Bool.not_eq_true', decide_eq_false_iff_not]; omega) | rfl | (simp_all; done) | (simp_all; omega)) (by repeat (first | exact Sub.nil | refine Sub.cons rfl ?_))
  ·skip
   simp only [List.drop_succ_cons, List.drop_zero]
   refine tE ?_
   refine At.cond rfl (fun h3 => ?_) (fun h3 => ?_)
   ·skip
    try simp only [hasB, isSizeB, Bool.not_eq_true', Bool.not_eq_false', bne_iff_ne, ne_eq, bne_eq_false_iff_eq, beq_iff_eq, beq_eq_false_iff_ne, decide_eq_true_eq, decide_eq_false_iff_not, gt_iff_lt, ge_iff_le] at h3
    refine tR ?_
    refine tA rfl rfl ?_
    refine tE ?_
    refine At.retC ?_
    refine At.thenR ?_
    refine At.ret1 (.inl rfl) rfl rfl rfl (fun w hw => ?_)
    exact ⟨rfl, hw⟩
   ·skip
    try simp only [hasB, isSizeB, Bool.not_eq_true', Bool.not_eq_false', bne_iff_ne, ne_eq, bne_eq_false_iff_eq, beq_iff_eq, beq_eq_false_iff_ne, decide_eq_true_eq, decide_eq_false_iff_not, gt_iff_lt, ge_iff_le] at h3
    cases h3

theorem rflushAll_s (p : Nat) (γ : Rg) (ρ : Rs) (σ : Ds) (a n cnt : Nat) (w : World) (hsim : Sim σ ρ) (hwl : σ.ws.length ≤ 65536) (han : a + n ≤ 8 * σ.ws.length) (hct : cntP a n cnt) (hst : σ.steps + cnt ≤ 1099511627776) (hd : (RDev p γ ρ).holds w) :
    RDevP Try.prog 91 [.pointer (some ⟨p, 0, none⟩), .int .i64 (a : Int), .int .i64 (n : Int)] p γ ρ (.int .i64 (linesE (a / 64) σ cnt).1) (Sim (linesE (a / 64) σ cnt).2) w := by
 refine enterRc hd Try.func91 rfl Try.ntmps91 rfl ?_
 obtain ⟨hQ, hg⟩ := RDev.facts hd
 have hln := hg.len
 have hps := hg.pos
 have hnw := hg.now
 have hsl := hsim.len
 obtain ⟨hc0, hc1⟩ := hct
 simp only [envOf]
 refine tR ?_
 refine tA rfl rfl ?_
 refine tE ?_
 refine At.seq ?_
 refine tR ?_
 refine tM rfl rfl ?_
 refine tM rfl rfl ?_
 refine tM rfl rfl ?_
 refine At.callK 0 rfl (fun w hw hr => inside_k _ _ _ _ _ w hr) Try.call116 rfl rfl ?_
 refine At.val (Val.not rfl) rfl rfl rfl ?_
 refine tE ?_
 refine At.cond rfl (fun h1 => ?_) (fun h1 => ?_)
 ·skip
  try simp only [hasB, isSizeB, Bool.not_eq_true', Bool.not_eq_false', bne_iff_ne, ne_eq, bne_eq_false_iff_eq, beq_iff_eq, beq_eq_false_iff_ne, decide_eq_true_eq, decide_eq_false_iff_not, gt_iff_lt, ge_iff_le] at h1
  simp only [hasR, decide_eq_false_iff_not] at h1; omega
 ·skip
  try simp only [hasB, isSizeB, Bool.not_eq_true', Bool.not_eq_false', bne_iff_ne, ne_eq, bne_eq_false_iff_eq, beq_iff_eq, beq_eq_false_iff_ne, decide_eq_true_eq, decide_eq_false_iff_not, gt_iff_lt, ge_iff_le] at h1
  refine At.skipC ?_
  refine At.thenN ?_
  refine At.seq ?_
  refine tR ?_
  refine tM rfl rfl ?_
  refine At.val (Val.bin rfl rfl rfl) rfl rfl rfl ?_
  refine tE ?_
  refine At.cond rfl (fun h2 => ?_) (fun h2 => ?_)
  ·skip
   try simp only [hasB, isSizeB, Bool.not_eq_true', Bool.not_eq_false', bne_iff_ne, ne_eq, bne_eq_false_iff_eq, beq_iff_eq, beq_eq_false_iff_ne, decide_eq_true_eq, decide_eq_false_iff_not, gt_iff_lt, ge_iff_le] at h2
   obtain rfl : cnt = 0 := hc0 (by omega)
   refine tR ?_
   refine tA rfl rfl ?_
   refine tE ?_
   refine At.retC ?_
   refine At.thenR ?_
   refine At.ret1 (.inl rfl) rfl rfl rfl (fun w hw => ?_)
   exact ⟨_, _, rfl, hsim, hw⟩
  ·skip
   try simp only [hasB, isSizeB, Bool.not_eq_true', Bool.not_eq_false', bne_iff_ne, ne_eq, bne_eq_false_iff_eq, beq_iff_eq, beq_eq_false_iff_ne, decide_eq_true_eq, decide_eq_false_iff_not, gt_iff_lt, ge_iff_le] at h2
   have hn0 : 0 < n := by omega
   refine At.skipC ?_
   refine At.thenN ?_
   refine At.seq ?_
   refine tR ?_
   refine tM rfl rfl ?_
   first | refine At.val (Val.quoI rfl rfl (by omega) (by omega) (by decide)) rfl rfl rfl ?_ | refine At.val (Val.quo rfl rfl (by decide)) rfl rfl rfl ?_
   refine tA rfl rfl ?_
   refine tE ?_
   refine At.block ?_
   skip
   refine At.loop (σ := (Nat × Ds) × Rg × Rs) (fun s => s.1.1 ≤ cnt ∧ linesE (a / 64) σ cnt = linesE (a / 64 + s.1.1) s.1.2 (cnt - s.1.1) ∧ s.1.2.ws.length = σ.ws.length ∧ s.1.2.steps = σ.steps + s.1.1 ∧ Sim s.1.2 s.2.2) (fun s => [(0, .pointer (some ⟨p, 0, none⟩)), (1, .int .i64 (a : Int)), (2, .int .i64 (n : Int)), (7, .int .i64 (((a / 64 : Nat) : Int) + (s.1.1 : Int)))]) (fun s => [RDev p s.2.1 s.2.2]) (fun s => cnt - s.1.1) ((0, σ), γ, ρ) ⟨Nat.zero_le _, rfl, rfl, rfl, hsim⟩ (Sub.cons rfl (Sub.cons rfl (Sub.cons rfl (Sub.cons (congrArg (fun z => some (Value.int IntKind.i64 z)) (by dsimp only; omega)) Sub.nil)))) (List.Perm.refl _) ?_
   intro s hs
   obtain ⟨⟨j, σ1⟩, γ1, ρ1⟩ := s
   dsimp only at hs ⊢
   obtain ⟨hj, he, hl1, hs1, hsim1⟩ := hs
   have hsl1 := hsim1.len
   refine At.seq ?_
   refine tR ?_
   refine tM rfl rfl ?_
   refine At.weaken [(0, _), (1, _), (2, _), (7, _), (18, _)] (Sub.cons rfl (Sub.cons rfl (Sub.cons rfl (Sub.cons rfl (Sub.cons rfl Sub.nil))))) ?_
   refine At.boolMeet 6 24 (decide (j < cnt)) ?_ ?_
   ·skip
    simp only [List.take_succ_cons, List.take_zero]
    refine tM rfl rfl ?_
    refine tM rfl rfl ?_
    first | refine At.val (Val.addI rfl rfl (by omega) (by omega)) rfl rfl rfl ?_ | refine At.val (Val.bin rfl rfl rfl) rfl rfl rfl ?_
    first | refine At.val (Val.subI rfl rfl (by omega) (by omega)) rfl rfl rfl ?_ | refine At.val (Val.bin rfl rfl rfl) rfl rfl rfl ?_
    first | refine At.val (Val.quoI rfl rfl (by omega) (by omega) (by decide)) rfl rfl rfl ?_ | refine At.val (Val.quo rfl rfl (by decide)) rfl rfl rfl ?_
    refine At.val (Val.bin rfl rfl rfl) rfl rfl rfl ?_
    refine At.nil ?_
    exact At.boolEnd rfl (by apply Bool.eq_iff_iff.2; (simp only [decide_eq_true_eq, Bool.false_eq_true, false_iff, true_iff, gt_iff_lt, ge_iff_le]) <;> omega) (by repeat (first | exact Sub.nil | refine Sub.cons rfl ?_))
   ·skip
    simp only [List.drop_succ_cons, List.drop_zero]
    refine tE ?_
    refine At.cond rfl (fun h3 => ?_) (fun h3 => ?_)
    ·skip
     try simp only [hasB, isSizeB, Bool.not_eq_true', Bool.not_eq_false', bne_iff_ne, ne_eq, bne_eq_false_iff_eq, beq_iff_eq, beq_eq_false_iff_ne, decide_eq_true_eq, decide_eq_false_iff_not, gt_iff_lt, ge_iff_le] at h3
     refine At.skipC ?_
     refine At.thenN ?_
     refine At.seq ?_
     refine At.block ?_
     refine tR ?_
     refine tM rfl rfl ?_
     refine tM rfl rfl ?_
     first | refine At.val (Val.mulI rfl rfl (by omega) (by omega)) rfl rfl rfl ?_ | refine At.val (Val.bin rfl rfl rfl) rfl rfl rfl ?_
     cases hdb : deadB σ1
     ·skip
      refine At.callRP 0 rfl (fun w hw hr => rflush_s _ _ _ σ1 _ (a / 64 + j) w hsim1 (by omega) (by omega) (by omega) (by omega) hdb hr) Try.call90 rfl rfl (fun y4 r5 hs6 => ?_)
      simp only [sc0, scS]
      refine tA rfl rfl ?_
      refine tE ?_
      refine tR ?_
      refine tM rfl rfl ?_
      refine At.val (Val.bin rfl rfl rfl) rfl rfl rfl ?_
      refine tE ?_
      refine At.condF rfl ?_
      refine At.skipC ?_
      refine At.blkN ?_
      refine At.thenN ?_
      refine At.region ?_
      refine tM rfl rfl ?_
      first | refine At.val (Val.addI rfl rfl (by omega) (by omega)) rfl rfl rfl ?_ | refine At.val (Val.bin rfl rfl rfl) rfl rfl rfl ?_
      refine tA rfl rfl ?_
      refine tE ?_
      exact At.again ((j + 1, lineD σ1 (a / 64 + j)), y4, r5) ⟨(show j + 1 ≤ cnt by omega), (by rw [he, show cnt - j = (cnt - (j + 1)) + 1 by omega, linesE_live hdb]; rfl), (lineD_rest σ1 _).2.2.trans hl1, (show (lineD σ1 (a / 64 + j)).steps = σ.steps + (j + 1) by have := (lineD_rest σ1 (a / 64 + j)).1; omega), hs6⟩ (by dsimp only; omega) (Sub.cons rfl (Sub.cons rfl (Sub.cons rfl (Sub.cons (congrArg (fun z => some (Value.int IntKind.i64 z)) (by dsimp only; omega)) Sub.nil)))) (List.Perm.refl _)
     ·skip
      refine At.callK 0 rfl (fun w hw hr => rflush_0 _ _ _ _ w (by omega) (by omega) (hsim1.isdead hdb) hr) Try.call90 rfl rfl ?_
      refine tA rfl rfl ?_
      refine tE ?_
      refine tR ?_
      refine tM rfl rfl ?_
      refine At.val (Val.bin rfl rfl rfl) rfl rfl rfl ?_
      refine tE ?_
      refine At.condT rfl ?_
      refine tR ?_
      refine tM rfl rfl ?_
      refine tA rfl rfl ?_
      refine tE ?_
      refine At.retC ?_
      refine At.blkR ?_
      refine At.thenR ?_
      refine At.thenR ?_
      refine At.blkR ?_
      refine At.thenR ?_
      refine At.ret1 (.inl rfl) rfl rfl rfl (fun w hw => ?_)
      rw [he, show cnt - j = (cnt - j - 1) + 1 by omega, linesE_dead hdb]
      exact ⟨_, _, rfl, hsim1, hw⟩
    ·skip
     try simp only [hasB, isSizeB, Bool.not_eq_true', Bool.not_eq_false', bne_iff_ne, ne_eq, bne_eq_false_iff_eq, beq_iff_eq, beq_eq_false_iff_ne, decide_eq_true_eq, decide_eq_false_iff_not, gt_iff_lt, ge_iff_le] at h3
     refine At.exitC ?_
     refine At.thenX ?_
     refine At.thenX ?_
     refine At.blkX ?_
     refine At.thenN ?_
     refine tR ?_
     refine tA rfl rfl ?_
     refine tE ?_
     refine At.retC ?_
     refine At.ret1 (.inl rfl) rfl rfl rfl (fun w hw => ?_)
     rw [he, show cnt - j = 0 by omega]
     exact ⟨_, _, rfl, hsim1, hw⟩

theorem rflushAll_no (p : Nat) (γ : Rg) (ρ : Rs) (a n : Int) (w : World) (ha : hasR ρ a n = false) (hd : (RDev p γ ρ).holds w) :
    Upd Try.prog 91 [.pointer (some ⟨p, 0, none⟩), .int .i64 a, .int .i64 n] (RDev p γ ρ) (.int .i64 11) (RDev p γ ρ) w := by
 refine enterRc hd Try.func91 rfl Try.ntmps91 rfl ?_
 obtain ⟨hQ, hg⟩ := RDev.facts hd
 have hln := hg.len
 have hps := hg.pos
 have hnw := hg.now
 simp only [envOf]
 refine tR ?_
 refine tA rfl rfl ?_
 refine tE ?_
 refine At.seq ?_
 refine tR ?_
 refine tM rfl rfl ?_
 refine tM rfl rfl ?_
 refine tM rfl rfl ?_
 refine At.callK 0 rfl (fun w hw hr => inside_k _ _ _ _ _ w hr) Try.call116 rfl rfl ?_
 refine At.val (Val.not rfl) rfl rfl rfl ?_
 refine tE ?_
 refine At.cond rfl (fun h1 => ?_) (fun h1 => ?_)
 ·skip
  refine tR ?_
  refine tA rfl rfl ?_
  refine tE ?_
  refine At.retC ?_
  refine At.thenR ?_
  refine At.ret1 (.inl rfl) rfl rfl rfl (fun w hw => ?_)
  exact ⟨rfl, hw⟩
 ·skip
  rw [ha] at h1; cases h1

end Go.Proofs.Ytkpbpeajkfgfiaa
