/- Parts of the proof, joined: see the law's text. -/
import Derived.Test.YtfchinibjhcejaaGreatDoorY5
import Derived.Test.YtfchinibjhcejaaGreatDoorY4
import Derived.Test.YtfchinibjhcejaaGreatDoorY3
import Derived.Deep.DeepAppendWide
set_option linter.unusedVariables false
set_option linter.unusedSimpArgs false
namespace Go.Proofs.YtfchinibjhcejaaGreatDoor
open Go Go.Wk
theorem QAt.idxPO {P : Program} {Γ : Ctx} {E : Env} {H : List Res} {ops : Array Oper} {rest : List Oper} {ψ : Act → Prop} {d : Nat} {ty : TypeId} {pos : String} {after : Array Edge} {x y : Operand} {v : Value} {t el j : Nat} {l : List (Int × BitVec 64)} {k : IntKind} {z : Int × BitVec 64} {g : Option (Nat × Bool)} (h : RdP Γ.w0 v l) (ho : Off v (prC l) Γ.S) (hu : P.underlying t = some (.slice el)) (hs : ∀ w, (sizeOf el).run P w = .ok 2 w) (hx : ev E x = some v) (hy : ev E y = some (.int k (j : Int))) (hz : l[j]? = some z)
    (hg : g = none) (hn : Nat.blt d Γ.n = true)
    (c : ∀ b o, Γ.w0.cell? ⟨b, o, none⟩ = some (.int .i64 z.1) → Γ.w0.cell? ⟨b, o + 1, none⟩ = some (b64 z.2) → ¬ Γ.S b → QAt P Γ ops ((d, .pointer (some ⟨b, o, none⟩)) :: E) H rest ψ) :
    QAt P Γ ops E H ({ dst := some d, op := .indexAddr t x y, type := ty, pos, after, guard := g } :: rest) ψ := by
  have hj := (List.getElem?_eq_some_iff.1 hz).1
  obtain ⟨b, o, cap, rfl, hc⟩ := h.at (j := j) hj
  have hp := prC_at hz
  exact QAt.val (Val.indexSl _ rfl hu hs hx hy (by omega) (by omega)) hg rfl hn (c b _ (by have := hc 0 _ (by rw [Nat.add_zero]; exact hp.1); rwa [Nat.add_zero] at this) (hc 1 _ hp.2) (ho (fun e => by rw [e] at hp; cases hp.1) b _ _ _ _ rfl))
theorem rsum_rd {v : Value} (l : List UInt8) (w : World) (h : RdB w v l) (hl : l.length ≤ 140737488355328) : PureC Tryz.prog 64 [v] (b32 (sumOn 0 l)) w := by
  obtain ⟨A, c, rfl, hb, _⟩ := h.bytes
  exact rsum_n A l l.length c w rfl hb hl
theorem written_n (v : Value) (L : List Ac) (u : Value) (U : List (Int × BitVec 64)) (w : World) (ho : w.ownsRow 0 tAc 3 v L.length (acC L)) (hl : L.length + 100 ≤ 1000000) (hu : RdP w u U) (hoU : Off u (prC U) (feet [arow v L])) (hU : U.length ≤ 8) :
    RowUpd Tryz.prog 152 [v, u] v tAc 3 L.length (acC L) (L ++ wrtA (undW U) U.length).length (acC (L ++ wrtA (undW U) U.length)) w := by
 refine enter (feet [arow v L]) [arow v L] Tryz.func152 rfl Tryz.ntmps152 rfl (Rep.one ho) ?_
 simp only [envOf]
 refine tR (tA rfl rfl (tE (tR (tA rfl rfl (At.nil (At.rowNilB 5 (At.thenN (At.seq (tR (tA rfl rfl (tE (At.block ?_))))))))))))
 skip
 refine At.loop (σ := Nat × Value × Value) (fun s => s.1 ≤ U.length) (fun s => [(0, s.2.1), (1, u), (4, .slice none 0 0), (5, s.2.2), (6, .int .i64 (s.1 : Int))]) (fun s => [brow 5 s.2.2 (wbytes (undW (U.take s.1))), arow s.2.1 (L ++ stA 72 (undW (U.take s.1)))]) (fun s => U.length - s.1) (0, v, .slice none 0 0) (Nat.zero_le _) (Sub.cons rfl (Sub.cons rfl (Sub.cons rfl (Sub.cons rfl (Sub.cons rfl Sub.nil))))) (by dsimp only; rw [show stA 72 (undW (U.take 0)) = [] from rfl, List.append_nil]; exact List.Perm.refl _) ?_
 intro s hs
 obtain ⟨k, vk, vb⟩ := s
 dsimp only at hs ⊢
 have hwk : (undW (U.take k)).length = 2 * k := by rw [undW_len, List.length_take]; omega
 have hbk := wbytes_length (undW (U.take k))
 refine At.seq (tR (tM rfl rfl (tM rfl rfl (tV (Val.lenRd hu Tryz.underlying25 rfl) rfl (tV (Val.bin rfl rfl rfl) rfl (tE ?_))))))
 refine At.cond rfl (fun h1 => ?_) (fun h1 => ?_)
 ·try simp only [hasB, isSizeB, sB] at h1
  refine At.skipC (At.thenN (At.seq (At.block (tR (tM rfl rfl (tM rfl rfl ?_))))))
  first | refine tV (Val.mulI rfl rfl (by omega) (by omega)) rfl ?_ | refine tV (Val.bin rfl rfl rfl) rfl ?_
  first | refine tV (Val.addI rfl rfl (by omega) (by omega)) rfl ?_ | refine tV (Val.bin rfl rfl rfl) rfl ?_
  refine tM rfl rfl (tM rfl rfl ?_)
  obtain ⟨q, hq⟩ : ∃ q, U[k]? = some q := ⟨_, List.getElem?_eq_getElem (by omega)⟩
  refine At.idxPO hu hoU Tryz.underlying25 Tryz.sizeOf45 rfl rfl hq rfl rfl (fun bx ox hc0 hc1 hox => (tV (Val.field ox rfl fo_45_0 rfl) rfl (tV (Val.loadOld Tryz.isAgg3 rfl hc0 hox) rfl (tV (Val.conv Tryz.underlying3 Tryz.underlying43 rfl) rfl ?_))))
  rw [wrap_u64_int q.1]
  refine At.callR 1 (n := (L ++ stA 72 (undW (U.take k))).length) (xs := acC (L ++ stA 72 (undW (U.take k)))) rfl (fun w hw hr => (by have h0 := ast_n _ (L ++ stA 72 (undW (U.take k))) (72 + 2 * k) (BitVec.ofInt 64 q.1) w hr (by simp only [List.length_append, stA_len, List.length_cons, List.length_nil]; omega); rw [show 8 * (((72 + 2 * k) : Nat) : Int) = 576 + 16 * (k : Int) from by omega] at h0; exact h0)) Tryz.call153 rfl rfl (fun v2 => ?_)
  simp only [sc0, scS]
  refine tA rfl rfl (tE (tR (tM rfl rfl (tM rfl rfl ?_))))
  first | refine tV (Val.mulI rfl rfl (by omega) (by omega)) rfl ?_ | refine tV (Val.bin rfl rfl rfl) rfl ?_
  first | refine tV (Val.addI rfl rfl (by omega) (by omega)) rfl ?_ | refine tV (Val.bin rfl rfl rfl) rfl ?_
  refine tM rfl rfl (tM rfl rfl (At.idxPO hu hoU Tryz.underlying25 Tryz.sizeOf45 rfl rfl hq rfl rfl (fun bx ox hc0 hc1 hox => (tV (Val.field (ox + 1) rfl fo_45_1 rfl) rfl (tV (Val.loadOld Tryz.isAgg43 rfl hc1 hox) rfl ?_)))))
  refine At.callR 1 (n := ((L ++ stA 72 (undW (U.take k))) ++ [Ac.st (72 + 2 * k) (BitVec.ofInt 64 q.1)]).length) (xs := acC ((L ++ stA 72 (undW (U.take k))) ++ [Ac.st (72 + 2 * k) (BitVec.ofInt 64 q.1)])) rfl (fun w hw hr => (by have h0 := ast_n _ ((L ++ stA 72 (undW (U.take k))) ++ [Ac.st (72 + 2 * k) (BitVec.ofInt 64 q.1)]) (73 + 2 * k) q.2 w hr (by simp only [List.length_append, stA_len, List.length_cons, List.length_nil]; omega); rw [show 8 * (((73 + 2 * k) : Nat) : Int) = 584 + 16 * (k : Int) from by omega] at h0; exact h0)) Tryz.call153 rfl rfl (fun v3 => ?_)
  simp only [sc0, scS]
  refine tA rfl rfl (tE (tR (tM rfl rfl (tM rfl rfl (tM rfl rfl (At.idxPO hu hoU Tryz.underlying25 Tryz.sizeOf45 rfl rfl hq rfl rfl (fun bx ox hc0 hc1 hox => (tV (Val.field ox rfl fo_45_0 rfl) rfl (tV (Val.loadOld Tryz.isAgg3 rfl hc0 hox) rfl (tV (Val.conv Tryz.underlying3 Tryz.underlying43 rfl) rfl ?_))))))))))
  rw [wrap_u64_int q.1]
  refine At.callR 0 rfl (fun w hw hr => (by have h0 := rlay_p _ (wbytes (undW (U.take k))) (BitVec.ofInt 64 q.1).toNat 8 w hr (by have := ((BitVec.ofInt 64 q.1)).isLt; omega) (by decide) (by first | omega | (simp only [List.length_append, le_length]; omega)); exact h0)) Tryz.call63 rfl rfl (fun v4 => ?_)
  simp only [sc0, scS]
  refine tA rfl rfl (tE (At.region (tM rfl rfl (tM rfl rfl (tM rfl rfl (At.idxPO hu hoU Tryz.underlying25 Tryz.sizeOf45 rfl rfl hq rfl rfl (fun bx ox hc0 hc1 hox => (tV (Val.field (ox + 1) rfl fo_45_1 rfl) rfl (tV (Val.loadOld Tryz.isAgg43 rfl hc1 hox) rfl ?_)))))))))
  refine At.callR 0 rfl (fun w hw hr => (by have h0 := rlay_p _ ((wbytes (undW (U.take k))) ++ le 8 (BitVec.ofInt 64 q.1).toNat) q.2.toNat 8 w hr (by have := (q.2).isLt; omega) (by decide) (by first | omega | (simp only [List.length_append, le_length]; omega)); exact h0)) Tryz.call63 rfl rfl (fun v5 => ?_)
  simp only [sc0, scS]
  refine tA rfl rfl (At.nil (At.blkN (At.thenN (At.region (tM rfl rfl ?_)))))
  first | refine tV (Val.addI rfl rfl (by omega) (by omega)) rfl ?_ | refine tV (Val.bin rfl rfl rfl) rfl ?_
  refine tA rfl rfl (tE ?_)
  exact At.again (k + 1, v3, v5) (show k + 1 ≤ _ by omega) (by dsimp only; omega) (Sub.cons rfl (Sub.cons rfl (Sub.cons rfl (Sub.cons rfl (Sub.cons (congrArg (fun z => some (Value.int IntKind.i64 z)) (by dsimp only; omega)) Sub.nil))))) (by dsimp only; rw [undW_snoc hq, ← wb_two, show stA 72 (undW (U.take k) ++ [BitVec.ofInt 64 q.1, q.2]) = stA 72 (undW (U.take k)) ++ [.st (72 + 2 * k) (BitVec.ofInt 64 q.1)] ++ [.st (73 + 2 * k) q.2] from by rw [show undW (U.take k) ++ [BitVec.ofInt 64 q.1, q.2] = (undW (U.take k) ++ [BitVec.ofInt 64 q.1]) ++ [q.2] from by simp, stA_snoc, stA_snoc, List.length_append, hwk, List.length_singleton, show 72 + (2 * k + 1) = 73 + 2 * k by omega], ← List.append_assoc, ← List.append_assoc])
 ·try simp only [hasB, isSizeB, sB] at h1
  refine At.exitC (At.thenX (At.thenX (At.blkX (At.thenN (At.seq ?_)))))
  obtain rfl : k = U.length := by omega
  rw [List.take_length] at hwk hbk ⊢
  obtain ⟨W, hW⟩ : ∃ W, W = undW U := ⟨_, rfl⟩
  rw [← hW] at hwk hbk ⊢
  refine At.region (tM rfl rfl (At.callP (fun w hw => rsum_rd (wbytes W) w (row_rd (hw.row (i := 0) rfl) (by decide)) (by omega)) Tryz.call64 rfl rfl (tA rfl rfl (tE (tR (tM rfl rfl (tM rfl rfl (At.callP (fun w hw => sealR_p _ _ w) Tryz.call65 rfl rfl ?_))))))))
  refine At.callR 1 (n := (L ++ stA 72 W).length) (xs := acC (L ++ stA 72 W)) rfl (fun w hw hr => (by have h0 := ast_n _ (L ++ stA 72 W) 65 (sealW (BitVec.ofInt 64 520) (sumOn 0 (wbytes W))) w hr (by simp only [List.length_append, stA_len]; omega); exact h0)) Tryz.call153 rfl rfl (fun v6 => ?_)
  simp only [sc0, scS]
  refine tA rfl rfl (tE (tR (tM rfl rfl (tM rfl rfl (tV (Val.lenRow (i := 0) Tryz.underlying29 rfl rfl) rfl ?_)))))
  first | refine tV (Val.addI rfl rfl (by omega) (by omega)) rfl ?_ | refine tV (Val.bin rfl rfl rfl) rfl ?_
  refine At.callR 1 (n := ((L ++ stA 72 W) ++ [Ac.st 65 (sealW (BitVec.ofInt 64 520) (sumOn 0 (wbytes W)))]).length) (xs := acC ((L ++ stA 72 W) ++ [Ac.st 65 (sealW (BitVec.ofInt 64 520) (sumOn 0 (wbytes W)))])) rfl (fun w hw hr => (by have hc := cnt_le (a := 512) (n := 64 + 8 * W.length); have h0 := flushes_n _ ((L ++ stA 72 W) ++ [Ac.st 65 (sealW (BitVec.ofInt 64 520) (sumOn 0 (wbytes W)))]) 512 (64 + 8 * W.length) (cntL 512 (64 + 8 * W.length)) w hr (by simp only [List.length_append, stA_len, List.length_cons, List.length_nil]; omega) (by decide) (by omega) (cntL_P _ _); rw [show (512 : Nat) / 64 = 8 from rfl, show ((64 + 8 * W.length : Nat) : Int) = 64 + ((wbytes W).length : Int) from by omega] at h0; exact h0)) Tryz.call181 rfl rfl (fun v7 => ?_)
  simp only [sc0, scS]
  refine tA rfl rfl (tE (tR (tM rfl rfl ?_)))
  refine At.callR 1 (n := (((L ++ stA 72 W) ++ [Ac.st 65 (sealW (BitVec.ofInt 64 520) (sumOn 0 (wbytes W)))]) ++ flA 8 (cntL 512 (64 + 8 * W.length))).length) (xs := acC (((L ++ stA 72 W) ++ [Ac.st 65 (sealW (BitVec.ofInt 64 520) (sumOn 0 (wbytes W)))]) ++ flA 8 (cntL 512 (64 + 8 * W.length)))) rfl (fun w hw hr => afe_n _ (((L ++ stA 72 W) ++ [Ac.st 65 (sealW (BitVec.ofInt 64 520) (sumOn 0 (wbytes W)))]) ++ flA 8 (cntL 512 (64 + 8 * W.length))) w hr (by have hc := cnt_le (a := 512) (n := 64 + 8 * W.length); simp only [List.length_append, stA_len, flA_len, List.length_cons, List.length_nil]; omega)) Tryz.call155 rfl rfl (fun v8 => ?_)
  simp only [sc0, scS]
  refine tA rfl rfl (tE (tR (tM rfl rfl (tM rfl rfl (tV (Val.lenRd hu Tryz.underlying25 rfl) rfl (tV (Val.conv Tryz.underlying3 Tryz.underlying106 rfl) rfl ?_))))))
  rw [wrap_u32_int (U.length : Int)]
  refine At.callP (fun w hw => sealR_p _ _ w) Tryz.call65 rfl rfl ?_
  refine At.callR 1 (n := ((((L ++ stA 72 W) ++ [Ac.st 65 (sealW (BitVec.ofInt 64 520) (sumOn 0 (wbytes W)))]) ++ flA 8 (cntL 512 (64 + 8 * W.length))) ++ [Ac.fe]).length) (xs := acC ((((L ++ stA 72 W) ++ [Ac.st 65 (sealW (BitVec.ofInt 64 520) (sumOn 0 (wbytes W)))]) ++ flA 8 (cntL 512 (64 + 8 * W.length))) ++ [Ac.fe])) rfl (fun w hw hr => (by have hc := cnt_le (a := 512) (n := 64 + 8 * W.length); have h0 := ast_n _ ((((L ++ stA 72 W) ++ [Ac.st 65 (sealW (BitVec.ofInt 64 520) (sumOn 0 (wbytes W)))]) ++ flA 8 (cntL 512 (64 + 8 * W.length))) ++ [Ac.fe]) 64 (sealW (BitVec.ofInt 64 512) (BitVec.ofInt 32 (U.length : Int))) w hr (by simp only [List.length_append, stA_len, flA_len, List.length_cons, List.length_nil]; omega); exact h0)) Tryz.call153 rfl rfl (fun v9 => ?_)
  simp only [sc0, scS]
  refine tA rfl rfl (tE (tR (tM rfl rfl ?_)))
  refine At.callR 1 (n := (((((L ++ stA 72 W) ++ [Ac.st 65 (sealW (BitVec.ofInt 64 520) (sumOn 0 (wbytes W)))]) ++ flA 8 (cntL 512 (64 + 8 * W.length))) ++ [Ac.fe]) ++ [Ac.st 64 (sealW (BitVec.ofInt 64 512) (BitVec.ofInt 32 (U.length : Int)))]).length) (xs := acC (((((L ++ stA 72 W) ++ [Ac.st 65 (sealW (BitVec.ofInt 64 520) (sumOn 0 (wbytes W)))]) ++ flA 8 (cntL 512 (64 + 8 * W.length))) ++ [Ac.fe]) ++ [Ac.st 64 (sealW (BitVec.ofInt 64 512) (BitVec.ofInt 32 (U.length : Int)))])) rfl (fun w hw hr => (by have hc := cnt_le (a := 512) (n := 64 + 8 * W.length); have h0 := afl_n _ (((((L ++ stA 72 W) ++ [Ac.st 65 (sealW (BitVec.ofInt 64 520) (sumOn 0 (wbytes W)))]) ++ flA 8 (cntL 512 (64 + 8 * W.length))) ++ [Ac.fe]) ++ [Ac.st 64 (sealW (BitVec.ofInt 64 512) (BitVec.ofInt 32 (U.length : Int)))]) 8 w hr (by simp only [List.length_append, stA_len, flA_len, List.length_cons, List.length_nil]; omega); exact h0)) Tryz.call182 rfl rfl (fun v10 => ?_)
  simp only [sc0, scS]
  refine tA rfl rfl (tE (tR (tM rfl rfl ?_)))
  refine At.callR 1 (n := ((((((L ++ stA 72 W) ++ [Ac.st 65 (sealW (BitVec.ofInt 64 520) (sumOn 0 (wbytes W)))]) ++ flA 8 (cntL 512 (64 + 8 * W.length))) ++ [Ac.fe]) ++ [Ac.st 64 (sealW (BitVec.ofInt 64 512) (BitVec.ofInt 32 (U.length : Int)))]) ++ [Ac.fl 8]).length) (xs := acC ((((((L ++ stA 72 W) ++ [Ac.st 65 (sealW (BitVec.ofInt 64 520) (sumOn 0 (wbytes W)))]) ++ flA 8 (cntL 512 (64 + 8 * W.length))) ++ [Ac.fe]) ++ [Ac.st 64 (sealW (BitVec.ofInt 64 512) (BitVec.ofInt 32 (U.length : Int)))]) ++ [Ac.fl 8])) rfl (fun w hw hr => afe_n _ ((((((L ++ stA 72 W) ++ [Ac.st 65 (sealW (BitVec.ofInt 64 520) (sumOn 0 (wbytes W)))]) ++ flA 8 (cntL 512 (64 + 8 * W.length))) ++ [Ac.fe]) ++ [Ac.st 64 (sealW (BitVec.ofInt 64 512) (BitVec.ofInt 32 (U.length : Int)))]) ++ [Ac.fl 8]) w hr (by have hc := cnt_le (a := 512) (n := 64 + 8 * W.length); simp only [List.length_append, stA_len, flA_len, List.length_cons, List.length_nil]; omega)) Tryz.call155 rfl rfl (fun v11 => ?_)
  simp only [sc0, scS]
  refine tA rfl rfl (tE (At.retC (At.ret1 (.inl rfl) rfl rfl rfl (fun w hw => ?_))))
  rw [show L ++ wrtA W U.length = (((((((L ++ stA 72 W) ++ [Ac.st 65 (sealW (BitVec.ofInt 64 520) (sumOn 0 (wbytes W)))]) ++ flA 8 (cntL 512 (64 + 8 * W.length))) ++ [Ac.fe]) ++ [Ac.st 64 (sealW (BitVec.ofInt 64 512) (BitVec.ofInt 32 (U.length : Int)))]) ++ [Ac.fl 8]) ++ [Ac.fe]) from by unfold wrtA wrA wrB; rw [stoA_64]; simp only [List.append_assoc, List.cons_append, List.nil_append]]
  exact ⟨_, rfl, hw.drop (List.singleton_sublist.2 (List.mem_of_getElem? (i := 1) rfl))⟩
end Go.Proofs.YtfchinibjhcejaaGreatDoor
namespace Go.Proofs.YtfchinibjhcejaaGreatDoor
open Go Go.Wk
noncomputable def refE (σ : Ds) (sp si sc sd : Int) (cs : List (Int × BitVec 64)) : Int :=
  if ¬ (GoodSup sp si sc ∧ sd = 4 + si / 8 ∧ 8 * (σ.ws.length : Int) = 512 * sp) then 30 else if cs.length = 0 ∨ 8 < cs.length then 41 else if ¬ PlK si cs cs.length then 40 else if ¬ (openUnE (page (wbytes (viewWs σ.ws))) = 0 ∧ openUnL (page (wbytes (viewWs σ.ws))) = []) then 35 else 0
variable {σ : Ds} {sp si sc sd : Int} {cs : List (Int × BitVec 64)}
theorem ref_30 (h : ¬ (GoodSup sp si sc ∧ sd = 4 + si / 8 ∧ 8 * (σ.ws.length : Int) = 512 * sp)) : refE σ sp si sc sd cs = 30 := if_pos h
theorem ref_41 (h : (GoodSup sp si sc ∧ sd = 4 + si / 8 ∧ 8 * (σ.ws.length : Int) = 512 * sp)) (h1 : cs.length = 0 ∨ 8 < cs.length) : refE σ sp si sc sd cs = 41 := by unfold refE; rw [if_neg (fun g => g h), if_pos h1]
theorem ref_40 (h : (GoodSup sp si sc ∧ sd = 4 + si / 8 ∧ 8 * (σ.ws.length : Int) = 512 * sp)) (h1 : ¬ (cs.length = 0 ∨ 8 < cs.length)) (h2 : ¬ PlK si cs cs.length) : refE σ sp si sc sd cs = 40 := by unfold refE; rw [if_neg (fun g => g h), if_neg h1, if_pos h2]
theorem ref_35 (h : (GoodSup sp si sc ∧ sd = 4 + si / 8 ∧ 8 * (σ.ws.length : Int) = 512 * sp)) (h1 : ¬ (cs.length = 0 ∨ 8 < cs.length)) (h2 : PlK si cs cs.length) (h3 : ¬ (openUnE (page (wbytes (viewWs σ.ws))) = 0 ∧ openUnL (page (wbytes (viewWs σ.ws))) = [])) : refE σ sp si sc sd cs = 35 := by unfold refE; rw [if_neg (fun g => g h), if_neg h1, if_neg (fun g => g h2), if_pos h3]
theorem ref_0 (h : (GoodSup sp si sc ∧ sd = 4 + si / 8 ∧ 8 * (σ.ws.length : Int) = 512 * sp)) (h1 : ¬ (cs.length = 0 ∨ 8 < cs.length)) (h2 : PlK si cs cs.length) (h3 : openUnE (page (wbytes (viewWs σ.ws))) = 0 ∧ openUnL (page (wbytes (viewWs σ.ws))) = []) : refE σ sp si sc sd cs = 0 := by unfold refE; rw [if_neg (fun g => g h), if_neg h1, if_neg (fun g => g h2), if_neg (fun g => g h3)]
theorem ref_com (h : refE σ sp si sc sd cs ≠ 0) : comE σ sp si sc sd cs = (refE σ sp si sc sd cs, σ) := by
  by_cases a1 : (GoodSup sp si sc ∧ sd = 4 + si / 8 ∧ 8 * (σ.ws.length : Int) = 512 * sp)
  · by_cases a2 : cs.length = 0 ∨ 8 < cs.length
    · rw [ref_41 a1 a2, com_41 a1 a2]
    · by_cases a3 : PlK si cs cs.length
      · by_cases a4 : openUnE (page (wbytes (viewWs σ.ws))) = 0 ∧ openUnL (page (wbytes (viewWs σ.ws))) = []
        · exact absurd (ref_0 a1 a2 a3 a4) h
        · rw [ref_35 a1 a2 a3 a4, com_35 a1 a2 a3 a4]
      · rw [ref_40 a1 a2 a3, com_40 a1 a2 a3]
  · rw [ref_30 a1, com_30 a1]
theorem ref_ok (h : refE σ sp si sc sd cs = 0) : (GoodSup sp si sc ∧ sd = 4 + si / 8 ∧ 8 * (σ.ws.length : Int) = 512 * sp) ∧ ¬ (cs.length = 0 ∨ 8 < cs.length) ∧ PlK si cs cs.length ∧ openUnE (page (wbytes (viewWs σ.ws))) = 0 ∧ openUnL (page (wbytes (viewWs σ.ws))) = [] := by
  by_cases a1 : (GoodSup sp si sc ∧ sd = 4 + si / 8 ∧ 8 * (σ.ws.length : Int) = 512 * sp)
  · by_cases a2 : cs.length = 0 ∨ 8 < cs.length
    · rw [ref_41 a1 a2] at h; exact absurd h (by decide)
    · by_cases a3 : PlK si cs cs.length
      · by_cases a4 : openUnE (page (wbytes (viewWs σ.ws))) = 0 ∧ openUnL (page (wbytes (viewWs σ.ws))) = []
        · exact ⟨a1, a2, a3, a4⟩
        · rw [ref_35 a1 a2 a3 a4] at h; exact absurd h (by decide)
      · rw [ref_40 a1 a2 a3] at h; exact absurd h (by decide)
  · rw [ref_30 a1] at h; exact absurd h (by decide)
theorem refused_k (p : Nat) (γ : Rg) (ρ : Rs) (σ : Ds) (sp si sc sd : Int) (v : Value) (cs : List (Int × BitVec 64)) (w : World) (hsim : Sim σ ρ) (hv : RdP w v cs) (hoV : Off v (prC cs) (feet [RDev p γ ρ])) (hb : ∀ q ∈ cs, -9223372036854775808 ≤ q.1 ∧ q.1 ≤ 9223372036854775807) (hcl : cs.length ≤ 140737488355328) (hspb : -9223372036854775808 ≤ sp ∧ sp ≤ 9223372036854775807) (hd : (RDev p γ ρ).holds w) :
    Upd Tryz.prog 150 [.pointer (some ⟨p, 0, none⟩), .agg #[.int .i64 sp, .int .i64 si, .int .i64 sc, .int .i64 sd], v] (RDev p γ ρ) (.int .i64 (refE σ sp si sc sd cs)) (RDev p γ ρ) w := by
 refine enterRc hd Tryz.func150 rfl Tryz.ntmps150 rfl ?_
 obtain ⟨hQ, hg⟩ := RDev.facts hd
 have hln := hg.len
 have hps := hg.pos
 have hnw := hg.now
 have hsl := hsim.len
 have hXl : (wbytes (viewWs σ.ws)).length = 8 * σ.ws.length := by rw [wbytes_length, viewWs, List.length_map]
 simp only [envOf]
 refine tR (At.box rfl rfl rfl (fun b1 => (tA rfl rfl (tE (At.seq (At.seq ?_))))))
 apply At.any (t := 5)
 · rfl
 refine KAt.pin (fun w hw => hw) (KAt.take 0 (Val.loadAll (i := 0) Tryz.isAgg31 Tryz.sizeOf31 rfl rfl rfl) rfl rfl rfl rfl (fun w hw => hw) (by decide +kernel) (KAt.take 1 (Val.move rfl) rfl rfl rfl rfl (fun w hw => hw) (by decide +kernel) (KAt.only 2 rfl (by decide +kernel) ?_)))
 refine At.callK 1 rfl (fun w hw hr => (by have h0 := rsize_k _ _ ρ w hr; rw [show 64 * (ρ.ls.length : Int) = 8 * (σ.ws.length : Int) from by omega] at h0; exact h0)) Tryz.call132 rfl rfl (At.nil (KAt.go (fun w hw => hw) (KAt.only 3 rfl (by decide +kernel) (At.callP (fun w hw => fitsR_p _ _ _ _ _ w hspb) Tryz.call179 rfl rfl (At.nil (KAt.go (fun w hw => hw) (KAt.take 4 (Val.not rfl) rfl rfl rfl rfl (fun w hw => hw) (by decide +kernel) (KAt.done (by decide +kernel) (At.thenN ?_)))))))))
 refine At.cond rfl (fun h2 => ?_) (fun h2 => ?_)
 ·try simp only [hasB, isSizeB, sB] at h2
  have hX := h2
  refine tR (tA rfl rfl (tE (At.retC (At.thenR (At.ret1 (.inl rfl) rfl rfl rfl (fun w hw => ?_))))))
  rw [ref_30 hX]
  exact ⟨rfl, hw.drop (List.singleton_sublist.2 (List.mem_of_getElem? (i := 1) rfl))⟩
 ·try simp only [hasB, isSizeB, sB] at h2
  have hX := h2
  obtain ⟨hg, hsd, hN⟩ := hX
  have hX := (show (GoodSup sp si sc ∧ sd = 4 + si / 8 ∧ 8 * (σ.ws.length : Int) = 512 * sp) from ⟨hg, hsd, hN⟩)
  have hg2 := hg
  unfold GoodSup at hg2
  refine At.skipC (At.thenN (At.seq (tR (At.weaken [(0, _), (1, _), (2, _), (4, _), (6, _), (12, _), (13, _), (14, _), (15, _), (16, _)] (Sub.cons rfl (Sub.cons rfl (Sub.cons rfl (Sub.cons rfl (Sub.cons rfl (Sub.cons rfl (Sub.cons rfl (Sub.cons rfl (Sub.cons rfl (Sub.cons rfl Sub.nil)))))))))) ?_))))
  refine At.boolMeet 8 24 (decide (cs.length = 0 ∨ 8 < cs.length)) ?_ ?_
  ·simp only [List.take_succ_cons, List.take_zero]
   refine tM rfl rfl (tV (Val.lenRd hv Tryz.underlying24 rfl) rfl (tV (Val.bin rfl rfl rfl) rfl (tM rfl rfl ?_)))
   refine At.split (t := 20) rfl (fun h3 => ?_) (fun h3 => ?_)
   ·try simp only [hasB, isSizeB, sB] at h3
    refine At.no rfl rfl rfl rfl (At.no rfl rfl rfl rfl (At.no rfl rfl rfl rfl (tV (Val.pickT rfl rfl) rfl (At.nil ?_))))
    exact At.boolEnd rfl (by apply Bool.eq_iff_iff.2; (simp only [decide_eq_true_eq, Bool.false_eq_true, false_iff, true_iff, iff_true, iff_false, gt_iff_lt, ge_iff_le, beq_iff_eq, bne_iff_ne, ne_eq]) <;> omega) (by repeat (first | exact Sub.nil | refine Sub.cons rfl ?_))
   ·try simp only [hasB, isSizeB, sB] at h3
    refine At.yes rfl rfl (tM rfl rfl (At.yes rfl rfl (tV (Val.lenRd hv Tryz.underlying24 rfl) rfl (At.yes rfl rfl (tV (Val.bin rfl rfl rfl) rfl (tV (Val.pickF rfl rfl) rfl (At.nil ?_)))))))
    exact At.boolEnd rfl (by apply Bool.eq_iff_iff.2; (simp only [decide_eq_true_eq, Bool.false_eq_true, false_iff, true_iff, iff_true, iff_false, gt_iff_lt, ge_iff_le, beq_iff_eq, bne_iff_ne, ne_eq]) <;> omega) (by repeat (first | exact Sub.nil | refine Sub.cons rfl ?_))
  ·simp only [List.drop_succ_cons, List.drop_zero]
   refine tE ?_
   refine At.cond rfl (fun h4 => ?_) (fun h4 => ?_)
   ·try simp only [hasB, isSizeB, sB] at h4
    refine tR (tA rfl rfl (tE (At.retC (At.thenR (At.ret1 (.inl rfl) rfl rfl rfl (fun w hw => ?_))))))
    rw [ref_41 hX (by assumption)]
    exact ⟨rfl, hw.drop (List.singleton_sublist.2 (List.mem_of_getElem? (i := 1) rfl))⟩
   ·try simp only [hasB, isSizeB, sB] at h4
    refine At.skipC (At.thenN (At.seq (tR (tA rfl rfl (tE (At.block ?_))))))
    skip
    refine At.loop (σ := Nat) (fun k => k ≤ cs.length ∧ PlK si cs k) (fun k => [(0, .pointer (some ⟨p, 0, none⟩)), (2, v), (4, .pointer (some ⟨b1, 0, none⟩)), (7, .int .i64 (k : Int))]) (fun k => [blk b1 31 ([.int .i64 sp, .int .i64 si, .int .i64 sc, .int .i64 sd]), RDev p γ (ρ)]) (fun k => cs.length - k) 0 ⟨Nat.zero_le _, PlK_0 si cs⟩ (Sub.cons rfl (Sub.cons rfl (Sub.cons rfl (Sub.cons rfl Sub.nil)))) (List.Perm.refl _) ?_
    intro k hs
    obtain ⟨hk, hpl⟩ := hs
    refine At.seq (tR (tM rfl rfl (tM rfl rfl (tV (Val.lenRd hv Tryz.underlying24 rfl) rfl (tV (Val.bin rfl rfl rfl) rfl (tE ?_))))))
    refine At.cond rfl (fun h5 => ?_) (fun h5 => ?_)
    ·try simp only [hasB, isSizeB, sB] at h5
     refine At.skipC (At.thenN (At.seq (At.block (At.seq (At.quiet rfl (by decide +kernel) (qM rfl rfl (qM rfl rfl ?_)))))))
     obtain ⟨q, hq⟩ : ∃ q, cs[k]? = some q := ⟨_, List.getElem?_eq_getElem (by omega)⟩
     refine QAt.idxPO hv hoV Tryz.underlying24 Tryz.sizeOf56 rfl rfl hq rfl rfl (fun bx ox hc0 hc1 hox => (qV (Val.field ox rfl fo_56_0 rfl) rfl (qV (Val.loadOld Tryz.isAgg3 rfl hc0 hox) rfl (qV (Val.field 1 rfl fo_31_1 rfl) rfl (qV (Val.load (i := 0) Tryz.isAgg3 rfl rfl rfl) rfl (QAt.callP (fun w hw => tableW_p q.1 _ w (by omega)) Tryz.call164 rfl rfl (qV (Val.assign rfl) rfl (QAt.fin (At.thenN (At.seq (tR (tM rfl rfl (tV (Val.not rfl) rfl (tE ?_))))))))))))))
     refine At.cond rfl (fun h6 => ?_) (fun h6 => ?_)
     ·try simp only [hasB, isSizeB, sB] at h6
      refine tR (tA rfl rfl (tE (At.retC (At.thenR (At.blkR (At.thenR (At.thenR (At.blkR (At.thenR (At.ret1 (.inl rfl) rfl rfl rfl (fun w hw => ?_)))))))))))
      rw [ref_40 hX (by assumption) (PlK_not hq (fun g => absurd g.1 (by assumption)))]
      exact ⟨rfl, hw.drop (List.singleton_sublist.2 (List.mem_of_getElem? (i := 1) rfl))⟩
     ·try simp only [hasB, isSizeB, sB] at h6
      refine At.skipC (At.thenN (tR (tA rfl rfl (tE (At.block ?_)))))
      skip
      refine At.loop (σ := Nat) (fun j => j ≤ k ∧ q.1 ∉ (cs.take j).map Prod.fst) (fun j => [(0, .pointer (some ⟨p, 0, none⟩)), (2, v), (4, .pointer (some ⟨b1, 0, none⟩)), (7, .int .i64 (k : Int)), (9, .int .i64 (j : Int))]) (fun j => [blk b1 31 ([.int .i64 sp, .int .i64 si, .int .i64 sc, .int .i64 sd]), RDev p γ (ρ)]) (fun j => k - j) 0 ⟨Nat.zero_le _, by simp⟩ (Sub.cons rfl (Sub.cons rfl (Sub.cons rfl (Sub.cons rfl (Sub.cons rfl Sub.nil))))) (List.Perm.refl _) ?_
      intro j hj2
      obtain ⟨hj, hnj⟩ := hj2
      refine At.seq (tR (tM rfl rfl (tM rfl rfl (tV (Val.bin rfl rfl rfl) rfl (tE ?_)))))
      refine At.cond rfl (fun h7 => ?_) (fun h7 => ?_)
      ·try simp only [hasB, isSizeB, sB] at h7
       refine At.skipC (At.thenN (At.seq (At.block (At.seq (At.quiet rfl (by decide +kernel) (qM rfl rfl (qM rfl rfl ?_)))))))
       obtain ⟨r0, hr0⟩ : ∃ q, cs[j]? = some q := ⟨_, List.getElem?_eq_getElem (by omega)⟩
       refine QAt.idxPO hv hoV Tryz.underlying24 Tryz.sizeOf56 rfl rfl hr0 rfl rfl (fun bx ox hc0 hc1 hox => (qV (Val.field ox rfl fo_56_0 rfl) rfl (qV (Val.loadOld Tryz.isAgg3 rfl hc0 hox) rfl (qM rfl rfl (qM rfl rfl (QAt.idxPO hv hoV Tryz.underlying24 Tryz.sizeOf56 rfl rfl hq rfl rfl (fun bx ox hc0 hc1 hox => (qV (Val.field ox rfl fo_56_0 rfl) rfl (qV (Val.loadOld Tryz.isAgg3 rfl hc0 hox) rfl (qV (Val.bin rfl rfl rfl) rfl (QAt.fin (At.thenN ?_))))))))))))
       refine At.cond rfl (fun h8 => ?_) (fun h8 => ?_)
       ·try simp only [hasB, isSizeB, sB] at h8
        have hin : q.1 ∈ (cs.take k).map Prod.fst := List.mem_map.2 ⟨r0, List.mem_of_getElem? (i := j) (by rw [List.getElem?_take, if_pos (by omega)]; exact hr0), h8⟩
        refine tR (tA rfl rfl (tE (At.retC (At.blkR (At.thenR (At.thenR (At.blkR (At.blkR (At.thenR (At.thenR (At.blkR (At.thenR (At.ret1 (.inl rfl) rfl rfl rfl (fun w hw => ?_))))))))))))))
        rw [ref_40 hX (by assumption) (PlK_not hq (fun g => g.2 (hin)))]
        exact ⟨rfl, hw.drop (List.singleton_sublist.2 (List.mem_of_getElem? (i := 1) rfl))⟩
       ·try simp only [hasB, isSizeB, sB] at h8
        have hne := h8
        refine At.skipC (At.blkN (At.thenN (At.region (tM rfl rfl ?_))))
        first | refine tV (Val.addI rfl rfl (by omega) (by omega)) rfl ?_ | refine tV (Val.bin rfl rfl rfl) rfl ?_
        refine tA rfl rfl (tE ?_)
        exact At.again (j + 1) ⟨by omega, by rw [map_take_snoc hr0, List.mem_append, List.mem_singleton]; exact fun h => h.elim hnj (fun e => hne e.symm)⟩ (by omega) (Sub.cons rfl (Sub.cons rfl (Sub.cons rfl (Sub.cons rfl (Sub.cons (congrArg (fun z => some (Value.int IntKind.i64 z)) (by omega)) Sub.nil))))) (List.Perm.refl _)
      ·try simp only [hasB, isSizeB, sB] at h7
       refine At.exitC (At.thenX (At.thenX (At.blkX (At.blkN (At.thenN (At.region (tM rfl rfl ?_)))))))
       first | refine tV (Val.addI rfl rfl (by omega) (by omega)) rfl ?_ | refine tV (Val.bin rfl rfl rfl) rfl ?_
       refine tA rfl rfl (tE ?_)
       exact At.again (k + 1) ⟨by omega, PlK_succ hpl hq (by assumption) (by have e9 : j = k := (by omega); subst e9; exact hnj)⟩ (by omega) (Sub.cons rfl (Sub.cons rfl (Sub.cons rfl (Sub.cons (congrArg (fun z => some (Value.int IntKind.i64 z)) (by omega)) Sub.nil)))) (List.Perm.refl _)
    ·try simp only [hasB, isSizeB, sB] at h5
     refine At.exitC (At.thenX (At.thenX (At.blkX (At.thenN (tR (tM rfl rfl (At.callRK 1 rfl (fun w hw hr => rview_s _ _ _ σ w hsim (by omega) hr) Tryz.call161 rfl rfl (fun v9 => (At.callNT (g := (fun v => .tuple #[v, .int .i64 (openUnE (page (wbytes (viewWs σ.ws))))])) (fun w hw => undoR_n _ (wbytes (viewWs σ.ws)) w (row_rd (hw.row (i := 0) rfl) (by decide)) (by omega) (by omega)) Tryz.call163 rfl rfl (fun v10 => (tM rfl rfl (tV (Val.extract rfl rfl) rfl (tV (Val.extract rfl rfl) rfl (tA rfl rfl (tA rfl rfl (tE (At.seq (tR (At.weaken [(0, _), (2, _), (4, _), (7, _), (25, _), (26, _), (27, _), (28, _), (58, _), (59, _), (60, _), (57, _), (61, _), (62, _), (10, _), (11, _)] (Sub.cons rfl (Sub.cons rfl (Sub.cons rfl (Sub.cons rfl (Sub.cons rfl (Sub.cons rfl (Sub.cons rfl (Sub.cons rfl (Sub.cons rfl (Sub.cons rfl (Sub.cons rfl (Sub.cons rfl (Sub.cons rfl (Sub.cons rfl (Sub.cons rfl (Sub.cons rfl Sub.nil)))))))))))))))) ?_)))))))))))))))))))
     refine At.boolMeet 7 69 (decide (¬ (openUnE (page (wbytes (viewWs σ.ws))) = 0 ∧ openUnL (page (wbytes (viewWs σ.ws))) = []))) ?_ ?_
     ·simp only [List.take_succ_cons, List.take_zero]
      refine tM rfl rfl (tV (Val.bin rfl rfl rfl) rfl (tM rfl rfl ?_))
      refine At.split (t := 65) rfl (fun h11 => ?_) (fun h11 => ?_)
      ·try simp only [hasB, isSizeB, sB] at h11
       refine At.no rfl rfl rfl rfl (At.no rfl rfl rfl rfl (At.no rfl rfl rfl rfl (tV (Val.pickT rfl rfl) rfl (At.nil ?_))))
       exact At.boolEnd rfl (by apply Bool.eq_iff_iff.2; (simp only [decide_eq_true_eq, Bool.false_eq_true, false_iff, true_iff, beq_iff_eq, bne_iff_ne, ne_eq]) <;> first | exact fun g => absurd g.1 (by assumption) | exact ⟨fun g h => g (by rw [h.2]; rfl), fun g e => g ⟨by assumption, List.eq_nil_of_length_eq_zero (by omega)⟩⟩) (by repeat (first | exact Sub.nil | refine Sub.cons rfl ?_))
      ·try simp only [hasB, isSizeB, sB] at h11
       refine At.yes rfl rfl (tM rfl rfl (At.yes rfl rfl (tV (Val.lenRow (i := 0) Tryz.underlying25 rfl rfl) rfl (At.yes rfl rfl (tV (Val.bin rfl rfl rfl) rfl (tV (Val.pickF rfl rfl) rfl (At.nil ?_)))))))
       exact At.boolEnd rfl (by apply Bool.eq_iff_iff.2; (simp only [decide_eq_true_eq, Bool.false_eq_true, false_iff, true_iff, beq_iff_eq, bne_iff_ne, ne_eq]) <;> first | exact fun g => absurd g.1 (by assumption) | exact ⟨fun g h => g (by rw [h.2]; rfl), fun g e => g ⟨by assumption, List.eq_nil_of_length_eq_zero (by omega)⟩⟩) (by repeat (first | exact Sub.nil | refine Sub.cons rfl ?_))
     ·simp only [List.drop_succ_cons, List.drop_zero]
      refine tE ?_
      refine At.cond rfl (fun h12 => ?_) (fun h12 => ?_)
      ·try simp only [hasB, isSizeB, sB] at h12
       refine tR (tA rfl rfl (tE (At.retC (At.thenR (At.ret1 (.inl rfl) rfl rfl rfl (fun w hw => ?_))))))
       rw [ref_35 hX (by assumption) (by have e9 : k = cs.length := (by omega); subst e9; exact hpl) (by assumption)]
       exact ⟨rfl, hw.drop (List.singleton_sublist.2 (List.mem_of_getElem? (i := 3) rfl))⟩
      ·try simp only [hasB, isSizeB, sB] at h12
       refine At.skipC (At.thenN (tR (tA rfl rfl (tE (At.retC (At.ret1 (.inl rfl) rfl rfl rfl (fun w hw => ?_)))))))
       rw [ref_0 hX (by assumption) (by have e9 : k = cs.length := (by omega); subst e9; exact hpl) (Classical.not_not.1 (by assumption))]
       exact ⟨rfl, hw.drop (List.singleton_sublist.2 (List.mem_of_getElem? (i := 3) rfl))⟩
end Go.Proofs.YtfchinibjhcejaaGreatDoor
namespace Go.Proofs.YtfchinibjhcejaaGreatDoor
open Go Go.Wk
def stsA (cs : List (Int × BitVec 64)) : List Ac := cs.map fun (q : Int × BitVec 64) => Ac.st (q.1 / 8).toNat q.2
theorem stsA_len (cs : List (Int × BitVec 64)) : (stsA cs).length = cs.length := List.length_map ..
theorem stsA_snoc {cs : List (Int × BitVec 64)} {k : Nat} {q : Int × BitVec 64} (h : cs[k]? = some q) : stsA (cs.take (k + 1)) = stsA (cs.take k) ++ [.st (q.1 / 8).toNat q.2] := by unfold stsA; rw [List.take_succ_of_get h, List.map_append]; rfl
theorem sts_ch (cs : List (Int × BitVec 64)) : chA (ksOf cs) (cs.map Prod.snd) = stsA cs ++ ((lnK (ksOf cs)).map Ac.fl ++ [.fe]) := by
  unfold chA stlA
  congr 1
  unfold ksOf stsA
  rw [List.zip_map', List.map_map]; rfl
def unF (σ : Ds) (cs : List (Int × BitVec 64)) : List (Int × BitVec 64) := cs.map fun (q : Int × BitVec 64) => (q.1, nowAt σ (q.1 / 8).toNat)
theorem unF_len (σ : Ds) (cs : List (Int × BitVec 64)) : (unF σ cs).length = cs.length := List.length_map ..
theorem unF_snoc {σ : Ds} {cs : List (Int × BitVec 64)} {k : Nat} {q : Int × BitVec 64} (h : cs[k]? = some q) : unF σ (cs.take (k + 1)) = unF σ (cs.take k) ++ [(q.1, nowAt σ (q.1 / 8).toNat)] := by unfold unF; rw [List.take_succ_of_get h, List.map_append]; rfl
theorem unF_w {σ : Ds} {cs : List (Int × BitVec 64)} (h : cs.map Prod.fst = (ksOf cs).map adF) : undW (unF σ cs) = recW σ (ksOf cs) := by
  unfold undW unF recW ksOf at *
  rw [List.flatMap_map, List.flatMap_map]
  rw [List.map_map] at h
  rw [List.flatMap_def, List.flatMap_def]
  refine congrArg List.flatten (List.map_congr_left fun q hq => ?_)
  have h1 : q.1 = 8 * (((q.1 / 8).toNat : Nat) : Int) := by
    obtain ⟨j, hj⟩ := List.getElem?_of_mem hq
    have := congrArg (fun l : List Int => l[j]?) h
    simp only [List.getElem?_map, hj] at this
    exact Option.some.inj this
  rw [show BitVec.ofInt 64 (8 * (((q.1 / 8).toNat : Nat) : Int)) = BitVec.ofInt 64 q.1 from by rw [← h1]]
theorem com_flat {σ : Ds} {cs : List (Int × BitVec 64)} (h : cs.map Prod.fst = (ksOf cs).map adF) : ([] : List Ac) ++ wrtA (undW (unF σ cs)) (unF σ cs).length ++ stsA cs ++ (lnK (ksOf cs)).map Ac.fl ++ [.fe] ++ stoA 64 0 = (comL σ (ksOf cs) (cs.map Prod.snd)).flatten := by
  unfold comL wrtA
  rw [unF_w h, sts_ch, unF_len, ksOf_len]
  simp only [List.flatten_cons, List.flatten_nil, List.append_nil, List.nil_append, List.append_assoc]
theorem rec_flat (cs : List (Int × BitVec 64)) : ([] : List Ac) ++ stsA cs ++ (lnK (ksOf cs)).map Ac.fl ++ [.fe] ++ stoA 64 0 = (recL (ksOf cs) (cs.map Prod.snd)).flatten := by
  unfold recL
  rw [sts_ch]
  simp only [List.flatten_cons, List.flatten_nil, List.append_nil, List.nil_append, List.append_assoc]
theorem ks_tab {cs : List (Int × BitVec 64)} {i : Int} (h : ∀ q ∈ cs, TW q.1 i) (hi : i ≤ 256) : ∀ k ∈ ksOf cs, 256 ≤ k ∧ k < 2304 := by
  intro k hk
  obtain ⟨q, hq, rfl⟩ := List.mem_map.1 hk
  have := h q hq
  unfold TW at this
  omega
theorem acs_ok {σ : Ds} {ks : List Nat} {xs : List (BitVec 64)} (hk : ∀ k ∈ ks, k < σ.ws.length) (hn : ks.length ≤ 8) (hN : 512 ≤ σ.ws.length) : (∀ a ∈ (comL σ ks xs).flatten, AcOk σ.ws.length a) ∧ ∀ a ∈ (recL ks xs).flatten, AcOk σ.ws.length a := by
  refine ⟨fun a ha => ?_, fun a ha => ?_⟩
  · obtain ⟨A, hA, ha⟩ := List.mem_flatten.1 ha
    unfold comL at hA
    simp only [List.mem_cons, List.not_mem_nil, or_false] at hA
    rcases hA with rfl | rfl | rfl | rfl
    · exact wrA_ok (by rw [recW_len]; omega) (by omega) a ha
    · exact stoA_ok (by omega) a ha
    · exact chA_ok hk a ha
    · exact stoA_ok (by omega) a ha
  · obtain ⟨A, hA, ha⟩ := List.mem_flatten.1 ha
    unfold recL at hA
    simp only [List.mem_cons, List.not_mem_nil, or_false] at hA
    rcases hA with rfl | rfl
    · exact chA_ok hk a ha
    · exact stoA_ok (by omega) a ha
theorem rcommit_s (p : Nat) (γ : Rg) (ρ : Rs) (σ : Ds) (sp si sc sd : Int) (v : Value) (cs : List (Int × BitVec 64)) (w : World) (hsim : Sim σ ρ) (hv : RdP w v cs) (hoV : Off v (prC cs) (feet [RDev p γ ρ])) (hb : ∀ q ∈ cs, -9223372036854775808 ≤ q.1 ∧ q.1 ≤ 9223372036854775807) (hcl : cs.length ≤ 140737488355328) (hspb : -9223372036854775808 ≤ sp ∧ sp ≤ 9223372036854775807) (hst : σ.steps + 200 ≤ 1099511627776) (hd : (RDev p γ ρ).holds w) :
    RDevP Tryz.prog 124 [.pointer (some ⟨p, 0, none⟩), .agg #[.int .i64 sp, .int .i64 si, .int .i64 sc, .int .i64 sd], v] p γ ρ (.int .i64 (comE σ sp si sc sd cs).1) (Sim (comE σ sp si sc sd cs).2) w := by
 refine enterRc hd Tryz.func124 rfl Tryz.ntmps124 rfl ?_
 obtain ⟨hQ, hg⟩ := RDev.facts hd
 have hln := hg.len
 have hps := hg.pos
 have hnw := hg.now
 have hsl := hsim.len
 simp only [envOf]
 refine tR (At.box rfl rfl rfl (fun b1 => (tA rfl rfl (tE (tR (tM rfl rfl (tV (Val.loadAll (i := 0) Tryz.isAgg31 Tryz.sizeOf31 rfl rfl rfl) rfl (tM rfl rfl (At.callK 1 rfl (fun w hw hr => refused_k _ _ _ σ _ _ _ _ v cs w hsim (Rd.keep hv hw hoV) (Rep.offOld hw hv hoV (List.mem_of_getElem? (i := 1) rfl)) hb hcl hspb hr) Tryz.call150 rfl rfl (tA rfl rfl (tE (At.seq (tR (tM rfl rfl (tV (Val.bin rfl rfl rfl) rfl (tE ?_))))))))))))))))
 refine At.cond rfl (fun h2 => ?_) (fun h2 => ?_)
 ·try simp only [hasB, isSizeB, sB] at h2
  refine tR (tM rfl rfl (tA rfl rfl (tE (At.retC (At.thenR (At.ret1 (.inl rfl) rfl rfl rfl (fun w hw => ?_)))))))
  rw [ref_com (by assumption)]
  exact ⟨_, _, rfl, hsim, hw.drop (List.singleton_sublist.2 (List.mem_of_getElem? (i := 1) rfl))⟩
 ·try simp only [hasB, isSizeB, sB] at h2
  have he0 : refE σ sp si sc sd cs = 0 := h2
  obtain ⟨hfit, hcnt, hpl, ho1, ho2⟩ := ref_ok he0
  obtain ⟨hg, hsd, hN⟩ := hfit
  have hfit := (show (GoodSup sp si sc ∧ sd = 4 + si / 8 ∧ 8 * (σ.ws.length : Int) = 512 * sp) from ⟨hg, hsd, hN⟩)
  have hg2 := hg
  unfold GoodSup at hg2
  have hall := pl_all hpl
  have hka := ks_ad hall
  have hks := ks_lt (n := σ.ws.length) hall (by omega)
  obtain ⟨hokC, hokR⟩ := acs_ok (σ := σ) (xs := cs.map Prod.snd) hks (by rw [ksOf_len]; omega) (by omega)
  refine At.skipC (At.thenN (tR (tA rfl rfl (tE (tR (tA rfl rfl (At.nil (At.rowNilI 3 (At.rowNilP 45 (At.thenN (At.seq (tR (tA rfl rfl (tE (At.block ?_)))))))))))))))
  skip
  refine At.loop (σ := Nat × Value × Value) (fun s => s.1 ≤ cs.length) (fun s => [(0, .pointer (some ⟨p, 0, none⟩)), (2, v), (8, s.2.1), (9, s.2.2), (10, .int .i64 (s.1 : Int))]) (fun s => [prow 45 s.2.1 (unF σ (cs.take s.1)), irow 3 s.2.2 ((cs.take s.1).map Prod.fst), blk b1 31 ([.int .i64 sp, .int .i64 si, .int .i64 sc, .int .i64 sd]), RDev p γ (ρ)]) (fun s => cs.length - s.1) (0, .slice none 0 0, .slice none 0 0) (Nat.zero_le _) (Sub.cons rfl (Sub.cons rfl (Sub.cons rfl (Sub.cons rfl (Sub.cons rfl Sub.nil))))) (List.Perm.refl _) ?_
  intro s hs
  obtain ⟨k, vu, va⟩ := s
  dsimp only at hs ⊢
  have hul : (unF σ (cs.take k)).length = k := by rw [unF_len, List.length_take]; omega
  have hal : ((cs.take k).map Prod.fst).length = k := by rw [List.length_map, List.length_take]; omega
  refine At.seq (tR (tM rfl rfl (tM rfl rfl (tV (Val.lenRd hv Tryz.underlying24 rfl) rfl (tV (Val.bin rfl rfl rfl) rfl (tE ?_))))))
  refine At.cond rfl (fun h3 => ?_) (fun h3 => ?_)
  ·try simp only [hasB, isSizeB, sB] at h3
   obtain ⟨q, hq⟩ : ∃ q, cs[k]? = some q := ⟨_, List.getElem?_eq_getElem (by omega)⟩
   have hqt := hall q (List.mem_of_getElem? hq)
   unfold TW at hqt
   obtain ⟨K, hK⟩ : ∃ K, K = (q.1 / 8).toNat := ⟨_, rfl⟩
   have hqK : q.1 = 8 * (K : Int) := by omega
   obtain ⟨wd, hwd⟩ : ∃ wd, σ.ws[K]? = some wd := ⟨_, List.getElem?_eq_getElem (by omega)⟩
   rw [hK] at hwd
   refine At.skipC (At.thenN (At.seq (At.block (tR (tM rfl rfl (tM rfl rfl (tM rfl rfl (At.idxPO hv hoV Tryz.underlying24 Tryz.sizeOf56 rfl rfl hq rfl rfl (fun bx ox hc0 hc1 hox => (tV (Val.field ox rfl fo_56_0 rfl) rfl (tV (Val.loadOld Tryz.isAgg3 rfl hc0 hox) rfl ?_)))))))))))
   refine At.callK 3 rfl (fun w hw hr => (by have h0 := rWord_s _ _ _ σ K wd w hsim (by rw [hK]; exact hwd) hr; rw [← hqK] at h0; exact h0)) Tryz.call151 rfl rfl (tM rfl rfl (tV (Val.extract rfl rfl) rfl (tV (Val.extract rfl rfl) rfl (tA rfl rfl (tA rfl rfl (tE (tR (tM rfl rfl (tM rfl rfl (tM rfl rfl (At.idxPO hv hoV Tryz.underlying24 Tryz.sizeOf56 rfl rfl hq rfl rfl (fun bx ox hc0 hc1 hox => (tV (Val.field ox rfl fo_56_0 rfl) rfl (tV (Val.loadOld Tryz.isAgg3 rfl hc0 hox) rfl (tM rfl rfl ?_)))))))))))))))
   refine tV (Val.build (fun a ha => by simp only [List.map_toArray, List.map_cons, List.map_nil, ha.eval (x := (.tmp 43)) rfl, ha.eval (x := (.tmp 44)) rfl] <;> rfl) (bld_45_0_1 _ _ )) rfl (At.buildSl (fun a ha => by simp only [List.map_toArray, List.map_cons, List.map_nil, ha.eval (x := (.tmp 45)) rfl]; try rfl) (bs_25_1 _ _ ) rfl (fun b4 => (At.appendP1 (i := 1) (j := 0) (by_ := 16) Tryz.underlying25 info_45 rfl rfl rfl rfl rfl rfl rfl rfl (by omega) (by omega) rfl (fun v5 => ?_))))
   simp only [sc0, scS]
   refine At.drop 0 ?_
   simp only [ec0, ecS]
   refine tA rfl rfl (tE (At.region (tM rfl rfl (tM rfl rfl (tM rfl rfl (At.idxPO hv hoV Tryz.underlying24 Tryz.sizeOf56 rfl rfl hq rfl rfl (fun bx ox hc0 hc1 hox => (tV (Val.field ox rfl fo_56_0 rfl) rfl (tV (Val.loadOld Tryz.isAgg3 rfl hc0 hox) rfl (At.buildSl (fun a ha => by simp only [List.map_toArray, List.map_cons, List.map_nil, ha.eval (x := (.tmp 53)) rfl]; try rfl) (bs_63_1 _ ) rfl (fun b6 => (At.appendI1 (i := 2) (j := 0) (by_ := 8) Tryz.underlying63 info_3 rfl rfl rfl rfl rfl rfl rfl rfl (by omega) (by omega) rfl (fun v7 => ?_)))))))))))))
   simp only [sc0, scS]
   refine At.drop 0 ?_
   simp only [ec0, ecS]
   refine tA rfl rfl (At.nil (At.blkN (At.thenN (At.region (tM rfl rfl ?_)))))
   first | refine tV (Val.addI rfl rfl (by omega) (by omega)) rfl ?_ | refine tV (Val.bin rfl rfl rfl) rfl ?_
   refine tA rfl rfl (tE ?_)
   exact At.again (k + 1, v5, v7) (show k + 1 ≤ _ by omega) (by dsimp only; omega) (Sub.cons rfl (Sub.cons rfl (Sub.cons rfl (Sub.cons rfl (Sub.cons (congrArg (fun z => some (Value.int IntKind.i64 z)) (by dsimp only; omega)) Sub.nil))))) (by dsimp only; rw [unF_snoc hq, map_take_snoc hq, nowAt_some hwd])
  ·try simp only [hasB, isSizeB, sB] at h3
   refine At.exitC (At.thenX (At.thenX (At.blkX (At.thenN (At.seq ?_)))))
   obtain rfl : k = cs.length := by omega
   rw [List.take_length] at hul hal ⊢
   obtain ⟨U, hU⟩ : ∃ U, U = unF σ cs := ⟨_, rfl⟩
   rw [← hU] at hul ⊢
   rw [hka]
   refine At.region (tA rfl rfl (tE (tR (tM rfl rfl (tM rfl rfl (At.rowNil tAc 3 (At.callR 0 (n := ([] : List Ac).length) (xs := acC ([] : List Ac)) rfl (fun w hw hr => written_n _ ([] : List Ac) _ U w hr (by simp) (row_rd (hw.row (i := 1) rfl) (by decide)) (Rep.offRow (i := 1) (j := 0) hw rfl rfl (by decide)) (by omega)) Tryz.call152 rfl rfl (fun v8 => ?_))))))))
   simp only [sc0, scS]
   obtain ⟨B0, hB0⟩ : ∃ B, B = (([] : List Ac) ++ wrtA (undW U) U.length) := ⟨_, rfl⟩
   rw [← hB0]
   have hBl : B0.length ≤ 40 := by rw [hB0]; have h7 := wrA_le (W := undW U) (by rw [undW_len]; omega); have h8 := stoA_le 64 (sealW (BitVec.ofInt 64 512) (BitVec.ofInt 32 (U.length : Int))); unfold wrtA; simp only [List.length_append, List.length_nil]; omega
   refine tA rfl rfl (tE (At.seq (tR (tA rfl rfl (tE (At.block ?_))))))
   skip
   refine At.loop (σ := Nat × Value) (fun s => s.1 ≤ cs.length) (fun s => [(0, .pointer (some ⟨p, 0, none⟩)), (2, v), (9, va), (13, s.2), (14, .int .i64 (s.1 : Int))]) (fun s => [arow s.2 (B0 ++ stsA (cs.take s.1)), rowR vu 45 2 ((U).length) (prC (U)), rowR va 3 1 ((((ksOf cs).map adF)).length) ((((ksOf cs).map adF)).map (Value.int .i64)), blk b1 31 ([.int .i64 sp, .int .i64 si, .int .i64 sc, .int .i64 sd]), RDev p γ (ρ)]) (fun s => cs.length - s.1) (0, v8) (Nat.zero_le _) (Sub.cons rfl (Sub.cons rfl (Sub.cons rfl (Sub.cons rfl (Sub.cons rfl Sub.nil))))) (by dsimp only; rw [show stsA (cs.take 0) = [] from rfl, List.append_nil] <;> first | exact List.Perm.refl _ | exact List.Perm.swap ..) ?_
   intro s hs
   obtain ⟨k, vk⟩ := s
   dsimp only at hs ⊢
   have hsl2 := stsA_len (cs.take k)
   rw [List.length_take] at hsl2
   refine At.seq (tR (tM rfl rfl (tM rfl rfl (tV (Val.lenRd hv Tryz.underlying24 rfl) rfl (tV (Val.bin rfl rfl rfl) rfl (tE ?_))))))
   refine At.cond rfl (fun h9 => ?_) (fun h9 => ?_)
   ·try simp only [hasB, isSizeB, sB] at h9
    obtain ⟨q, hq⟩ : ∃ q, cs[k]? = some q := ⟨_, List.getElem?_eq_getElem (by omega)⟩
    have hqt := hall q (List.mem_of_getElem? hq)
    unfold TW at hqt
    obtain ⟨K, hK⟩ : ∃ K, K = (q.1 / 8).toNat := ⟨_, rfl⟩
    have hqK : q.1 = 8 * (K : Int) := by omega
    obtain ⟨wd, hwd⟩ : ∃ wd, σ.ws[K]? = some wd := ⟨_, List.getElem?_eq_getElem (by omega)⟩
    rw [hK] at hwd
    refine At.skipC (At.thenN (At.seq (At.block (At.tail 11 rfl (by decide +kernel) ?_))))
    simp only [List.take_succ_cons, List.take_zero, List.drop_succ_cons, List.drop_zero]
    refine qM rfl rfl (qM rfl rfl (qM rfl rfl (QAt.idxPO hv hoV Tryz.underlying24 Tryz.sizeOf56 rfl rfl hq rfl rfl (fun bx ox hc0 hc1 hox => (qV (Val.field ox rfl fo_56_0 rfl) rfl (qV (Val.loadOld Tryz.isAgg3 rfl hc0 hox) rfl (qM rfl rfl (qM rfl rfl (QAt.idxPO hv hoV Tryz.underlying24 Tryz.sizeOf56 rfl rfl hq rfl rfl (fun bx ox hc0 hc1 hox => (qV (Val.field (ox + 1) rfl fo_56_1 rfl) rfl (qV (Val.loadOld Tryz.isAgg43 rfl hc1 hox) rfl (QAt.fin ?_)))))))))))))
    refine At.callR 0 (n := (B0 ++ stsA (cs.take k)).length) (xs := acC (B0 ++ stsA (cs.take k))) rfl (fun w hw hr => (by have h0 := ast_n _ (B0 ++ stsA (cs.take k)) K q.2 w hr (by rw [List.length_append]; omega); rw [← hqK] at h0; exact h0)) Tryz.call153 rfl rfl (fun v10 => ?_)
    simp only [sc0, scS]
    refine tA rfl rfl (At.nil (At.blkN (At.thenN (At.region (tM rfl rfl ?_)))))
    first | refine tV (Val.addI rfl rfl (by omega) (by omega)) rfl ?_ | refine tV (Val.bin rfl rfl rfl) rfl ?_
    refine tA rfl rfl (tE ?_)
    exact At.again (k + 1, v10) (show k + 1 ≤ _ by omega) (by dsimp only; omega) (Sub.cons rfl (Sub.cons rfl (Sub.cons rfl (Sub.cons rfl (Sub.cons (congrArg (fun z => some (Value.int IntKind.i64 z)) (by dsimp only; omega)) Sub.nil))))) (by dsimp only; rw [stsA_snoc hq, ← hK, ← List.append_assoc])
   ·try simp only [hasB, isSizeB, sB] at h9
    refine At.exitC (At.thenX (At.thenX (At.blkX (At.thenN (At.seq ?_)))))
    obtain rfl : k = cs.length := by omega
    rw [List.take_length]
    refine At.region (tM rfl rfl (tM rfl rfl ?_))
    refine At.callR 0 (n := (B0 ++ stsA cs).length) (xs := acC (B0 ++ stsA cs)) rfl (fun w hw hr => lines_n _ (B0 ++ stsA cs) _ (ksOf cs) w hr (by simp only [List.length_append, stsA_len, List.length_nil]; omega) (row_rd (hw.row (i := 2) rfl) (by decide)) (Rep.offRow (i := 2) (j := 0) hw rfl rfl (by decide)) (by rw [ksOf_len]; omega) (ks_tab hall (by omega))) Tryz.call154 rfl rfl (fun v11 => ?_)
    simp only [sc0, scS]
    refine tA rfl rfl (tE (tR (tM rfl rfl ?_)))
    refine At.callR 0 (n := ((B0 ++ stsA cs) ++ (lnK (ksOf cs)).map Ac.fl).length) (xs := acC ((B0 ++ stsA cs) ++ (lnK (ksOf cs)).map Ac.fl)) rfl (fun w hw hr => afe_n _ ((B0 ++ stsA cs) ++ (lnK (ksOf cs)).map Ac.fl) w hr (by have hln9 := lnL_len (ksOf cs); rw [ksOf_len] at hln9; simp only [List.length_append, List.length_map, stsA_len, lnK_len, List.length_cons, List.length_nil]; omega)) Tryz.call155 rfl rfl (fun v12 => ?_)
    simp only [sc0, scS]
    refine tA rfl rfl (tE (tR (tM rfl rfl ?_)))
    refine At.callR 0 (n := (((B0 ++ stsA cs) ++ (lnK (ksOf cs)).map Ac.fl) ++ [Ac.fe]).length) (xs := acC (((B0 ++ stsA cs) ++ (lnK (ksOf cs)).map Ac.fl) ++ [Ac.fe])) rfl (fun w hw hr => ended_n _ (((B0 ++ stsA cs) ++ (lnK (ksOf cs)).map Ac.fl) ++ [Ac.fe]) w hr (by have hln9 := lnL_len (ksOf cs); rw [ksOf_len] at hln9; simp only [List.length_append, List.length_map, stsA_len, lnK_len, List.length_cons, List.length_nil]; omega)) Tryz.call156 rfl rfl (fun v13 => ?_)
    simp only [sc0, scS]
    refine tA rfl rfl (tE (tR (tM rfl rfl (tM rfl rfl ?_))))
    rw [hB0, hU, com_flat hka]
    refine At.callRP 4 rfl (fun w hw hr => play_s _ _ _ σ _ (comL σ (ksOf cs) (cs.map Prod.snd)).flatten w hsim (arow_rdN (L := (comL σ (ksOf cs) (cs.map Prod.snd)).flatten) (hw.row (i := 0) rfl)) (Rep.offRow (i := 0) (j := 4) hw rfl rfl (by decide)) hokC (by have := comL_le (σ := σ) (xs := cs.map Prod.snd) (ks := ksOf cs) (by rw [ksOf_len]; omega); omega) hr) Tryz.call157 rfl rfl (fun y14 r15 hs16 => ?_)
    simp only [sc0, scS]
    refine tA rfl rfl (tE (At.retC (At.ret1 (.inl rfl) rfl rfl rfl (fun w hw => ?_))))
    rw [com_go hfit hcnt hpl ⟨ho1, ho2⟩]
    exact ⟨_, _, rfl, hs16, hw.drop (List.singleton_sublist.2 (List.mem_of_getElem? (i := 4) rfl))⟩
end Go.Proofs.YtfchinibjhcejaaGreatDoor
namespace Go.Proofs.YtfchinibjhcejaaGreatDoor
open Go Go.Wk
theorem rec_flat2 (cs : List (Int × BitVec 64)) : stsA cs ++ (lnK (ksOf cs)).map Ac.fl ++ [.fe] ++ stoA 64 0 = (recL (ksOf cs) (cs.map Prod.snd)).flatten := by rw [← rec_flat cs, List.nil_append]
theorem rrecover_s (p : Nat) (γ : Rg) (ρ : Rs) (σ : Ds) (w : World) (hsim : Sim σ ρ) (hst : σ.steps + 200 ≤ 1099511627776) (hd : (RDev p γ ρ).holds w) :
    RDevP Tryz.prog 129 [.pointer (some ⟨p, 0, none⟩)] p γ ρ (.tuple #[.int .i64 (rcvE σ).1, .int .i64 (rcvE σ).2.1]) (Sim (rcvE σ).2.2) w := by
 refine enterRc hd Tryz.func129 rfl Tryz.ntmps129 rfl ?_
 obtain ⟨hQ, hg⟩ := RDev.facts hd
 have hln := hg.len
 have hps := hg.pos
 have hnw := hg.now
 have hsl := hsim.len
 have hXl : (wbytes (viewWs σ.ws)).length = 8 * σ.ws.length := by rw [wbytes_length, viewWs, List.length_map]
 simp only [envOf]
 refine tR (tA rfl rfl (tA rfl rfl (tE (tR (tM rfl rfl (At.callRK 0 rfl (fun w hw hr => rview_s _ _ _ σ w hsim (by omega) hr) Tryz.call161 rfl rfl (fun v1 => (At.callNT (g := (fun v => .tuple #[v, .int .i64 (pndE (wbytes (viewWs σ.ws)))])) (fun w hw => pendingR_n _ (wbytes (viewWs σ.ws)) w (row_rd (hw.row (i := 0) rfl) (by decide)) (by omega)) Tryz.call127 rfl rfl (fun v2 => (tM rfl rfl (tV (Val.extract rfl rfl) rfl (tV (Val.extract rfl rfl) rfl (tA rfl rfl (tA rfl rfl (tE (At.seq (tR (At.weaken [(0, _), (2, _), (3, _), (11, _), (12, _), (13, _), (10, _), (14, _), (15, _), (4, _), (5, _)] (Sub.cons rfl (Sub.cons rfl (Sub.cons rfl (Sub.cons rfl (Sub.cons rfl (Sub.cons rfl (Sub.cons rfl (Sub.cons rfl (Sub.cons rfl (Sub.cons rfl (Sub.cons rfl Sub.nil))))))))))) ?_))))))))))))))))))
 refine At.boolMeet 7 22 (decide (¬ pndE (wbytes (viewWs σ.ws)) = 0 ∨ (pndL (wbytes (viewWs σ.ws))) = [])) ?_ ?_
 ·simp only [List.take_succ_cons, List.take_zero]
  refine tM rfl rfl (tV (Val.bin rfl rfl rfl) rfl (tM rfl rfl ?_))
  refine At.split (t := 18) rfl (fun h3 => ?_) (fun h3 => ?_)
  ·try simp only [hasB, isSizeB, sB] at h3
   refine At.no rfl rfl rfl rfl (At.no rfl rfl rfl rfl (At.no rfl rfl rfl rfl (tV (Val.pickT rfl rfl) rfl (At.nil ?_))))
   exact At.boolEnd rfl (by apply Bool.eq_iff_iff.2; (simp only [decide_eq_true_eq, Bool.false_eq_true, false_iff, true_iff, beq_iff_eq]) <;> first | exact .inl (by assumption) | exact ⟨fun g => .inr (List.eq_nil_of_length_eq_zero (by omega)), fun g => g.elim (fun g => absurd (by assumption) g) (fun g => by rw [g]; rfl)⟩) (by repeat (first | exact Sub.nil | refine Sub.cons rfl ?_))
  ·try simp only [hasB, isSizeB, sB] at h3
   refine At.yes rfl rfl (tM rfl rfl (At.yes rfl rfl (tV (Val.lenRow (i := 0) Tryz.underlying25 rfl rfl) rfl (At.yes rfl rfl (tV (Val.bin rfl rfl rfl) rfl (tV (Val.pickF rfl rfl) rfl (At.nil ?_)))))))
   exact At.boolEnd rfl (by apply Bool.eq_iff_iff.2; (simp only [decide_eq_true_eq, Bool.false_eq_true, false_iff, true_iff, beq_iff_eq]) <;> first | exact .inl (by assumption) | exact ⟨fun g => .inr (List.eq_nil_of_length_eq_zero (by omega)), fun g => g.elim (fun g => absurd (by assumption) g) (fun g => by rw [g]; rfl)⟩) (by repeat (first | exact Sub.nil | refine Sub.cons rfl ?_))
 ·simp only [List.drop_succ_cons, List.drop_zero]
  refine tE ?_
  refine At.cond rfl (fun h4 => ?_) (fun h4 => ?_)
  ·try simp only [hasB, isSizeB, sB] at h4
   have hno := h4
   refine tR (tM rfl rfl (tA rfl rfl (tA rfl rfl (tE (At.retC (At.thenR (At.ret2 (.inl rfl) rfl rfl rfl rfl (fun w hw => ?_))))))))
   rw [rcv_no hno]
   exact ⟨_, _, rfl, hsim, hw.drop (List.singleton_sublist.2 (List.mem_of_getElem? (i := 2) rfl))⟩
  ·try simp only [hasB, isSizeB, sB] at h4
   have hno := h4
   obtain ⟨kk, hkk, hg, hpl, hall⟩ := pnd_good (l := (wbytes (viewWs σ.ws))) (Classical.byContradiction fun g => hno (.inl g))
   have hg2 := hg
   unfold GoodSup at hg2
   have hu8 := pndL_le (wbytes (viewWs σ.ws))
   have hka := ks_ad hall
   have hks := ks_lt (n := σ.ws.length) hall (by omega)
   obtain ⟨hokC, hokR⟩ := acs_ok (σ := σ) (xs := (pndL (wbytes (viewWs σ.ws))).map Prod.snd) hks (by rw [ksOf_len]; omega) (by omega)
   refine At.skipC (At.thenN (tR (tA rfl rfl (tE (tR (tA rfl rfl (At.nil (At.rowNilI 3 (At.rowNil tAc 3 (At.thenN (At.seq (tR (tA rfl rfl (tE (At.block ?_)))))))))))))))
   skip
   refine At.drop 3 ?_
   simp only [ec0, ecS]
   refine At.loop (σ := Nat × Value × Value) (fun s => s.1 ≤ (pndL (wbytes (viewWs σ.ws))).length) (fun s => [(0, .pointer (some ⟨p, 0, none⟩)), (4, v2), (6, s.2.1), (7, s.2.2), (8, .int .i64 (s.1 : Int))]) (fun s => [arow s.2.1 (stsA ((pndL (wbytes (viewWs σ.ws))).take s.1)), irow 3 s.2.2 (((pndL (wbytes (viewWs σ.ws))).take s.1).map Prod.fst), rowR v2 45 2 ((pndL (wbytes (viewWs σ.ws))).length) (prC (pndL (wbytes (viewWs σ.ws)))), RDev p γ (ρ)]) (fun s => (pndL (wbytes (viewWs σ.ws))).length - s.1) (0, .slice none 0 0, .slice none 0 0) (Nat.zero_le _) (Sub.cons rfl (Sub.cons rfl (Sub.cons rfl (Sub.cons rfl (Sub.cons rfl Sub.nil))))) (List.Perm.refl _) ?_
   intro s hs
   obtain ⟨k, vk, va⟩ := s
   dsimp only at hs ⊢
   have hsl2 := stsA_len ((pndL (wbytes (viewWs σ.ws))).take k)
   rw [List.length_take] at hsl2
   have hal : (((pndL (wbytes (viewWs σ.ws))).take k).map Prod.fst).length = k := by rw [List.length_map, List.length_take]; omega
   refine At.seq (tR (tM rfl rfl (tM rfl rfl (tV (Val.lenRow (i := 2) Tryz.underlying25 rfl rfl) rfl (tV (Val.bin rfl rfl rfl) rfl (tE ?_))))))
   refine At.cond rfl (fun h5 => ?_) (fun h5 => ?_)
   ·try simp only [hasB, isSizeB, sB] at h5
    obtain ⟨q, hq⟩ : ∃ q, (pndL (wbytes (viewWs σ.ws)))[k]? = some q := ⟨_, List.getElem?_eq_getElem (by omega)⟩
    have hqt := hall q (List.mem_of_getElem? hq)
    unfold TW at hqt
    obtain ⟨K, hK⟩ : ∃ K, K = (q.1 / 8).toNat := ⟨_, rfl⟩
    have hqK : q.1 = 8 * (K : Int) := by omega
    refine At.skipC (At.thenN (At.seq (At.block (At.seq (At.tail 11 rfl (by decide +kernel) ?_)))))
    simp only [List.take_succ_cons, List.take_zero, List.drop_succ_cons, List.drop_zero]
    refine qM rfl rfl (qM rfl rfl (qM rfl rfl (qV (Val.indexRow (i := 2) (k * 2) (by omega) Tryz.underlying25 Tryz.sizeOf45 rfl rfl rfl (by omega) (by omega)) rfl (qV (Val.field ((k * 2 + 0)) rfl fo_45_0 rfl) rfl (qV (Val.loadRow (u := .int .i64 q.1) (i := 2) Tryz.isAgg3 rfl rfl (prC_at hq).1) rfl (qM rfl rfl (qM rfl rfl (qV (Val.indexRow (i := 2) (k * 2) (by omega) Tryz.underlying25 Tryz.sizeOf45 rfl rfl rfl (by omega) (by omega)) rfl (qV (Val.field ((k * 2 + 1)) rfl fo_45_1 rfl) rfl (qV (Val.loadRow (u := b64 q.2) (i := 2) Tryz.isAgg43 rfl rfl (prC_at hq).2) rfl (QAt.fin ?_)))))))))))
    refine At.callR 0 (n := (stsA ((pndL (wbytes (viewWs σ.ws))).take k)).length) (xs := acC (stsA ((pndL (wbytes (viewWs σ.ws))).take k))) rfl (fun w hw hr => (by have h0 := ast_n _ (stsA ((pndL (wbytes (viewWs σ.ws))).take k)) K q.2 w hr (by omega); rw [← hqK] at h0; exact h0)) Tryz.call153 rfl rfl (fun v6 => ?_)
    simp only [sc0, scS]
    refine tA rfl rfl (tE (At.region (tM rfl rfl (tM rfl rfl (tM rfl rfl (tV (Val.indexRow (i := 2) (k * 2) (by omega) Tryz.underlying25 Tryz.sizeOf45 rfl rfl rfl (by omega) (by omega)) rfl (tV (Val.field ((k * 2 + 0)) rfl fo_45_0 rfl) rfl (tV (Val.loadRow (u := .int .i64 q.1) (i := 2) Tryz.isAgg3 rfl rfl (prC_at hq).1) rfl (At.buildSl (fun a ha => by simp only [List.map_toArray, List.map_cons, List.map_nil, ha.eval (x := (.tmp 47)) rfl]; try rfl) (bs_63_1 _ ) rfl (fun b7 => (At.appendI1 (i := 2) (j := 0) (by_ := 8) Tryz.underlying63 info_3 rfl rfl rfl rfl rfl rfl rfl rfl (by omega) (by omega) rfl (fun v8 => ?_))))))))))))
    simp only [sc0, scS]
    refine At.drop 0 ?_
    simp only [ec0, ecS]
    refine tA rfl rfl (At.nil (At.blkN (At.thenN (At.region (tM rfl rfl ?_)))))
    first | refine tV (Val.addI rfl rfl (by omega) (by omega)) rfl ?_ | refine tV (Val.bin rfl rfl rfl) rfl ?_
    refine tA rfl rfl (tE ?_)
    exact At.again (k + 1, v6, v8) (show k + 1 ≤ _ by omega) (by dsimp only; omega) (Sub.cons rfl (Sub.cons rfl (Sub.cons rfl (Sub.cons rfl (Sub.cons (congrArg (fun z => some (Value.int IntKind.i64 z)) (by dsimp only; omega)) Sub.nil))))) (by dsimp only; rw [stsA_snoc hq, ← hK, map_take_snoc hq])
   ·try simp only [hasB, isSizeB, sB] at h5
    refine At.exitC (At.thenX (At.thenX (At.blkX (At.thenN (At.seq ?_)))))
    obtain rfl : k = (pndL (wbytes (viewWs σ.ws))).length := by omega
    rw [List.take_length, hka]
    refine At.region (tM rfl rfl (tM rfl rfl ?_))
    refine At.callR 0 (n := (stsA (pndL (wbytes (viewWs σ.ws)))).length) (xs := acC (stsA (pndL (wbytes (viewWs σ.ws))))) rfl (fun w hw hr => lines_n _ (stsA (pndL (wbytes (viewWs σ.ws)))) _ (ksOf (pndL (wbytes (viewWs σ.ws)))) w hr (by simp only [List.length_append, stsA_len, List.length_nil]; omega) (row_rd (hw.row (i := 1) rfl) (by decide)) (Rep.offRow (i := 1) (j := 0) hw rfl rfl (by decide)) (by rw [ksOf_len]; omega) (ks_tab hall (by omega))) Tryz.call154 rfl rfl (fun v9 => ?_)
    simp only [sc0, scS]
    refine tA rfl rfl (tE (tR (tM rfl rfl ?_)))
    refine At.callR 0 (n := ((stsA (pndL (wbytes (viewWs σ.ws)))) ++ (lnK (ksOf (pndL (wbytes (viewWs σ.ws))))).map Ac.fl).length) (xs := acC ((stsA (pndL (wbytes (viewWs σ.ws)))) ++ (lnK (ksOf (pndL (wbytes (viewWs σ.ws))))).map Ac.fl)) rfl (fun w hw hr => afe_n _ ((stsA (pndL (wbytes (viewWs σ.ws)))) ++ (lnK (ksOf (pndL (wbytes (viewWs σ.ws))))).map Ac.fl) w hr (by have hln9 := lnL_len (ksOf (pndL (wbytes (viewWs σ.ws)))); rw [ksOf_len] at hln9; simp only [List.length_append, List.length_map, stsA_len, lnK_len, List.length_cons, List.length_nil]; omega)) Tryz.call155 rfl rfl (fun v10 => ?_)
    simp only [sc0, scS]
    refine tA rfl rfl (tE (tR (tM rfl rfl ?_)))
    refine At.callR 0 (n := (((stsA (pndL (wbytes (viewWs σ.ws)))) ++ (lnK (ksOf (pndL (wbytes (viewWs σ.ws))))).map Ac.fl) ++ [Ac.fe]).length) (xs := acC (((stsA (pndL (wbytes (viewWs σ.ws)))) ++ (lnK (ksOf (pndL (wbytes (viewWs σ.ws))))).map Ac.fl) ++ [Ac.fe])) rfl (fun w hw hr => ended_n _ (((stsA (pndL (wbytes (viewWs σ.ws)))) ++ (lnK (ksOf (pndL (wbytes (viewWs σ.ws))))).map Ac.fl) ++ [Ac.fe]) w hr (by have hln9 := lnL_len (ksOf (pndL (wbytes (viewWs σ.ws)))); rw [ksOf_len] at hln9; simp only [List.length_append, List.length_map, stsA_len, lnK_len, List.length_cons, List.length_nil]; omega)) Tryz.call156 rfl rfl (fun v11 => ?_)
    simp only [sc0, scS]
    refine tA rfl rfl (tE (tR (tM rfl rfl (tM rfl rfl ?_))))
    rw [rec_flat2]
    refine At.callRP 3 rfl (fun w hw hr => play_s _ _ _ σ _ (recL (ksOf (pndL (wbytes (viewWs σ.ws)))) ((pndL (wbytes (viewWs σ.ws))).map Prod.snd)).flatten w hsim (arow_rdN (L := (recL (ksOf (pndL (wbytes (viewWs σ.ws)))) ((pndL (wbytes (viewWs σ.ws))).map Prod.snd)).flatten) (hw.row (i := 0) rfl)) (Rep.offRow (i := 0) (j := 3) hw rfl rfl (by decide)) hokR (by have := recL_le (xs := (pndL (wbytes (viewWs σ.ws))).map Prod.snd) (ks := ksOf (pndL (wbytes (viewWs σ.ws)))) (by rw [ksOf_len]; omega); omega) hr) Tryz.call157 rfl rfl (fun y12 r13 hs14 => ?_)
    simp only [sc0, scS]
    refine tA rfl rfl (tE (At.seq (tR (tM rfl rfl (tV (Val.bin rfl rfl rfl) rfl (tE ?_))))))
    refine At.cond rfl (fun h15 => ?_) (fun h15 => ?_)
    ·try simp only [hasB, isSizeB, sB] at h15
     refine tR (tM rfl rfl (tA rfl rfl (tA rfl rfl (tE (At.retC (At.thenR (At.ret2 (.inl rfl) rfl rfl rfl rfl (fun w hw => ?_))))))))
     rw [rcv_e hno (by assumption)]
     exact ⟨_, _, rfl, hs14, hw.drop (List.singleton_sublist.2 (List.mem_of_getElem? (i := 3) rfl))⟩
    ·try simp only [hasB, isSizeB, sB] at h15
     refine At.skipC (At.thenN (tR (tM rfl rfl (tV (Val.lenRow (i := 2) Tryz.underlying25 rfl rfl) rfl (tA rfl rfl (tA rfl rfl (tE (At.retC (At.ret2 (.inl rfl) rfl rfl rfl rfl (fun w hw => ?_))))))))))
     rw [rcv_0 hno (by assumption)]
     exact ⟨_, _, rfl, hs14, hw.drop (List.singleton_sublist.2 (List.mem_of_getElem? (i := 3) rfl))⟩
end Go.Proofs.YtfchinibjhcejaaGreatDoor
namespace Go.Proofs.YtfchinibjhcejaaGreatDoor
open Go Go.Wk
theorem packB_le (L : List (Int × BitVec 64)) : (packB L).length ≤ 192 := by
  by_cases h : GoodUn L
  · rw [packB_T h, undoB_length]; have := h.2.1; omega
  · rw [packB_F h]; decide
def layI (l : List UInt8) (a : Int) (x : BitVec 64) : List UInt8 := if a < 0 ∨ (l.length : Int) - 8 < a then l else put8 l a.toNat x
theorem layI_no {l : List UInt8} {a : Int} {x : BitVec 64} (h : a < 0 ∨ (l.length : Int) - 8 < a) : layI l a x = l := if_pos h
theorem layI_yes {l : List UInt8} {a : Int} {x : BitVec 64} (h : ¬ (a < 0 ∨ (l.length : Int) - 8 < a)) : layI l a x = put8 l a.toNat x := if_neg h
theorem layI_len {l : List UInt8} {a : Int} {x : BitVec 64} : (layI l a x).length = l.length := by
  unfold layI
  split
  · rfl
  · exact putK_length x (by omega) (by decide)
def wordsI (l : List UInt8) (W : List (Int × BitVec 64)) : List UInt8 := W.foldl (fun m q => layI m q.1 q.2) l
theorem wordsI_len {l : List UInt8} : ∀ (W : List (Int × BitVec 64)), (wordsI l W).length = l.length := by
  intro W
  induction W generalizing l with
  | nil => rfl
  | cons q W ih => show (wordsI (layI l q.1 q.2) W).length = _; rw [ih, layI_len]
theorem wordsI_snoc {l : List UInt8} {W : List (Int × BitVec 64)} {k : Nat} {q : Int × BitVec 64} (h : W[k]? = some q) : wordsI l (W.take (k + 1)) = layI (wordsI l (W.take k)) q.1 q.2 := by unfold wordsI; rw [List.take_succ_of_get h, List.foldl_append]; rfl
def overK (l : List UInt8) (o : Nat) (u : List UInt8) (k : Nat) : List UInt8 := l.take o ++ u.take k ++ l.drop (o + k)
theorem overK_len {l u : List UInt8} {o k : Nat} (h : o + k ≤ l.length) (hk : k ≤ u.length) : (overK l o u k).length = l.length := by unfold overK; rw [List.length_append, List.length_append, List.length_take, List.length_take, List.length_drop]; omega
theorem overK_zero (l : List UInt8) (o : Nat) (u : List UInt8) : overK l o u 0 = l := by unfold overK; rw [List.take_zero, List.append_nil, Nat.add_zero, List.take_append_drop]
theorem overK_step {l u : List UInt8} {o k : Nat} {c : UInt8} (hc : u[k]? = some c) (h : o + k < l.length) : (overK l o u k).set (o + k) c = overK l o u (k + 1) := by
  have hk := (List.getElem?_eq_some_iff.1 hc).1
  unfold overK
  have e : (l.take o ++ u.take k).length = o + k := by rw [List.length_append, List.length_take, List.length_take]; omega
  rw [List.set_append_right _ _ (by omega), e, Nat.sub_self, List.drop_eq_getElem_cons h, List.set_cons_zero, List.take_succ_of_get hc, ← List.append_assoc, List.append_assoc (l.take o ++ u.take k)]
  rfl
noncomputable def undoI (l : List UInt8) (U : List (Int × BitVec 64)) : List UInt8 := overK l 512 (packB U) (packB U).length
theorem undoI_no {l : List UInt8} {U : List (Int × BitVec 64)} (h : ¬ packE U = 0) : undoI l U = l := by
  have hg : ¬ GoodUn U := fun g => h (packE_T g)
  unfold undoI
  rw [packB_F hg]; exact overK_zero ..
theorem undoI_len {l : List UInt8} {U : List (Int × BitVec 64)} (h : 1024 ≤ l.length) : (undoI l U).length = l.length := overK_len (by have := packB_le U; omega) (Nat.le_refl _)
def supR (l L : List UInt8) (k : Nat) : List UInt8 := (List.range k).foldl (fun m j => (m.set j (L.getD j 0)).set (64 + j) (L.getD j 0)) l
theorem supR_succ (l L : List UInt8) (k : Nat) : supR l L (k + 1) = ((supR l L k).set k (L.getD k 0)).set (64 + k) (L.getD k 0) := by unfold supR; rw [List.range_succ, List.foldl_append]; rfl
theorem supR_len (l L : List UInt8) : ∀ (k : Nat), (supR l L k).length = l.length
  | 0 => rfl
  | k + 1 => by rw [supR_succ, List.length_set, List.length_set, supR_len l L k]
def supS (p i c : Int) : Int × Int × Int := if GoodSup p i c then (p, i, c) else (24, 8, 1)
theorem supS_yes {p i c : Int} (h : GoodSup p i c) : supS p i c = (p, i, c) := if_pos h
theorem supS_no {p i c : Int} (h : ¬ GoodSup p i c) : supS p i c = (24, 8, 1) := if_neg h
theorem supS_good (p i c : Int) : GoodSup (supS p i c).1 (supS p i c).2.1 (supS p i c).2.2 := by
  unfold supS
  split
  · assumption
  · decide
abbrev supLn (s : Int × Int × Int) : List UInt8 := lineL (superB s.1.toNat s.2.1.toNat s.2.2.toNat)
theorem supLn_len (s : Int × Int × Int) : (supLn s).length = 64 := lineL_length (by rw [superB_length]; decide)
noncomputable def imgE (s : Int × Int × Int) (bare : Bool) (W U : List (Int × BitVec 64)) : List UInt8 := if bare then undoI (wordsI (zs (512 * s.1.toNat)) W) U else supR (undoI (wordsI (zs (512 * s.1.toNat)) W) U) (supLn s) 64
theorem imgE_len {s : Int × Int × Int} (h : GoodSup s.1 s.2.1 s.2.2) (bare : Bool) (W U : List (Int × BitVec 64)) : (imgE s bare W U).length = 512 * s.1.toNat := by
  unfold GoodSup at h
  have e : (undoI (wordsI (zs (512 * s.1.toNat)) W) U).length = 512 * s.1.toNat := by rw [undoI_len (by rw [wordsI_len, zs_length]; omega), wordsI_len, zs_length]
  unfold imgE
  split
  · exact e
  · rw [supR_len, e]
theorem fit_ex (p i c : Int) : ∃ A B C D e : Int, fitV p i c = .tuple #[.agg #[.int .i64 A, .int .i64 B, .int .i64 C, .int .i64 D], .int .i64 e] ∧ ((e = 0 ∧ GoodSup p i c ∧ A = p ∧ B = i ∧ C = c ∧ D = 4 + i / 8) ∨ (e ≠ 0 ∧ ¬ GoodSup p i c)) := by
  by_cases h : GoodSup p i c
  · exact ⟨_, _, _, _, _, fit_yes h, .inl ⟨rfl, h, rfl, rfl, rfl, rfl⟩⟩
  · exact ⟨_, _, _, _, _, fit_no h, .inr ⟨by decide, h⟩⟩
theorem lay_r (v : Value) (l : List UInt8) (a : Int) (x : BitVec 64) (w : World) (hl : l.length ≤ 1000000) (hr : (brow 5 v l).holds w) :
    Upd Tryz.prog 34 [v, .int .i64 a, b64 x] (brow 5 v l) (.tuple #[]) (brow 5 v (layI l a x)) w := by
 refine enter (feet [brow 5 v l]) [brow 5 v l] Tryz.func34 rfl Tryz.ntmps34 rfl (Rep.one hr) ?_
 simp only [envOf]
 refine At.seq (tR (At.weaken [(0, _), (1, _), (2, _)] (Sub.cons rfl (Sub.cons rfl (Sub.cons rfl Sub.nil))) ?_))
 refine At.boolMeet 9 15 (decide (a < 0 ∨ (l.length : Int) - 8 < a)) ?_ ?_
 ·simp only [List.take_succ_cons, List.take_zero]
  refine tM rfl rfl (tV (Val.bin rfl rfl rfl) rfl (tM rfl rfl ?_))
  refine At.split (t := 9) rfl (fun h1 => ?_) (fun h1 => ?_)
  ·try simp only [hasB, isSizeB, sB] at h1
   refine At.no rfl rfl rfl rfl (At.no rfl rfl rfl rfl (At.no rfl rfl rfl rfl (At.no rfl rfl rfl rfl (At.no rfl rfl rfl rfl (tV (Val.pickT rfl rfl) rfl (At.nil ?_))))))
   exact At.boolEnd rfl (by apply Bool.eq_iff_iff.2; (simp only [decide_eq_true_eq, Bool.false_eq_true, false_iff, true_iff, iff_true, iff_false, gt_iff_lt, ge_iff_le, beq_iff_eq, bne_iff_ne, ne_eq]) <;> omega) (by repeat (first | exact Sub.nil | refine Sub.cons rfl ?_))
  ·try simp only [hasB, isSizeB, sB] at h1
   refine At.yes rfl rfl (tM rfl rfl (At.yes rfl rfl (tM rfl rfl (At.yes rfl rfl (tV (Val.lenRow (i := 0) Tryz.underlying29 rfl rfl) rfl (At.yes rfl rfl ?_))))))
   first | refine tV (Val.subI rfl rfl (by omega) (by omega)) rfl ?_ | refine tV (Val.bin rfl rfl rfl) rfl ?_
   refine At.yes rfl rfl (tV (Val.bin rfl rfl rfl) rfl (tV (Val.pickF rfl rfl) rfl (At.nil ?_)))
   exact At.boolEnd rfl (by apply Bool.eq_iff_iff.2; (simp only [decide_eq_true_eq, Bool.false_eq_true, false_iff, true_iff, iff_true, iff_false, gt_iff_lt, ge_iff_le, beq_iff_eq, bne_iff_ne, ne_eq]) <;> omega) (by repeat (first | exact Sub.nil | refine Sub.cons rfl ?_))
 ·simp only [List.drop_succ_cons, List.drop_zero]
  refine tE ?_
  refine At.cond rfl (fun h2 => ?_) (fun h2 => ?_)
  ·try simp only [hasB, isSizeB, sB] at h2
   rw [layI_no h2]
   refine At.retC (At.thenR (At.ret0 (.inl rfl) rfl rfl  (fun w hw => ?_)))
   exact ⟨rfl, hw⟩
  ·try simp only [hasB, isSizeB, sB] at h2
   have hn := h2
   rw [layI_yes h2]
   obtain ⟨o, ho⟩ : ∃ o : Nat, a = (o : Int) := ⟨a.toNat, by omega⟩
   subst ho
   rw [Int.toNat_natCast]
   refine At.skipC (At.thenN (tR (tA rfl rfl (tE (At.block ?_)))))
   skip
   refine At.loop (σ := Nat) (fun k => k ≤ 8) (fun k => [(0, v), (1, .int .i64 (o : Int)), (2, b64 x), (6, .int .i64 (k : Int))]) (fun k => [brow 5 v (putK l o x k)]) (fun k => 8 - k) 0 (Nat.zero_le _) (Sub.cons rfl (Sub.cons rfl (Sub.cons rfl (Sub.cons rfl Sub.nil)))) (by rw [putK_zero]) ?_
   intro k hs
   refine At.seq (tR (tM rfl rfl (tV (Val.bin rfl rfl rfl) rfl (tE ?_))))
   refine At.cond rfl (fun h3 => ?_) (fun h3 => ?_)
   ·try simp only [hasB, isSizeB, sB] at h3
    have hk : k < 8 := by omega
    refine At.skipC (At.thenN (At.seq (At.block (At.region (tM rfl rfl (tM rfl rfl (tM rfl rfl ?_)))))))
    first | refine tV (Val.addI rfl rfl (by omega) (by omega)) rfl ?_ | refine tV (Val.bin rfl rfl rfl) rfl ?_
    refine tM rfl rfl (tM rfl rfl ?_)
    first | refine tV (Val.mulI rfl rfl (by omega) (by omega)) rfl ?_ | refine tV (Val.bin rfl rfl rfl) rfl ?_
    first | refine tV (Val.toU Tryz.underlying3 Tryz.underlying131 rfl (by omega) (by omega)) rfl ?_ | refine tV (Val.conv Tryz.underlying3 Tryz.underlying131 rfl) rfl ?_
    refine tV (Val.shr rfl rfl (by omega)) rfl ?_
    rw [shr_byte x hk]
    refine tV (Val.toB Tryz.underlying43 Tryz.underlying5 rfl (Int.natCast_nonneg _)) rfl ?_
    rw [Int.toNat_natCast]
    have hpl := putK_length (l := l) (o := o) (k := k) x (by omega) (by omega)
    refine tV (Val.indexRow (i := 0) (o + k) (by omega) Tryz.underlying29 Tryz.sizeOf5 rfl rfl rfl (by omega) (by rw [hpl]; omega)) rfl (At.storeRowB (i := 0) Tryz.sizeOf5 rfl rfl rfl (by omega) ?_)
    simp only [sc0, scS]
    rw [putK_step x (by omega) hk]
    refine At.nil (At.blkN (At.thenN (At.region (tM rfl rfl ?_))))
    first | refine tV (Val.addI rfl rfl (by omega) (by omega)) rfl ?_ | refine tV (Val.bin rfl rfl rfl) rfl ?_
    refine tA rfl rfl (tE ?_)
    exact At.again (k + 1) (show k + 1 ≤ 8 by omega) (by omega) (Sub.cons rfl (Sub.cons rfl (Sub.cons rfl (Sub.cons (congrArg (fun z => some (Value.int IntKind.i64 z)) (by omega)) Sub.nil)))) (List.Perm.refl _)
   ·try simp only [hasB, isSizeB, sB] at h3
    obtain rfl : k = 8 := by omega
    refine At.exitC (At.thenX (At.thenX (At.blkX (At.ret0 (.inr rfl) rfl rfl  (fun w hw => ?_)))))
    exact ⟨rfl, hw⟩
end Go.Proofs.YtfchinibjhcejaaGreatDoor
namespace Go.Proofs.YtfchinibjhcejaaGreatDoor
open Go Go.Wk
theorem image_n (p i c : Int) (bare : Bool) (vW vU : Value) (W U : List (Int × BitVec 64)) (w : World) (hvW : RdP w vW W) (hvU : RdP w vU U) (hWl : W.length ≤ 140737488355328) (hUl : U.length ≤ 140737488355328) (hpb : -9223372036854775808 ≤ p ∧ p ≤ 9223372036854775807) :
    NewRowT Tryz.prog 14 [.agg #[.int .i64 p, .int .i64 i, .int .i64 c, .bool bare, vW, vU]] (fun v => .tuple #[v, .agg #[.int .i64 (supS p i c).1, .int .i64 (supS p i c).2.1, .int .i64 (supS p i c).2.2, .int .i64 (4 + (supS p i c).2.1 / 8)]]) 5 1 (imgE (supS p i c) bare W U).length ((imgE (supS p i c) bare W U).map bv) w := by
 refine enter0 Tryz.func14 rfl Tryz.ntmps14 rfl ?_
 obtain ⟨A, B, C, D, e, hfe, hfc⟩ := fit_ex p i c
 simp only [envOf]
 refine tR (At.box rfl rfl rfl (fun b1 => (tA rfl rfl (At.alloc Tryz.zeroValue31 rfl rfl (fun b2 => (tE (tR (tV (Val.field 0 rfl fo_27_0 rfl) rfl (tV (Val.loadPart (i := 1) Tryz.isAgg23 Tryz.sizeOf23 rfl rfl rfl rfl) rfl (At.alloc Tryz.zeroValue23 rfl rfl (fun b3 => (At.storeAll (i := 0) Tryz.sizeOf23 rfl rfl rfl (by simp [Value.oneCell']) rfl rfl ?_))))))))))))
 simp only [sc0, scS]
 refine tE (tR (tV (Val.loadAll (i := 0) Tryz.isAgg23 Tryz.sizeOf23 rfl rfl rfl) rfl ?_))
 refine At.callP (fun w hw => (by have h0 := fitR_p p i c w hpb; rw [hfe] at h0; exact h0)) Tryz.call33 rfl rfl (tM rfl rfl (tV (Val.extract rfl rfl) rfl (tV (Val.extract rfl rfl) rfl (At.alloc Tryz.zeroValue31 rfl rfl (fun b4 => (At.storeAll (i := 0) Tryz.sizeOf31 rfl rfl rfl (by simp [Value.oneCell']) rfl rfl ?_))))))
 simp only [sc0, scS]
 refine tA rfl rfl (tE ?_)
 refine At.join (σ := Int × Int × Int) (fun s => s = supS p i c) (fun s => [(1, .pointer (some ⟨b1, 0, none⟩)), (3, .pointer (some ⟨b2, 0, none⟩)), (4, .pointer (some ⟨b3, 0, none⟩)), (5, .pointer (some ⟨b4, 0, none⟩))]) (fun s => [blk b4 31 ([.int .i64 s.1, .int .i64 s.2.1, .int .i64 s.2.2, .int .i64 (4 + s.2.1 / 8)]), blk b3 23 ([.int .i64 s.1, .int .i64 s.2.1, .int .i64 s.2.2]), blk b2 31 ([.int .i64 0, .int .i64 0, .int .i64 0, .int .i64 0]), blk b1 27 ([.int .i64 p, .int .i64 i, .int .i64 c, .bool bare, vW, vU])]) ?_ ?_
 ·refine tR (tM rfl rfl (tV (Val.bin rfl rfl rfl) rfl (tE ?_)))
  refine At.cond rfl (fun h5 => ?_) (fun h5 => ?_)
  ·try simp only [hasB, isSizeB, sB] at h5
   have hno : ¬ GoodSup p i c := by rcases hfc with ⟨h1, _⟩ | ⟨_, h2⟩; exact absurd h1 h5; exact h2
   refine tR ?_
   refine tV (Val.build (fun a ha => by simp only [List.map_toArray, List.map_cons, List.map_nil, ha.eval (x := (.const (.int .i64 (24)))) rfl, ha.eval (x := (.const (.int .i64 (8)))) rfl, ha.eval (x := (.const (.int .i64 (1)))) rfl] <;> rfl) (bld_23_0_1_2 _ _ _ )) rfl (At.storeAll (i := 1) Tryz.sizeOf23 rfl rfl rfl (by simp [Value.oneCell']) rfl rfl ?_)
   simp only [sc0, scS]
   refine tE (At.region (tV (Val.loadAll (i := 1) Tryz.isAgg23 Tryz.sizeOf23 rfl rfl rfl) rfl ?_))
   refine At.callP (fun w hw => (by have h0 := fitR_p 24 8 1 w (by decide); rw [fit_yes (by decide)] at h0; exact h0)) Tryz.call33 rfl rfl (tM rfl rfl (tV (Val.extract rfl rfl) rfl (tV (Val.extract rfl rfl) rfl (At.storeAll (i := 0) Tryz.sizeOf31 rfl rfl rfl (by simp [Value.oneCell']) rfl rfl ?_))))
   simp only [sc0, scS]
   refine tE ?_
   exact At.meets (24, 8, 1) (supS_no (by assumption)).symm (Sub.cons rfl (Sub.cons rfl (Sub.cons rfl (Sub.cons rfl Sub.nil)))) (List.Perm.refl _)
  ·try simp only [hasB, isSizeB, sB] at h5
   obtain ⟨hyes, e1, e2, e3, e4⟩ : GoodSup p i c ∧ p = A ∧ i = B ∧ c = C ∧ 4 + i / 8 = D := by rcases hfc with ⟨_, g0, g1, g2, g3, g4⟩ | ⟨h1, _⟩; exact ⟨g0, g1.symm, g2.symm, g3.symm, g4.symm⟩; exact absurd h5 h1
   subst e1 e2 e3 e4
   refine At.skipC (At.thenN ?_)
   exact At.meets (p, i, c) (supS_yes (by assumption)).symm (Sub.cons rfl (Sub.cons rfl (Sub.cons rfl (Sub.cons rfl Sub.nil)))) (List.Perm.refl _)
 ·intro s hs
  have hsS := hs
  have hg : GoodSup s.1 s.2.1 s.2.2 := by rw [hs]; exact supS_good p i c
  have hg2 := hg
  unfold GoodSup at hg2
  clear hfe hfc
  refine tR (tV (Val.field 0 rfl fo_31_0 rfl) rfl (tV (Val.load (i := 0) Tryz.isAgg3 rfl rfl rfl) rfl ?_))
  first | refine tV (Val.mulI rfl rfl (by omega) (by omega)) rfl ?_ | refine tV (Val.bin rfl rfl rfl) rfl ?_
  rw [show 512 * s.1 = (((512 * s.1.toNat) : Nat) : Int) from by omega]
  refine At.makeRowB (n := (512 * s.1.toNat)) Tryz.underlying29 info_5 rfl rfl rfl rfl rfl (by omega) rfl (fun v6 => (tA rfl rfl (tE (At.seq (tR (tA rfl rfl (tE (At.block ?_))))))))
  skip
  refine At.loop (σ := Nat) (fun k => k ≤ W.length) (fun k => [(1, .pointer (some ⟨b1, 0, none⟩)), (3, .pointer (some ⟨b2, 0, none⟩)), (4, .pointer (some ⟨b3, 0, none⟩)), (5, .pointer (some ⟨b4, 0, none⟩)), (7, v6), (8, .int .i64 (k : Int))]) (fun k => [rowR v6 5 1 (((wordsI (zs (512 * s.1.toNat)) (W.take k))).length) (((wordsI (zs (512 * s.1.toNat)) (W.take k))).map bv), blk b4 31 ([.int .i64 s.1, .int .i64 s.2.1, .int .i64 s.2.2, .int .i64 (4 + s.2.1 / 8)]), blk b3 23 ([.int .i64 s.1, .int .i64 s.2.1, .int .i64 s.2.2]), blk b2 31 ([.int .i64 0, .int .i64 0, .int .i64 0, .int .i64 0]), blk b1 27 ([.int .i64 p, .int .i64 i, .int .i64 c, .bool bare, vW, vU])]) (fun k => W.length - k) 0 (Nat.zero_le _) (Sub.cons rfl (Sub.cons rfl (Sub.cons rfl (Sub.cons rfl (Sub.cons rfl (Sub.cons rfl Sub.nil)))))) (List.Perm.refl _) ?_
  intro k hk0
  have hml : (wordsI (zs (512 * s.1.toNat)) (W.take k)).length = (512 * s.1.toNat) := by rw [wordsI_len, zs_length]
  refine At.seq (tR (tM rfl rfl (tV (Val.field 4 rfl fo_27_2 rfl) rfl (tV (Val.load (i := 4) Tryz.isAgg24 rfl rfl rfl) rfl (tV (Val.lenRd hvW Tryz.underlying24 rfl) rfl (tV (Val.bin rfl rfl rfl) rfl (tE ?_)))))))
  refine At.cond rfl (fun h7 => ?_) (fun h7 => ?_)
  ·try simp only [hasB, isSizeB, sB] at h7
   obtain ⟨q, hq⟩ : ∃ q, W[k]? = some q := ⟨_, List.getElem?_eq_getElem (by omega)⟩
   refine At.skipC (At.thenN (At.seq (At.block (At.tail 13 rfl (by decide +kernel) ?_))))
   simp only [List.take_succ_cons, List.take_zero, List.drop_succ_cons, List.drop_zero]
   refine qM rfl rfl (qV (Val.field 4 rfl fo_27_2 rfl) rfl (qV (Val.load (i := 4) Tryz.isAgg24 rfl rfl rfl) rfl (qM rfl rfl (QAt.idxP hvW Tryz.underlying24 Tryz.sizeOf56 rfl rfl (by omega) (by omega) rfl rfl (fun bx ox q1 hq1 hc0 hc1 => ?_)))))
   rw [Int.toNat_natCast] at hq1
   obtain rfl : q = q1 := Option.some.inj (hq.symm.trans hq1)
   refine qV (Val.field ox rfl fo_56_0 rfl) rfl (qV (Val.loadOld Tryz.isAgg3 rfl hc0 (fun h => h)) rfl (qV (Val.field 4 rfl fo_27_2 rfl) rfl (qV (Val.load (i := 4) Tryz.isAgg24 rfl rfl rfl) rfl (qM rfl rfl (QAt.idxP hvW Tryz.underlying24 Tryz.sizeOf56 rfl rfl (by omega) (by omega) rfl rfl (fun bx ox q1 hq1 hc0 hc1 => ?_))))))
   rw [Int.toNat_natCast] at hq1
   obtain rfl : q = q1 := Option.some.inj (hq.symm.trans hq1)
   refine qV (Val.field (ox + 1) rfl fo_56_1 rfl) rfl (qV (Val.loadOld Tryz.isAgg43 rfl hc1 (fun h => h)) rfl (QAt.fin (At.call1 0 rfl (fun w hw hr => lay_r _ (wordsI (zs (512 * s.1.toNat)) (W.take k)) _ _ w (by omega) hr) Tryz.call34 rfl rfl ?_)))
   simp only [sc0, scS]
   refine At.nil (At.blkN (At.thenN (At.region (tM rfl rfl ?_))))
   first | refine tV (Val.addI rfl rfl (by omega) (by omega)) rfl ?_ | refine tV (Val.bin rfl rfl rfl) rfl ?_
   refine tA rfl rfl (tE ?_)
   exact At.again (k + 1) (show k + 1 ≤ _ by omega) (by omega) (Sub.cons rfl (Sub.cons rfl (Sub.cons rfl (Sub.cons rfl (Sub.cons rfl (Sub.cons (congrArg (fun z => some (Value.int IntKind.i64 z)) (by omega)) Sub.nil)))))) (by rw [wordsI_snoc hq])
  ·try simp only [hasB, isSizeB, sB] at h7
   refine At.exitC (At.thenX (At.thenX (At.blkX (At.thenN (At.seq ?_)))))
   obtain rfl : k = W.length := by omega
   rw [List.take_length] at hml ⊢
   obtain ⟨l1, hl1⟩ : ∃ l, l = wordsI (zs (512 * s.1.toNat)) W := ⟨_, rfl⟩
   rw [← hl1] at hml ⊢
   have hpb := packB_le U
   refine At.region (tV (Val.field 5 rfl fo_27_3 rfl) rfl (tV (Val.load (i := 4) Tryz.isAgg25 rfl rfl rfl) rfl (At.callNT (g := (fun v => .tuple #[v, .int .i64 (packE U)])) (fun w hw => packUnR_n _ U w (hvU.mod hw.mod) hUl) Tryz.call35 rfl rfl (fun v8 => (tM rfl rfl (tV (Val.extract rfl rfl) rfl (tV (Val.extract rfl rfl) rfl (tA rfl rfl (tA rfl rfl (tE ?_))))))))))
   refine At.join (σ := Unit) (fun _u => True) (fun _u => [(1, .pointer (some ⟨b1, 0, none⟩)), (3, .pointer (some ⟨b2, 0, none⟩)), (4, .pointer (some ⟨b3, 0, none⟩)), (5, .pointer (some ⟨b4, 0, none⟩)), (7, v6)]) (fun _u => [rowR v6 5 1 (((undoI l1 U)).length) (((undoI l1 U)).map bv), blk b4 31 ([.int .i64 s.1, .int .i64 s.2.1, .int .i64 s.2.2, .int .i64 (4 + s.2.1 / 8)]), blk b3 23 ([.int .i64 s.1, .int .i64 s.2.1, .int .i64 s.2.2]), blk b2 31 ([.int .i64 0, .int .i64 0, .int .i64 0, .int .i64 0]), blk b1 27 ([.int .i64 p, .int .i64 i, .int .i64 c, .bool bare, vW, vU])]) ?_ ?_
   ·refine tR (tM rfl rfl (tV (Val.bin rfl rfl rfl) rfl (tE ?_)))
    refine At.cond rfl (fun h9 => ?_) (fun h9 => ?_)
    ·try simp only [hasB, isSizeB, sB] at h9
     refine tR (tA rfl rfl (tE (At.block ?_)))
     skip
     refine At.loop (σ := Nat) (fun k => k ≤ (packB U).length) (fun k => [(1, .pointer (some ⟨b1, 0, none⟩)), (3, .pointer (some ⟨b2, 0, none⟩)), (4, .pointer (some ⟨b3, 0, none⟩)), (5, .pointer (some ⟨b4, 0, none⟩)), (7, v6), (9, v8), (11, .int .i64 (k : Int))]) (fun k => [rowR v8 5 1 ((packB U).length) ((packB U).map bv), rowR v6 5 1 (((overK l1 512 (packB U) k)).length) (((overK l1 512 (packB U) k)).map bv), blk b4 31 ([.int .i64 s.1, .int .i64 s.2.1, .int .i64 s.2.2, .int .i64 (4 + s.2.1 / 8)]), blk b3 23 ([.int .i64 s.1, .int .i64 s.2.1, .int .i64 s.2.2]), blk b2 31 ([.int .i64 0, .int .i64 0, .int .i64 0, .int .i64 0]), blk b1 27 ([.int .i64 p, .int .i64 i, .int .i64 c, .bool bare, vW, vU])]) (fun k => (packB U).length - k) 0 (Nat.zero_le _) (Sub.cons rfl (Sub.cons rfl (Sub.cons rfl (Sub.cons rfl (Sub.cons rfl (Sub.cons rfl (Sub.cons rfl Sub.nil))))))) (by rw [overK_zero]) ?_
     intro k hs
     have hol : (overK l1 512 (packB U) k).length = l1.length := overK_len (by omega) hs
     refine At.seq (tR (tM rfl rfl (tM rfl rfl (tV (Val.lenRow (i := 0) Tryz.underlying29 rfl rfl) rfl (tV (Val.bin rfl rfl rfl) rfl (tE ?_))))))
     refine At.cond rfl (fun h10 => ?_) (fun h10 => ?_)
     ·try simp only [hasB, isSizeB, sB] at h10
      have hk : k < (packB U).length := by omega
      obtain ⟨cc, hcc⟩ : ∃ cc, (packB U)[k]? = some cc := ⟨_, List.getElem?_eq_getElem hk⟩
      refine At.skipC (At.thenN (At.seq (At.block (At.region (tM rfl rfl (tM rfl rfl ?_))))))
      first | refine tV (Val.addI rfl rfl (by omega) (by omega)) rfl ?_ | refine tV (Val.bin rfl rfl rfl) rfl ?_
      refine tM rfl rfl (tM rfl rfl (tV (Val.indexRow (i := 0) k (by omega) Tryz.underlying29 Tryz.sizeOf5 rfl rfl rfl (by omega) (by omega)) rfl ?_))
      refine tV (Val.loadRow (u := bv cc) (i := 0) Tryz.isAgg5 rfl rfl (by rw [List.getElem?_map, hcc]; rfl)) rfl ?_
      refine tV (Val.indexRow (i := 1) (512 + k) (by omega) Tryz.underlying29 Tryz.sizeOf5 rfl rfl rfl (by omega) (by omega)) rfl (At.storeRowB (i := 1) Tryz.sizeOf5 rfl rfl rfl (by omega) ?_)
      simp only [sc0, scS]
      rw [overK_step hcc (by omega)]
      refine At.nil (At.blkN (At.thenN (At.region (tM rfl rfl ?_))))
      first | refine tV (Val.addI rfl rfl (by omega) (by omega)) rfl ?_ | refine tV (Val.bin rfl rfl rfl) rfl ?_
      refine tA rfl rfl (tE ?_)
      exact At.again (k + 1) (show k + 1 ≤ _ by omega) (by omega) (Sub.cons rfl (Sub.cons rfl (Sub.cons rfl (Sub.cons rfl (Sub.cons rfl (Sub.cons rfl (Sub.cons (congrArg (fun z => some (Value.int IntKind.i64 z)) (by omega)) Sub.nil))))))) (List.Perm.refl _)
     ·try simp only [hasB, isSizeB, sB] at h10
      obtain rfl : k = (packB U).length := by omega
      rw [show overK l1 512 (packB U) (packB U).length = undoI l1 U from rfl]
      refine At.exitC (At.thenX (At.thenX (At.blkX (At.thenN (At.drop 0 ?_)))))
      simp only [ec0, ecS]
      exact At.meets () trivial (Sub.cons rfl (Sub.cons rfl (Sub.cons rfl (Sub.cons rfl (Sub.cons rfl Sub.nil))))) (by first | exact List.Perm.refl _ | (rw [undoI_no (by assumption)]))
    ·try simp only [hasB, isSizeB, sB] at h9
     refine At.skipC (At.thenN (At.drop 0 ?_))
     simp only [ec0, ecS]
     exact At.meets () trivial (Sub.cons rfl (Sub.cons rfl (Sub.cons rfl (Sub.cons rfl (Sub.cons rfl Sub.nil))))) (by first | exact List.Perm.refl _ | (rw [undoI_no (by assumption)]))
   ·intro _u hs
    obtain ⟨l2, hl2⟩ : ∃ l, l = undoI l1 U := ⟨_, rfl⟩
    rw [← hl2]
    have hl2l : l2.length = (512 * s.1.toNat) := by rw [hl2, undoI_len (by omega)]; exact hml
    refine tR (tV (Val.loadAll (i := 2) Tryz.isAgg23 Tryz.sizeOf23 rfl rfl rfl) rfl ?_)
    refine At.callP (fun w hw => (by have h0 := packSupR_p s.1 s.2.1 s.2.2 w (by omega); rw [packSup_yes hg] at h0; exact h0)) Tryz.call36 rfl rfl (tM rfl rfl (tV (Val.extract rfl rfl) rfl (tV (Val.extract rfl rfl) rfl (At.alloc zero_82 zc_82 rfl (fun b11 => ?_)))))
    refine At.storeAll (i := 0) Tryz.sizeOf82 rfl rfl (lineV_length (by rw [superB_length]; decide)) (by simp [Value.oneCell']) rfl (by simp) ?_
    simp only [sc0, scS]
    refine tA rfl rfl (tE (At.seq (tR (tA rfl rfl (tE (At.block ?_))))))
    skip
    refine At.loop (σ := Nat) (fun k => k ≤ 64 ∧ (bare = true → k = 0)) (fun k => [(1, .pointer (some ⟨b1, 0, none⟩)), (3, .pointer (some ⟨b2, 0, none⟩)), (4, .pointer (some ⟨b3, 0, none⟩)), (5, .pointer (some ⟨b4, 0, none⟩)), (7, v6), (12, .pointer (some ⟨b11, 0, none⟩)), (14, .int .i64 (k : Int))]) (fun k => [blk b11 82 ((supLn s).map bv), rowR v6 5 1 (((supR l2 (supLn s) k)).length) (((supR l2 (supLn s) k)).map bv), blk b4 31 ([.int .i64 s.1, .int .i64 s.2.1, .int .i64 s.2.2, .int .i64 (4 + s.2.1 / 8)]), blk b3 23 ([.int .i64 s.1, .int .i64 s.2.1, .int .i64 s.2.2]), blk b2 31 ([.int .i64 0, .int .i64 0, .int .i64 0, .int .i64 0]), blk b1 27 ([.int .i64 p, .int .i64 i, .int .i64 c, .bool bare, vW, vU])]) (fun k => 64 - k) 0 ⟨Nat.zero_le _, fun _ => rfl⟩ (Sub.cons rfl (Sub.cons rfl (Sub.cons rfl (Sub.cons rfl (Sub.cons rfl (Sub.cons rfl (Sub.cons rfl Sub.nil))))))) (List.Perm.refl _) ?_
    intro k hs
    have hrl : (supR l2 (supLn s) k).length = l2.length := supR_len ..
    have hll : ((supLn s).map bv).length = 64 := by rw [List.length_map, supLn_len]
    refine At.seq (tR (At.weaken [(1, _), (3, _), (4, _), (5, _), (7, _), (12, _), (14, _)] (Sub.cons rfl (Sub.cons rfl (Sub.cons rfl (Sub.cons rfl (Sub.cons rfl (Sub.cons rfl (Sub.cons rfl Sub.nil))))))) ?_))
    refine At.boolMeet 7 88 (decide (k < 64 ∧ bare = false)) ?_ ?_
    ·simp only [List.take_succ_cons, List.take_zero]
     refine tM rfl rfl (tV (Val.bin rfl rfl rfl) rfl (tM rfl rfl ?_))
     refine At.split (t := 84) rfl (fun h12 => ?_) (fun h12 => ?_)
     ·try simp only [hasB, isSizeB, sB] at h12
      refine At.yes rfl rfl (tV (Val.field 3 rfl fo_27_1 rfl) rfl (At.yes rfl rfl (tV (Val.load (i := 5) Tryz.isAgg4 rfl rfl rfl) rfl (At.yes rfl rfl (tV (Val.not rfl) rfl (tV (Val.pickT rfl rfl) rfl (At.nil ?_)))))))
      exact At.boolEnd rfl (by rw [eq_comm]; cases bare <;> simp <;> omega) (by repeat (first | exact Sub.nil | refine Sub.cons rfl ?_))
     ·try simp only [hasB, isSizeB, sB] at h12
      refine At.no rfl rfl rfl rfl (At.no rfl rfl rfl rfl (At.no rfl rfl rfl rfl (tV (Val.pickF rfl rfl) rfl (At.nil ?_))))
      exact At.boolEnd rfl (by rw [eq_comm]; cases bare <;> simp <;> omega) (by repeat (first | exact Sub.nil | refine Sub.cons rfl ?_))
    ·simp only [List.drop_succ_cons, List.drop_zero]
     refine tE ?_
     refine At.cond rfl (fun h13 => ?_) (fun h13 => ?_)
     ·try simp only [hasB, isSizeB, sB] at h13
      obtain ⟨hk, hba⟩ := h13
      obtain ⟨cc, hcc⟩ : ∃ cc, (supLn s)[k]? = some cc := ⟨_, List.getElem?_eq_getElem (by rw [supLn_len]; exact hk)⟩
      have hcd : (supLn s).getD k 0 = cc := by rw [List.getD_eq_getElem?_getD, hcc]; rfl
      refine At.skipC (At.thenN (At.seq (At.block (tR (tM rfl rfl (tM rfl rfl (tM rfl rfl (tV (Val.indexArr k (by omega) Tryz.underlying82 Tryz.sizeOf5 rfl rfl (by omega) (by omega)) rfl ?_))))))))
      refine tV (Val.load (i := 0) (v := bv cc) Tryz.isAgg5 rfl rfl (by rw [List.getElem?_map, hcc]; rfl)) rfl ?_
      refine tV (Val.indexRow (i := 1) (k) (by omega) Tryz.underlying29 Tryz.sizeOf5 rfl rfl rfl (by omega) (by first | omega | (rw [List.length_set]; omega))) rfl ?_
      refine At.storeRowB (i := 1) Tryz.sizeOf5 rfl rfl rfl (by first | omega | (rw [List.length_set]; omega)) ?_
      simp only [sc0, scS]
      refine tE (At.region (tM rfl rfl (tM rfl rfl ?_)))
      first | refine tV (Val.addI rfl rfl (by omega) (by omega)) rfl ?_ | refine tV (Val.bin rfl rfl rfl) rfl ?_
      refine tM rfl rfl (tV (Val.indexArr k (by omega) Tryz.underlying82 Tryz.sizeOf5 rfl rfl (by omega) (by omega)) rfl ?_)
      refine tV (Val.load (i := 0) (v := bv cc) Tryz.isAgg5 rfl rfl (by rw [List.getElem?_map, hcc]; rfl)) rfl ?_
      refine tV (Val.indexRow (i := 1) (64 + k) (by omega) Tryz.underlying29 Tryz.sizeOf5 rfl rfl rfl (by omega) (by first | omega | (rw [List.length_set]; omega))) rfl ?_
      refine At.storeRowB (i := 1) Tryz.sizeOf5 rfl rfl rfl (by first | omega | (rw [List.length_set]; omega)) ?_
      simp only [sc0, scS]
      refine At.nil (At.blkN (At.thenN (At.region (tM rfl rfl ?_))))
      first | refine tV (Val.addI rfl rfl (by omega) (by omega)) rfl ?_ | refine tV (Val.bin rfl rfl rfl) rfl ?_
      refine tA rfl rfl (tE ?_)
      exact At.again (k + 1) ⟨(by omega), fun hb9 => by rw [hb9] at hba; exact absurd hba (by decide)⟩ (by omega) (Sub.cons rfl (Sub.cons rfl (Sub.cons rfl (Sub.cons rfl (Sub.cons rfl (Sub.cons rfl (Sub.cons (congrArg (fun z => some (Value.int IntKind.i64 z)) (by omega)) Sub.nil))))))) (by rw [supR_succ, hcd])
     ·try simp only [hasB, isSizeB, sB] at h13
      have hex := h13
      refine At.exitC (At.thenX (At.thenX (At.blkX (At.thenN (At.seq ?_)))))
      have hfin : supR l2 (supLn s) k = imgE s bare W U := by
        have hl1' := hl1
        subst hl1'
        subst hl2
        unfold imgE
        cases hb9 : bare with
        | true => rw [if_pos rfl, hs.2 hb9]; rfl
        | false => rw [if_neg (by decide), show k = 64 from Classical.byContradiction fun g => hex ⟨by omega, hb9⟩]
      rw [hfin]
      refine At.tail 3 rfl (by decide +kernel) ?_
      simp only [List.take_succ_cons, List.take_zero, List.drop_succ_cons, List.drop_zero]
      refine qM rfl rfl (qV (Val.loadAll (i := 2) Tryz.isAgg31 Tryz.sizeOf31 rfl rfl rfl) rfl (qV (Val.assign rfl) rfl (QAt.fin (At.storeAll (i := 4) Tryz.sizeOf31 rfl rfl rfl (by simp [Value.oneCell']) rfl rfl ?_))))
      simp only [sc0, scS]
      refine tE (At.retC (At.ret2 (.inl rfl) rfl rfl rfl (ResOf.all (i := 4) Tryz.isAgg31 Tryz.sizeOf31 rfl rfl rfl) (fun w hw => ?_)))
      subst hsS
      exact ⟨_, rfl, (hw.drop (List.singleton_sublist.2 (List.mem_of_getElem? (i := 1) rfl))).f0⟩
end Go.Proofs.YtfchinibjhcejaaGreatDoor
namespace Go.Proofs.YtfchinibjhcejaaGreatDoor
open Go Go.Wk
theorem At.callY {P : Program} {Γ : Ctx} {E : Env} {H : List Res} {ops : Array Oper} {Q : Exit → Act → World → Prop} {rest : List Oper} {d : Nat} {ty : TypeId} {pos : String} {after : Array Edge} (i : Nat) {β : Type} {r : Res} {r' : β → Res} {v : β → Value} {I : β → Prop} {f : FuncId} {l : List Operand} {vs : List Value} {at_ : Array TypeId} (hi : H[i]? = some r)
    (h : ∀ w, Rep Γ.w0 Γ.S H w → r.holds w → Calls P f vs.toArray w fun e w' => ∃ y : β, e = .returned (v y) ∧ I y ∧ Rep w (feet [r]) [r' y] w') (hc : ∀ args w, (callFunc f args).run P w = .ok (.enter f args) w) (hv : evs E l = some vs) (hn : Nat.blt d Γ.n = true)
    (c : ∀ y, I y → At Γ ((d, v y) :: E) (H.set i (r' y)) (wpList P ops Q rest)) :
    At Γ E H (wpList P ops Q ({ dst := some d, op := .call { callee := .value (.func f), args := l.toArray, argTypes := at_ }, type := ty, pos, after, guard := none } :: rest)) :=
  At.call hc hv hn fun w hw => (h w hw (hw.all _ (List.mem_of_getElem? hi))).mono fun e w' ⟨y, he, hI, hr⟩ => ⟨v y, _, he, Rep.frame1 (X := []) hi hw hr, c y hI⟩
theorem sameBytes_p (v u : Value) (l m : List UInt8) (w : World) (hv : RdB w v l) (hu : RdB w u m) (hl : l.length ≤ 140737489000000) (hm : m.length ≤ 140737489000000) :
    PureC Tryz.prog 18 [v, u] (.bool (decide (l = m))) w := by
 refine enter0 Tryz.func18 rfl Tryz.ntmps18 rfl ?_
 simp only [envOf]
 refine tR (tA rfl rfl (tE (At.seq (tR (tM rfl rfl (tV (Val.lenRd hv Tryz.underlying29 rfl) rfl (tM rfl rfl (tV (Val.lenRd hu Tryz.underlying29 rfl) rfl (tV (Val.bin rfl rfl rfl) rfl (tE ?_))))))))))
 refine At.cond rfl (fun h1 => ?_) (fun h1 => ?_)
 ·try simp only [hasB, isSizeB, sB] at h1
  refine tR (tA rfl rfl (tE (At.retC (At.thenR (At.ret1 (.inl rfl) rfl rfl rfl (fun w hw => ?_))))))
  exact ⟨congrArg (fun b => Ending.returned (.bool b)) (decide_eq_false (fun e => ‹¬ (l.length : Int) = m.length› (by rw [e]))).symm, hw.mod⟩
 ·try simp only [hasB, isSizeB, sB] at h1
  have hn : l.length = m.length := by omega
  refine At.skipC (At.thenN (At.seq (tR (tA rfl rfl (tE (At.block ?_))))))
  skip
  refine At.loop (σ := Nat) (fun k => k ≤ l.length ∧ l.take k = m.take k) (fun k => [(0, v), (1, u), (5, .int .i64 (k : Int))]) (fun k => []) (fun k => l.length - k) 0 ⟨Nat.zero_le _, rfl⟩ (Sub.cons rfl (Sub.cons rfl (Sub.cons rfl Sub.nil))) (List.Perm.refl _) ?_
  intro k hs
  refine At.seq (tR (tM rfl rfl (tM rfl rfl (tV (Val.lenRd hv Tryz.underlying29 rfl) rfl (tV (Val.bin rfl rfl rfl) rfl (tE ?_))))))
  refine At.cond rfl (fun h2 => ?_) (fun h2 => ?_)
  ·try simp only [hasB, isSizeB, sB] at h2
   refine At.skipC (At.thenN (At.seq (At.block (At.seq (At.quiet rfl (by decide +kernel) (qM rfl rfl (qM rfl rfl (QAt.idxB hv Tryz.underlying29 Tryz.sizeOf5 rfl rfl (by omega) (by omega) rfl rfl (fun b3 o4 q5 hq6 hl7 hc8 => (qV (Val.loadOld Tryz.isAgg5 rfl hc8 (fun h => h)) rfl (qM rfl rfl (qM rfl rfl (QAt.idxB hu Tryz.underlying29 Tryz.sizeOf5 rfl rfl (by omega) (by omega) rfl rfl (fun b9 o10 q11 hq12 hl13 hc14 => (qV (Val.loadOld Tryz.isAgg5 rfl hc14 (fun h => h)) rfl (qV (Val.bin rfl rfl rfl) rfl (QAt.fin (At.thenN ?_))))))))))))))))))
   refine At.cond rfl (fun h15 => ?_) (fun h15 => ?_)
   ·try simp only [hasB, isSizeB, sB] at h15
    refine tR (tA rfl rfl (tE (At.retC (At.blkR (At.thenR (At.thenR (At.blkR (At.thenR (At.ret1 (.inl rfl) rfl rfl rfl (fun w hw => ?_))))))))))
    exact ⟨congrArg (fun b => Ending.returned (.bool b)) (decide_eq_false (fun e => by subst e; simp_all)).symm, hw.mod⟩
   ·try simp only [hasB, isSizeB, sB] at h15
    refine At.skipC (At.blkN (At.thenN (At.region (tM rfl rfl ?_))))
    first | refine tV (Val.addI rfl rfl (by omega) (by omega)) rfl ?_ | refine tV (Val.bin rfl rfl rfl) rfl ?_
    refine tA rfl rfl (tE ?_)
    exact At.again (k + 1) ⟨by omega, by rw [List.take_add_one, List.take_add_one, hs.2, show l[k]? = m[k]? from by simp only [Int.toNat_natCast] at *; simp_all; exact UInt8.toNat_inj.1 (by omega)]⟩ (by omega) (Sub.cons rfl (Sub.cons rfl (Sub.cons (congrArg (fun z => some (Value.int IntKind.i64 z)) (by omega)) Sub.nil))) (List.Perm.refl _)
  ·try simp only [hasB, isSizeB, sB] at h2
   refine At.exitC (At.thenX (At.thenX (At.blkX (At.thenN (tR (tA rfl rfl (tE (At.retC (At.ret1 (.inl rfl) rfl rfl rfl (fun w hw => ?_))))))))))
   exact ⟨congrArg (fun b => Ending.returned (.bool b)) (decide_eq_true (by have h1 := hs.2; rw [List.take_of_length_le (by omega), List.take_of_length_le (by omega)] at h1; exact h1)).symm, hw.mod⟩
theorem sameUnJ_p (v u : Value) (L : List (Int × BitVec 64)) (w : World) (hv : RdP w v L) (hu : RdP w u L) (hlen : L.length ≤ 8796093022144) :
    PureC Tryz.prog 17 [v, u] (.bool true) w := by
 refine enter0 Tryz.func17 rfl Tryz.ntmps17 rfl ?_
 simp only [envOf]
 refine tR (tA rfl rfl (tE (At.seq (tR (tM rfl rfl (tV (Val.lenRd hv Tryz.underlying25 rfl) rfl (tM rfl rfl (tV (Val.lenRd hu Tryz.underlying25 rfl) rfl (tV (Val.bin rfl rfl rfl) rfl (tE ?_))))))))))
 refine At.cond rfl (fun h1 => ?_) (fun h1 => ?_)
 ·try simp only [hasB, isSizeB, sB] at h1
  first | exact absurd rfl h1 | exact absurd trivial h1
 ·try simp only [hasB, isSizeB, sB] at h1
  refine At.skipC (At.thenN (At.seq (tR (tA rfl rfl (tE (At.block ?_))))))
  skip
  refine At.loop (σ := Nat) (fun k => k ≤ L.length) (fun k => [(0, v), (1, u), (5, .int .i64 (k : Int))]) (fun k => []) (fun k => L.length - k) 0 (Nat.zero_le _) (Sub.cons rfl (Sub.cons rfl (Sub.cons rfl Sub.nil))) (List.Perm.refl _) ?_
  intro k hs
  refine At.seq (tR (tM rfl rfl (tM rfl rfl (tV (Val.lenRd hv Tryz.underlying25 rfl) rfl (tV (Val.bin rfl rfl rfl) rfl (tE ?_))))))
  refine At.cond rfl (fun h2 => ?_) (fun h2 => ?_)
  ·try simp only [hasB, isSizeB, sB] at h2
   have hk : k < L.length := by omega
   refine At.skipC (At.thenN (At.seq (At.block (At.seq (At.quiet rfl (by decide +kernel) (qM rfl rfl (qM rfl rfl (QAt.idxP hv Tryz.underlying25 Tryz.sizeOf45 rfl rfl (by omega) (by omega) rfl rfl (fun b3 o4 q5 hq6 hc7 hd8 => (qV (Val.loadPair Tryz.isAgg45 Tryz.sizeOf45 rfl hc7 hd8 (fun h => h)) rfl (qM rfl rfl (qM rfl rfl (QAt.idxP hu Tryz.underlying25 Tryz.sizeOf45 rfl rfl (by omega) (by omega) rfl rfl (fun b9 o10 q11 hq12 hc13 hd14 => (qV (Val.loadPair Tryz.isAgg45 Tryz.sizeOf45 rfl hc13 hd14 (fun h => h)) rfl (qV (Val.neAgg Tryz.eqGuardType45 (fun w => eq_45 _ _ _ _ w) rfl rfl) rfl ?_))))))))))))))))
   rw [show q11 = q5 from by have h1 := hq6; have h2 := hq12; rw [h1] at h2; exact (Option.some.inj h2).symm]
   simp only [beq_self_eq_true, Bool.and_true, Bool.not_true]
   refine QAt.fin (At.thenN (At.condF rfl (At.skipC (At.blkN (At.thenN (At.region (tM rfl rfl ?_)))))))
   first | refine tV (Val.addI rfl rfl (by omega) (by omega)) rfl ?_ | refine tV (Val.bin rfl rfl rfl) rfl ?_
   refine tA rfl rfl (tE ?_)
   exact At.again (k + 1) (by omega) (by omega) (Sub.cons rfl (Sub.cons rfl (Sub.cons (congrArg (fun z => some (Value.int IntKind.i64 z)) (by omega)) Sub.nil))) (List.Perm.refl _)
  ·try simp only [hasB, isSizeB, sB] at h2
   obtain rfl : k = L.length := by omega
   refine At.exitC (At.thenX (At.thenX (At.blkX (At.thenN (tR (tA rfl rfl (tE (At.retC (At.ret1 (.inl rfl) rfl rfl rfl (fun w hw => ?_))))))))))
   exact ⟨rfl, hw.mod⟩
theorem sdev_k (p q : Nat) (γ : Gh) (δ : Rg) (σ : Ds) (ρ : Rs) (w : World) (hsim : Sim σ ρ) (hd : (star [Dev p γ σ, RDev q δ ρ]).holds w) :
    Upd Tryz.prog 125 [.pointer (some ⟨p, 0, none⟩), .pointer (some ⟨q, 0, none⟩)] (star [Dev p γ σ, RDev q δ ρ]) (.bool true) (star [Dev p γ σ, RDev q δ ρ]) w := by
 refine enter (feet [star [Dev p γ σ, RDev q δ ρ]]) [Dev p γ σ, RDev q δ ρ] Tryz.func125 rfl Tryz.ntmps125 rfl (Rep.of_star (r := star [Dev p γ σ, RDev q δ ρ]) hd) ?_
 have hgd := Dev.good (hd.2 (Dev p γ σ) (by simp))
 have hwl := hgd.len
 have hsl := hsim.len
 simp only [envOf]
 refine tR (tA rfl rfl (tE (tR (tM rfl rfl (At.callDB 0 rfl (fun w hw hr => doubts_k _ _ _ w hr) Tryz.call30 rfl rfl (fun v1 Q2 hQ3 => (tA rfl rfl (tE (tR (tM rfl rfl (At.callDB 2 rfl (fun w hw hr => rdoubts_s _ _ _ σ w hsim hwl hr) Tryz.call158 rfl rfl (fun v4 Q5 hQ6 => (tA rfl rfl (At.nil ?_))))))))))))))
 have hQQ : Q2.map Prod.fst = Q5.map Prod.fst := by rw [hQ3, hQ6]
 have hQl : Q2.length = Q5.length := by have := congrArg List.length hQQ; rwa [List.length_map, List.length_map] at this
 have hQb : Q2.length ≤ 65536 := by have h1 := congrArg List.length hQ3; rw [List.length_map, dts_length] at h1; have h2 := dk_le σ.ws; omega
 refine At.thenN (At.seq (tR (tM rfl rfl (tV (Val.lenDb (i := 1) rfl Tryz.underlying68 rfl) rfl (tM rfl rfl (tV (Val.lenDb (i := 0) rfl Tryz.underlying68 rfl) rfl (tV (Val.bin rfl rfl rfl) rfl (tM rfl rfl ?_))))))))
 refine At.split (t := 18) rfl (fun h7 => ?_) (fun h7 => ?_)
 ·try simp only [hasB, isSizeB, sB] at h7
  omega
 ·try simp only [hasB, isSizeB, sB] at h7
  refine At.yes rfl rfl (tM rfl rfl (At.yes rfl rfl (At.callK 2 rfl (fun w hw hr => steps_k _ _ _ w hr) Tryz.call24 rfl rfl (At.yes rfl rfl (tM rfl rfl (At.yes rfl rfl (At.callK 3 rfl (fun w hw hr => rsteps_k _ _ _ w hr) Tryz.call159 rfl rfl (At.yes rfl rfl (tV (Val.bin rfl rfl rfl) rfl (tV (Val.pickF rfl rfl) rfl (tM rfl rfl ?_)))))))))))
  refine At.split (t := 25) rfl (fun h8 => ?_) (fun h8 => ?_)
  ·try simp only [hasB, isSizeB, sB] at h8
   have h9 := hsim.now; omega
  ·try simp only [hasB, isSizeB, sB] at h8
   refine At.yes rfl rfl (tM rfl rfl (At.yes rfl rfl (At.callK 2 rfl (fun w hw hr => dead_k _ _ _ w hr) Tryz.call80 rfl rfl (At.yes rfl rfl (tM rfl rfl (At.yes rfl rfl (At.callK 3 rfl (fun w hw hr => rdead_k _ _ _ w hr) Tryz.call160 rfl rfl (At.yes rfl rfl (tV (Val.neB Tryz.underlying4 rfl rfl) rfl ?_)))))))))
   rw [show (!(deadB σ == (ρ.left == 0))) = false from by rw [hsim.dead, show (ρ.left == 0) = decide (ρ.left = 0) from rfl, beq_self_eq_true]; rfl]
   refine tV (Val.pickF rfl rfl) rfl (tE (At.condF rfl (At.skipC (At.thenN (At.seq (tR (tA rfl rfl (tE (At.block ?_)))))))))
   skip
   refine At.loop (σ := Nat) (fun k => k ≤ Q2.length) (fun k => [(0, .pointer (some ⟨p, 0, none⟩)), (1, .pointer (some ⟨q, 0, none⟩)), (5, v1), (6, v4), (7, .int .i64 (k : Int))]) (fun k => [dbtR v4 Q5, dbtR v1 Q2, Dev p γ (σ), RDev q δ (ρ)]) (fun k => Q2.length - k) 0 (Nat.zero_le _) (Sub.cons rfl (Sub.cons rfl (Sub.cons rfl (Sub.cons rfl (Sub.cons rfl Sub.nil))))) (List.Perm.refl _) ?_
   intro k hs
   refine At.seq (tR (tM rfl rfl (tM rfl rfl (tV (Val.lenDb (i := 1) rfl Tryz.underlying68 rfl) rfl (tV (Val.bin rfl rfl rfl) rfl (tE ?_))))))
   refine At.cond rfl (fun h9 => ?_) (fun h9 => ?_)
   ·try simp only [hasB, isSizeB, sB] at h9
    have hkl : k < Q2.length := by omega
    obtain ⟨⟨⟨xa, xo, xn⟩, xs⟩, hx⟩ : ∃ x, Q2[k]? = some x := ⟨_, List.getElem?_eq_getElem hkl⟩
    obtain ⟨⟨yy, ys⟩, hy⟩ : ∃ y, Q5[k]? = some y := ⟨_, List.getElem?_eq_getElem (by omega)⟩
    obtain rfl : yy = (xa, xo, xn) := by have h1 := fst_at hQQ hx; have h2 := fst_at rfl hy; exact Option.some.inj (h2.symm.trans h1)
    have hxl : xn.length ≤ 1099511627776 := dts_bd hgd (fst_at hQ3 hx)
    refine At.skipC (At.thenN (At.seq (At.block (At.seq (At.seq (At.quiet rfl (by decide +kernel) (qM rfl rfl (qM rfl rfl (qV (Val.indexDb (i := 1) (k * 3) (by omega) Tryz.underlying68 Tryz.sizeOf121 rfl rfl rfl (by omega) (by omega)) rfl (qV (Val.field (k * 3 + 0) rfl fo_121_0 rfl) rfl (qV (Val.loadDb (i := 1) 0 Tryz.isAgg3 rfl rfl rfl hx rfl) rfl (qM rfl rfl (qM rfl rfl (qV (Val.indexDb (i := 0) (k * 3) (by omega) Tryz.underlying68 Tryz.sizeOf121 rfl rfl rfl (by omega) (by omega)) rfl (qV (Val.field (k * 3 + 0) rfl fo_121_0 rfl) rfl (qV (Val.loadDb (i := 0) 0 Tryz.isAgg3 rfl rfl rfl hy rfl) rfl (qV (Val.bin rfl rfl rfl) rfl ?_)))))))))))))))))
    rw [bne_self_eq_false]
    refine qM rfl rfl (QAt.yes rfl rfl (qM rfl rfl (QAt.yes rfl rfl (qM rfl rfl (QAt.yes rfl rfl (qV (Val.indexDb (i := 1) (k * 3) (by omega) Tryz.underlying68 Tryz.sizeOf121 rfl rfl rfl (by omega) (by omega)) rfl (QAt.yes rfl rfl (qV (Val.field (k * 3 + 1) rfl fo_121_1 rfl) rfl (QAt.yes rfl rfl (qV (Val.loadDb (i := 1) 1 Tryz.isAgg43 rfl rfl rfl hx rfl) rfl (QAt.yes rfl rfl (qM rfl rfl (QAt.yes rfl rfl (qM rfl rfl (QAt.yes rfl rfl (qV (Val.indexDb (i := 0) (k * 3) (by omega) Tryz.underlying68 Tryz.sizeOf121 rfl rfl rfl (by omega) (by omega)) rfl (QAt.yes rfl rfl (qV (Val.field (k * 3 + 1) rfl fo_121_1 rfl) rfl (QAt.yes rfl rfl (qV (Val.loadDb (i := 0) 1 Tryz.isAgg43 rfl rfl rfl hy rfl) rfl (QAt.yes rfl rfl (qV (Val.bin rfl rfl rfl) rfl ?_))))))))))))))))))))))
    rw [bne_self_eq_false]
    refine qV (Val.pickF rfl rfl) rfl (qM rfl rfl (QAt.yes rfl rfl (qM rfl rfl (QAt.yes rfl rfl (qM rfl rfl (QAt.yes rfl rfl (qV (Val.indexDb (i := 1) (k * 3) (by omega) Tryz.underlying68 Tryz.sizeOf121 rfl rfl rfl (by omega) (by omega)) rfl (QAt.yes rfl rfl (qV (Val.field (k * 3 + 2) rfl fo_121_2 rfl) rfl (QAt.yes rfl rfl (qV (Val.loadDb (i := 1) 2 Tryz.isAgg98 rfl rfl rfl hx rfl) rfl (QAt.yes rfl rfl (qV (Val.lenNews (i := 1) rfl hx Tryz.underlying98 rfl) rfl (QAt.yes rfl rfl (qM rfl rfl (QAt.yes rfl rfl (qM rfl rfl (QAt.yes rfl rfl (qV (Val.indexDb (i := 0) (k * 3) (by omega) Tryz.underlying68 Tryz.sizeOf121 rfl rfl rfl (by omega) (by omega)) rfl (QAt.yes rfl rfl (qV (Val.field (k * 3 + 2) rfl fo_121_2 rfl) rfl (QAt.yes rfl rfl (qV (Val.loadDb (i := 0) 2 Tryz.isAgg98 rfl rfl rfl hy rfl) rfl (QAt.yes rfl rfl (qV (Val.lenNews (i := 0) rfl hy Tryz.underlying98 rfl) rfl (QAt.yes rfl rfl (qV (Val.bin rfl rfl rfl) rfl ?_)))))))))))))))))))))))))))
    rw [bne_self_eq_false]
    refine qV (Val.pickF rfl rfl) rfl (QAt.fin (At.thenN (At.condF rfl (At.skipC (At.thenN (tR (tA rfl rfl (tE (At.block ?_)))))))))
    skip
    refine At.loop (σ := Nat) (fun j => j ≤ xn.length) (fun j => [(0, .pointer (some ⟨p, 0, none⟩)), (1, .pointer (some ⟨q, 0, none⟩)), (5, v1), (6, v4), (7, .int .i64 (k : Int)), (8, .int .i64 (j : Int))]) (fun j => [dbtR v4 Q5, dbtR v1 Q2, Dev p γ (σ), RDev q δ (ρ)]) (fun j => xn.length - j) 0 (Nat.zero_le _) (Sub.cons rfl (Sub.cons rfl (Sub.cons rfl (Sub.cons rfl (Sub.cons rfl (Sub.cons rfl Sub.nil)))))) (List.Perm.refl _) ?_
    intro j hj
    refine At.seq (tR (tM rfl rfl (tM rfl rfl (tM rfl rfl (tV (Val.indexDb (i := 1) (k * 3) (by omega) Tryz.underlying68 Tryz.sizeOf121 rfl rfl rfl (by omega) (by omega)) rfl (tV (Val.field (k * 3 + 2) rfl fo_121_2 rfl) rfl (tV (Val.loadDb (i := 1) 2 Tryz.isAgg98 rfl rfl rfl hx rfl) rfl (tV (Val.lenNews (i := 1) rfl hx Tryz.underlying98 rfl) rfl (tV (Val.bin rfl rfl rfl) rfl (tE ?_))))))))))
    refine At.cond rfl (fun h10 => ?_) (fun h10 => ?_)
    ·try simp only [hasB, isSizeB, sB] at h10
     obtain ⟨z, hz⟩ : ∃ z, xn[j]? = some z := ⟨_, List.getElem?_eq_getElem (by omega)⟩
     refine At.skipC (At.thenN (At.seq (At.block (At.seq (At.quiet rfl (by decide +kernel) (qM rfl rfl (qM rfl rfl (qV (Val.indexDb (i := 1) (k * 3) (by omega) Tryz.underlying68 Tryz.sizeOf121 rfl rfl rfl (by omega) (by omega)) rfl (qV (Val.field (k * 3 + 2) rfl fo_121_2 rfl) rfl (qV (Val.loadDb (i := 1) 2 Tryz.isAgg98 rfl rfl rfl hx rfl) rfl (qM rfl rfl (qV (Val.indexNews (i := 1) j (by omega) rfl hx Tryz.underlying98 Tryz.sizeOf43 rfl rfl (by omega) (show _ < ((xn.length : Nat) : Int) by omega)) rfl (qV (Val.loadNewsD (i := 1) Tryz.isAgg43 rfl rfl hx hz) rfl (qM rfl rfl (qM rfl rfl (qV (Val.indexDb (i := 0) (k * 3) (by omega) Tryz.underlying68 Tryz.sizeOf121 rfl rfl rfl (by omega) (by omega)) rfl (qV (Val.field (k * 3 + 2) rfl fo_121_2 rfl) rfl (qV (Val.loadDb (i := 0) 2 Tryz.isAgg98 rfl rfl rfl hy rfl) rfl (qM rfl rfl (qV (Val.indexNews (i := 0) j (by omega) rfl hy Tryz.underlying98 Tryz.sizeOf43 rfl rfl (by omega) (show _ < ((xn.length : Nat) : Int) by omega)) rfl (qV (Val.loadNewsD (i := 0) Tryz.isAgg43 rfl rfl hy hz) rfl (qV (Val.bin rfl rfl rfl) rfl ?_))))))))))))))))))))))
     rw [bne_self_eq_false]
     refine QAt.fin (At.thenN (At.condF rfl (At.skipC (At.blkN (At.thenN (At.region (tM rfl rfl ?_)))))))
     first | refine tV (Val.addI rfl rfl (by omega) (by omega)) rfl ?_ | refine tV (Val.bin rfl rfl rfl) rfl ?_
     refine tA rfl rfl (tE ?_)
     exact At.again (j + 1) (show j + 1 ≤ _ by omega) (by omega) (Sub.cons rfl (Sub.cons rfl (Sub.cons rfl (Sub.cons rfl (Sub.cons rfl (Sub.cons (congrArg (fun z => some (Value.int IntKind.i64 z)) (by omega)) Sub.nil)))))) (List.Perm.refl _)
    ·try simp only [hasB, isSizeB, sB] at h10
     refine At.exitC (At.thenX (At.thenX (At.blkX (At.blkN (At.thenN (At.region (tM rfl rfl ?_)))))))
     first | refine tV (Val.addI rfl rfl (by omega) (by omega)) rfl ?_ | refine tV (Val.bin rfl rfl rfl) rfl ?_
     refine tA rfl rfl (tE ?_)
     exact At.again (k + 1) (show k + 1 ≤ _ by omega) (by omega) (Sub.cons rfl (Sub.cons rfl (Sub.cons rfl (Sub.cons rfl (Sub.cons (congrArg (fun z => some (Value.int IntKind.i64 z)) (by omega)) Sub.nil))))) (List.Perm.refl _)
   ·try simp only [hasB, isSizeB, sB] at h9
    refine At.exitC (At.thenX (At.thenX (At.blkX (At.thenN (tR (tM rfl rfl (At.callRK 2 rfl (fun w hw hr => view_k _ _ _ w hr) Tryz.call26 rfl rfl (fun v11 => (tM rfl rfl (At.callRK 4 rfl (fun w hw hr => rview_s _ _ _ σ w hsim hwl hr) Tryz.call161 rfl rfl (fun v12 => ?_)))))))))))
    refine At.callP (fun w hw => sameBytes_p _ _ _ _ w (row_rd (hw.row (i := 1) rfl) (by decide)) (row_rd (hw.row (i := 0) rfl) (by decide)) (by rw [wbytes_length, viewWs, List.length_map]; omega) (by rw [wbytes_length, viewWs, List.length_map]; omega)) Tryz.call18 rfl rfl ?_
    rw [decide_eq_true rfl]
    ·refine tA rfl rfl (tE (At.retC (At.ret1 (.inl rfl) rfl rfl rfl (fun w hw => ?_))))
     exact ⟨rfl, Rep.shutS (F := []) (hw.drop (List.Sublist.refl _ |>.cons _ |>.cons _ |>.cons _ |>.cons _))⟩
theorem rload_no (v : Value) (l : List UInt8) (w : World) (hv : RdB w v l) (hn : isSizeB (l.length : Int) = false) :
    PureC Tryz.prog 96 [v] (.tuple #[.pointer none, .int .i64 10]) w := by
 refine enter0 Tryz.func96 rfl Tryz.ntmps96 rfl ?_
 simp only [envOf]
 refine tR (tA rfl rfl (tA rfl rfl (tE (tR (tM rfl rfl (tV (Val.lenRd hv Tryz.underlying29 rfl) rfl (At.callP (fun w hw => rnew_no _ w hn) Tryz.call123 rfl rfl (tM rfl rfl (tV (Val.extract rfl rfl) rfl (tV (Val.extract rfl rfl) rfl (tA rfl rfl (tA rfl rfl (tE (At.seq (tR (tM rfl rfl (tV (Val.bin rfl rfl rfl) rfl (tE (At.condT rfl (tR (tM rfl rfl (tA rfl rfl (tA rfl rfl (tE (At.retC (At.thenR (At.ret2 (.inl rfl) rfl rfl rfl rfl (fun w hw => ?_))))))))))))))))))))))))))))
 exact ⟨rfl, hw.mod⟩
end Go.Proofs.YtfchinibjhcejaaGreatDoor
namespace Go.Proofs.YtfchinibjhcejaaGreatDoor
open Go Go.Wk
theorem num_shl {l : List UInt8} {a b : Nat} {c : UInt8} (h : l[a + b]? = some c) (hb : b < 8) :
    IntKind.u64.wrap (((num l a b : Nat) : Int) + IntKind.u64.wrap ((c.toNat : Int) * 2 ^ min (8 * (b : Int)).toNat IntKind.u64.bits)) = ((num l a (b + 1) : Nat) : Int) := by
  have e8 : (8 * (b : Int)).toNat = 8 * b := by omega
  have hp : 256 ^ b = 2 ^ (8 * b) := by rw [Nat.pow_mul]
  have hle : 256 ^ (b + 1) ≤ 18446744073709551616 := by
    rw [show (18446744073709551616 : Nat) = 256 ^ 8 from rfl]; exact Nat.pow_le_pow_right (by decide) (by omega)
  have h2 : num l a (b + 1) < 256 ^ (b + 1) := num_lt a (b + 1)
  have h3 := num_succ h
  have e : IntKind.u64.wrap ((c.toNat : Int) * 2 ^ min (8 * (b : Int)).toNat IntKind.u64.bits) = ((256 ^ b * c.toNat : Nat) : Int) := by
    rw [e8, show min (8 * b) IntKind.u64.bits = 8 * b from Nat.min_eq_left (by show 8 * b ≤ 64; omega)]
    rw [show (c.toNat : Int) * 2 ^ (8 * b) = ((256 ^ b * c.toNat : Nat) : Int) from by rw [hp]; push_cast; rw [Int.mul_comm]]
    exact wrap_u64 (by omega) (by omega)
  rw [e, h3, show ((num l a b : Nat) : Int) + ((256 ^ b * c.toNat : Nat) : Int) = ((num l a b + 256 ^ b * c.toNat : Nat) : Int) from by omega]
  exact wrap_u64 (by omega) (by omega)
def wdP (l : List UInt8) (i K : Nat) : BitVec 64 := BitVec.ofNat 64 (num l (8 * K) (min 8 (i - 8 * K)))
theorem num_lt8 (l : List UInt8) (a : Nat) {n : Nat} (h : n ≤ 8) : num l a n < 18446744073709551616 := Nat.lt_of_lt_of_le (num_lt a n) (by rw [show (18446744073709551616 : Nat) = 256 ^ 8 from rfl]; exact Nat.pow_le_pow_right (by decide) h)
theorem wdP_val (l : List UInt8) (i K : Nat) : Value.int .u64 ((num l (8 * K) (min 8 (i - 8 * K)) : Nat) : Int) = b64 (wdP l i K) := by
  unfold b64 wdP; rw [BitVec.toNat_ofNat, Nat.mod_eq_of_lt (num_lt8 l _ (by omega))]
def LnOk (l : List UInt8) (M i : Nat) (Q : List Lq) : Prop := Q.length = M ∧ ∀ (k : Nat) (q : Lq), Q[k]? = some q → q.1.puts = [] ∧ q.1.fl = [] ∧ q.1.first.length = 8 ∧ ∀ j, j < 8 → q.1.first[j]? = some (wdP l i (8 * k + j))
theorem LnOk.first8 {l : List UInt8} {M i : Nat} {Q : List Lq} (h : LnOk l M i Q) : First8 Q := fun x hx => by
  obtain ⟨k, hk⟩ := List.getElem?_of_mem hx
  exact (h.2 k x hk).2.2.1
theorem lnOk_step {l : List UInt8} {M k j b : Nat} {Q : List Lq} {q : Lq} (h : LnOk l M (64 * k + 8 * j + b) Q) (hj : j < 8) (hb : b < 8) (hq : Q[k]? = some q) : LnOk l M (64 * k + 8 * j + b + 1) (Q.set k ({ q.1 with first := q.1.first.set j (wdP l (64 * k + 8 * j + b + 1) (8 * k + j)) }, q.2.1, q.2.2)) := by
  refine ⟨by rw [List.length_set]; exact h.1, fun k' q' hq' => ?_⟩
  by_cases e : k = k'
  · subst e
    rw [List.getElem?_set_self (List.getElem?_eq_some_iff.1 hq).1] at hq'
    obtain rfl := Option.some.inj hq'
    obtain ⟨h1, h2, h3, h4⟩ := h.2 k q hq
    refine ⟨h1, h2, by simpa using h3, fun j' hj' => ?_⟩
    by_cases ej : j = j'
    · subst ej; exact List.getElem?_set_self (by omega)
    · rw [List.getElem?_set_ne ej, h4 j' hj']
      unfold wdP
      rw [show min 8 (64 * k + 8 * j + b - 8 * (8 * k + j')) = min 8 (64 * k + 8 * j + b + 1 - 8 * (8 * k + j')) by omega]
  · rw [List.getElem?_set_ne e] at hq'
    obtain ⟨h1, h2, h3, h4⟩ := h.2 k' q' hq'
    refine ⟨h1, h2, h3, fun j' hj' => ?_⟩
    rw [h4 j' hj']
    unfold wdP
    rw [show min 8 (64 * k + 8 * j + b - 8 * (8 * k' + j')) = min 8 (64 * k + 8 * j + b + 1 - 8 * (8 * k' + j')) by omega]
theorem lnOk_start {l : List UInt8} {M : Nat} {Q : List Lq} (h : Q.map Prod.fst = (zeroR M).ls) : LnOk l M 0 Q := by
  have hl : Q.length = M := by have := congrArg List.length h; rw [List.length_map] at this; simpa [zeroR] using this
  refine ⟨hl, fun k q hq => ?_⟩
  have h1 := line_at h hq
  have hz : q.1 = zL := (List.mem_replicate.1 (List.mem_of_getElem? h1)).2
  rw [hz]
  refine ⟨rfl, rfl, rfl, fun j hj => ?_⟩
  unfold zL wdP
  simp only
  rw [List.getElem?_replicate, if_pos hj, show min 8 (0 - 8 * (8 * k + j)) = 0 by omega, num_zero]; rfl
theorem lnOk_end {l : List UInt8} {M : Nat} {Q : List Lq} (h : LnOk l M (64 * M) Q) : Q.map Prod.fst = (loadR l M).ls := by
  apply List.ext_getElem?
  intro k
  show _ = ((List.range M).map (lineR l))[k]?
  rw [List.getElem?_map, List.getElem?_map]
  rcases Nat.lt_or_ge k M with hk | hk
  · obtain ⟨q, hq⟩ : ∃ q, Q[k]? = some q := ⟨_, List.getElem?_eq_getElem (by rw [h.1]; exact hk)⟩
    rw [hq, List.getElem?_range hk]
    obtain ⟨h1, h2, h3, h4⟩ := h.2 k q hq
    refine congrArg some ?_
    obtain ⟨⟨f, pu, fl⟩, q2⟩ := q
    simp only at h1 h2 h3 h4
    subst h1 h2
    show Rl.mk f [] [] = lineR l k
    unfold lineR
    congr 1
    apply List.ext_getElem?
    intro j
    rw [List.getElem?_map]
    rcases Nat.lt_or_ge j 8 with hj | hj
    · rw [h4 j hj, List.getElem?_range hj]
      unfold wdP
      rw [show min 8 (64 * M - 8 * (8 * k + j)) = 8 by omega]; rfl
    · rw [List.getElem?_eq_none (by omega), List.getElem?_eq_none (by rw [List.length_range]; exact hj)]; rfl
  · rw [List.getElem?_eq_none (by rw [h.1]; exact hk), List.getElem?_eq_none (by rw [List.length_range]; exact hk)]; rfl
theorem loadR_good {l : List UInt8} {M : Nat} (h0 : 0 < M) (h1 : M ≤ 8192) : Rgood (loadR l M) := by
  refine ⟨by simpa [loadR] using h0, by simpa [loadR] using h1, Nat.zero_le _, Nat.le_refl _, ⟨by simp [loadR], by simp [loadR]⟩, fun m hm => ?_⟩
  obtain ⟨k, _, rfl⟩ := List.mem_map.1 hm
  exact ⟨by simp [lineR], Nat.le_refl _, Nat.le_refl _, by simp [lineR], by simp [lineR]⟩
theorem wdP_step {l : List UInt8} {k j b : Nat} {c : UInt8} (h : l[8 * (8 * k + j) + b]? = some c) (hb : b < 8) :
    Value.int .u64 (IntKind.u64.wrap (((wdP l (64 * k + 8 * j + b) (8 * k + j)).toNat : Int) + IntKind.u64.wrap ((c.toNat : Int) * 2 ^ min (8 * (b : Int)).toNat IntKind.u64.bits))) = b64 (wdP l (64 * k + 8 * j + b + 1) (8 * k + j)) := by
  have e1 : (wdP l (64 * k + 8 * j + b) (8 * k + j)).toNat = num l (8 * (8 * k + j)) b := by
    unfold wdP; rw [BitVec.toNat_ofNat, show min 8 (64 * k + 8 * j + b - 8 * (8 * k + j)) = b by omega, Nat.mod_eq_of_lt (num_lt8 l _ (by omega))]
  rw [e1, num_shl h hb, ← wdP_val, show min 8 (64 * k + 8 * j + b + 1 - 8 * (8 * k + j)) = b + 1 by omega]
theorem lI_keep {Q : List Lq} {k : Nat} {q : Lq} {f : List (BitVec 64)} (hq : Q[k]? = some q) : lI (Q.set k ({ q.1 with first := f }, q.2.1, q.2.2)) = lI Q := lI_first hq rfl rfl rfl
theorem rload_d (v : Value) (l : List UInt8) (M : Nat) (w : World) (hv : RdB w v l) (hn : isSizeB (l.length : Int) = true) (hM : l.length = 64 * M) :
    NewRDev Tryz.prog 96 [v] (loadR l M) w := by
 refine enter (feet []) [] Tryz.func96 rfl Tryz.ntmps96 rfl ⟨by simp, by simp, by simp, Mod.refl _ _⟩ ?_
 have hnn := hn
 unfold isSizeB at hnn
 rw [decide_eq_true_eq] at hnn
 simp only [envOf]
 refine tR (tA rfl rfl (tA rfl rfl (tE (tR (tM rfl rfl (tV (Val.lenRd hv Tryz.underlying29 rfl) rfl (At.callNRD (fun w hw => rnew_d _ M w hn (by omega)) Tryz.call123 rfl rfl (fun p1 y2 => (tM rfl rfl (tV (Val.extract rfl rfl) rfl (tV (Val.extract rfl rfl) rfl (tA rfl rfl (tA rfl rfl (tE (At.seq (tR (tM rfl rfl (tV (Val.bin rfl rfl rfl) rfl (tE (At.condF rfl (At.skipC (At.thenN (At.seq (At.seq (At.openS 0 rfl ?_)))))))))))))))))))))))))
 simp only [rdevL, List.cons_append, List.nil_append, ec0, ecS]
 refine At.fact 3 rfl (fun hf => ?_)
 obtain ⟨hQ1, hg1⟩ := hf
 refine At.region (tA rfl rfl (tE (At.block ?_)))
 skip
 refine At.loop (σ := Nat × List Lq) (fun s => s.1 ≤ l.length ∧ LnOk l M s.1 s.2) (fun s => [(0, v), (4, .pointer (some ⟨p1, 0, none⟩)), (6, .int .i64 (s.1 : Int))]) (fun s => [blk p1 193 ([y2.vl, .int .i64 ((zeroR M).fenced : Int), .int .i64 ((zeroR M).now : Int), .int .i64 (zeroR M).left]), rowR y2.vl tLn 10 s.2.length (lC s.2), fam (lI s.2), factR (y2.Q.map Prod.fst = (zeroR M).ls ∧ Rgood (zeroR M))]) (fun s => l.length - s.1) (0, y2.Q) ⟨Nat.zero_le _, lnOk_start hQ1⟩ (Sub.cons rfl (Sub.cons rfl (Sub.cons rfl Sub.nil))) (List.Perm.refl _) ?_
 intro s hs
 obtain ⟨i, Q⟩ := s
 dsimp only at hs ⊢
 obtain ⟨hi, hok⟩ := hs
 have hQM := hok.1
 refine At.seq (tR (tM rfl rfl (tM rfl rfl (tV (Val.lenRd hv Tryz.underlying29 rfl) rfl (tV (Val.bin rfl rfl rfl) rfl (tE ?_))))))
 refine At.cond rfl (fun h3 => ?_) (fun h3 => ?_)
 ·try simp only [hasB, isSizeB, sB] at h3
  obtain ⟨k, j, b, hj, hb, rfl⟩ : ∃ k j b, j < 8 ∧ b < 8 ∧ i = 64 * k + 8 * j + b := ⟨i / 64, i / 8 % 8, i % 8, by omega, by omega, by omega⟩
  have hkM : k < M := by omega
  obtain ⟨q, hq⟩ : ∃ q, Q[k]? = some q := ⟨_, List.getElem?_eq_getElem (by omega)⟩
  have h81 := hok.first8
  have hf0 := (hok.2 k q hq).2.2.2 j hj
  have hmin : min 8 (64 * k + 8 * j + b - 8 * (8 * k + j)) = b := by omega
  refine At.skipC (At.thenN (At.seq (At.block (tR (tM rfl rfl (tV (Val.quoI rfl rfl (by omega) (by omega) (by decide)) rfl ?_))))))
  rw [show ((64 * k + 8 * j + b : Nat) : Int) / 8 = ((8 * k + j : Nat) : Int) from by omega]
  refine tV (Val.remI rfl rfl (by omega) (by decide)) rfl ?_
  rw [show ((8 * k + j : Nat) : Int) % 8 = (j : Int) from by omega]
  refine tA rfl rfl (tE (At.tail 25 rfl (by decide +kernel) ?_))
  simp only [List.take_succ_cons, List.take_zero, List.drop_succ_cons, List.drop_zero]
  refine qM rfl rfl (qV (Val.nilCheck rfl) rfl (qV (Val.field 0 rfl fo_193_0 rfl) rfl (qV (Val.load (i := 0) Tryz.isAgg191 rfl rfl rfl) rfl (qM rfl rfl (qV (Val.quoI rfl rfl (by omega) (by omega) (by decide)) rfl ?_)))))
  rw [show ((64 * k + 8 * j + b : Nat) : Int) / 64 = (k : Int) from by omega]
  refine qM rfl rfl (qV (Val.indexRow (i := 1) (k * 10) (by omega) Tryz.underlying191 Tryz.sizeOf190 rfl rfl rfl (by omega) (by omega)) rfl (qV (Val.field ((k * 10 + 0)) rfl fo_190_0 rfl) rfl (qV (Val.indexArr (k * 10 + j) (by omega) Tryz.underlying187 Tryz.sizeOf43 rfl rfl (by omega) (by omega)) rfl (qV (Val.loadRow (i := 1) Tryz.isAgg43 rfl rfl (lC_first h81 hq hf0)) rfl (qM rfl rfl (qM rfl rfl (QAt.idxB hv Tryz.underlying29 Tryz.sizeOf5 rfl rfl (by omega) (by omega) rfl rfl (fun b4 o5 q6 hq7 hl8 hc9 => (qV (Val.loadOld Tryz.isAgg5 rfl hc9 (fun h => by simp [feet] at h)) rfl (qV (Val.toU Tryz.underlying5 Tryz.underlying43 rfl (by omega) (by omega)) rfl (qM rfl rfl (qV (Val.remI rfl rfl (by omega) (by decide)) rfl ?_))))))))))))
  rw [show ((64 * k + 8 * j + b : Nat) : Int) % 8 = (b : Int) from by omega]
  first | refine qV (Val.mulI rfl rfl (by omega) (by omega)) rfl ?_ | refine qV (Val.bin rfl rfl rfl) rfl ?_
  first | refine qV (Val.toU Tryz.underlying3 Tryz.underlying131 rfl (by omega) (by omega)) rfl ?_ | refine qV (Val.conv Tryz.underlying3 Tryz.underlying131 rfl) rfl ?_
  refine qV (Val.shl rfl rfl (by omega)) rfl ?_
  have hby := hq7
  rw [Int.toNat_natCast, show 64 * k + 8 * j + b = 8 * (8 * k + j) + b by omega] at hby
  refine qV (Val.bin rfl rfl (congrArg some (wdP_step hby hb))) rfl (qV (Val.indexRow (i := 1) (k * 10) (by omega) Tryz.underlying191 Tryz.sizeOf190 rfl rfl rfl (by omega) (by omega)) rfl (qV (Val.field ((k * 10 + 0)) rfl fo_190_0 rfl) rfl (qV (Val.indexArr (k * 10 + j) (by omega) Tryz.underlying187 Tryz.sizeOf43 rfl rfl (by omega) (by omega)) rfl (QAt.fin ?_))))
  refine At.storeRow (i := 1) Tryz.sizeOf43 rfl rfl rfl rfl (by rw [lC_length h81]; omega) ?_
  simp only [sc0, scS]
  rw [lC_setFirst h81 hq hj]
  refine At.nil (At.blkN (At.thenN (At.region (tM rfl rfl ?_))))
  first | refine tV (Val.addI rfl rfl (by omega) (by omega)) rfl ?_ | refine tV (Val.bin rfl rfl rfl) rfl ?_
  refine tA rfl rfl (tE ?_)
  exact At.again (64 * k + 8 * j + b + 1, _) ⟨(show 64 * k + 8 * j + b + 1 ≤ _ by omega), lnOk_step hok hj hb hq⟩ (by dsimp only; omega) (Sub.cons rfl (Sub.cons rfl (Sub.cons (congrArg (fun z => some (Value.int IntKind.i64 z)) (by omega)) Sub.nil))) (by dsimp only; rw [lI_keep hq, List.length_set])
 ·try simp only [hasB, isSizeB, sB] at h3
  obtain rfl : i = 64 * M := by omega
  refine At.exitC (At.thenX (At.thenX (At.blkX (At.thenN (tR (tM rfl rfl (tA rfl rfl (tA rfl rfl (tE (At.retC (At.ret2 (.inl rfl) rfl rfl rfl rfl (fun w hw => ?_))))))))))))
  exact ⟨p1, ⟨y2.vl, Q⟩, rfl, toRDev1 (lnOk_end hok) (loadR_good (by omega) (by omega)) hw rfl rfl rfl⟩
end Go.Proofs.YtfchinibjhcejaaGreatDoor
namespace Go.Proofs.YtfchinibjhcejaaGreatDoor
open Go Go.Wk
structure Pq where
  p : Nat
  γ : Gh
  σ : Ds
  q : Nat
  δ : Rg
  ρ : Rs
def jbC (y : Pq) : List Value := [.pointer (some ⟨y.p, 0, none⟩), .pointer (some ⟨y.q, 0, none⟩)]
abbrev jbR (b : Nat) (y : Pq) : Res := star [blk b 124 (jbC y), Dev y.p y.γ y.σ, RDev y.q y.δ y.ρ]
def JOk (k : Nat) (y : Pq) : Prop := Sim y.σ y.ρ ∧ y.σ.steps ≤ k
def JU (P : Program) (f : FuncId) (vs : List Value) (b : Nat) (y : Pq) (k : Nat) (w : World) : Prop := Calls P f vs.toArray w fun e w' => ∃ y' : Pq, e = .returned (.bool true) ∧ JOk k y' ∧ Rep w (feet [jbR b y]) [jbR b y'] w'
theorem Rep.shut3 {w0 w : World} {S : Nat → Prop} {H : List Res} {a b c : Res} (i j k : Nat) (hi : H[i]? = some a) (hj : (H.eraseIdx i)[j]? = some b) (hk : ((H.eraseIdx i).eraseIdx j)[k]? = some c) (h : Rep w0 S H w) : Rep w0 S [star [a, b, c]] w := by
  have h1 : Rep w0 S (a :: H.eraseIdx i) w := h.perm (erase_perm H i a hi)
  have h2 : Rep w0 S (a :: b :: (H.eraseIdx i).eraseIdx j) w := h1.perm ((erase_perm _ j b hj).cons a)
  have h3 : Rep w0 S (a :: b :: c :: ((H.eraseIdx i).eraseIdx j).eraseIdx k) w := h2.perm (((erase_perm _ k c hk).cons b).cons a)
  exact Rep.shutS (L := [a, b, c]) (F := []) (h3.drop (((List.nil_sublist _).cons_cons _).cons_cons _ |>.cons_cons _))
theorem Rep.shut3r {w0 w : World} {S : Nat → Prop} {H : List Res} {a b c r : Res} (i j k m : Nat) (hi : H[i]? = some a) (hj : (H.eraseIdx i)[j]? = some b) (hk : ((H.eraseIdx i).eraseIdx j)[k]? = some c) (hm : (((H.eraseIdx i).eraseIdx j).eraseIdx k)[m]? = some r) (h : Rep w0 S H w) : Rep w0 S [r, star [a, b, c]] w := by
  have h1 : Rep w0 S (a :: H.eraseIdx i) w := h.perm (erase_perm H i a hi)
  have h2 : Rep w0 S (a :: b :: (H.eraseIdx i).eraseIdx j) w := h1.perm ((erase_perm _ j b hj).cons a)
  have h3 : Rep w0 S (a :: b :: c :: ((H.eraseIdx i).eraseIdx j).eraseIdx k) w := h2.perm (((erase_perm _ k c hk).cons b).cons a)
  have h4 : Rep w0 S (a :: b :: c :: r :: (((H.eraseIdx i).eraseIdx j).eraseIdx k).eraseIdx m) w := h3.perm ((((erase_perm _ m r hm).cons c).cons b).cons a)
  have h5 : Rep w0 S (star [a, b, c] :: r :: []) w := Rep.shutS (L := [a, b, c]) (F := [r]) (h4.drop ((((List.nil_sublist _).cons_cons _).cons_cons _ |>.cons_cons _).cons_cons _))
  exact h5.perm (List.Perm.swap ..)
def NewPq (P : Program) (f : FuncId) (vs : List Value) (v : Pq → Value) (I : Pq → Prop) (w : World) : Prop := Calls P f vs.toArray w fun e w' => ∃ y : Pq, e = .returned (v y) ∧ I y ∧ Rep w (feet []) [Dev y.p y.γ y.σ, RDev y.q y.δ y.ρ] w'
theorem At.callNP {P : Program} {Γ : Ctx} {E : Env} {H : List Res} {ops : Array Oper} {Q : Exit → Act → World → Prop} {rest : List Oper} {d : Nat} {ty : TypeId} {pos : String} {after : Array Edge} {v : Pq → Value} {I : Pq → Prop} {f : FuncId} {l : List Operand} {vs : List Value} {at_ : Array TypeId} (h : ∀ w, Rep Γ.w0 Γ.S H w → NewPq P f vs v I w) (hc : ∀ args w, (callFunc f args).run P w = .ok (.enter f args) w) (hv : evs E l = some vs) (hn : Nat.blt d Γ.n = true)
    (c : ∀ y, I y → At Γ ((d, v y) :: E) (Dev y.p y.γ y.σ :: RDev y.q y.δ y.ρ :: H) (wpList P ops Q rest)) :
    At Γ E H (wpList P ops Q ({ dst := some d, op := .call { callee := .value (.func f), args := l.toArray, argTypes := at_ }, type := ty, pos, after, guard := none } :: rest)) :=
  At.call hc hv hn fun w hw => (h w hw).mono fun e w' ⟨y, he, hI, hr⟩ => ⟨v y, _, he, by
    have := Rep.frame (H0 := []) (F := H) (by simpa using hw) hr
    simpa using this, c y hI⟩
theorem comE_rest {σ : Ds} {sp si sc sd : Int} {cs : List (Int × BitVec 64)} : (comE σ sp si sc sd cs).2.ws.length = σ.ws.length ∧ (comE σ sp si sc sd cs).2.steps ≤ σ.steps + 60 := by
  by_cases h0 : GoodSup sp si sc ∧ sd = 4 + si / 8 ∧ 8 * (σ.ws.length : Int) = 512 * sp
  · by_cases h1 : cs.length = 0 ∨ 8 < cs.length
    · rw [com_41 h0 h1]; exact ⟨rfl, Nat.le_add_right _ _⟩
    · by_cases h2 : PlK si cs cs.length
      · by_cases h3 : openUnE (page (wbytes (viewWs σ.ws))) = 0 ∧ openUnL (page (wbytes (viewWs σ.ws))) = []
        · rw [com_go h0 h1 h2 h3]
          obtain ⟨hg, hsd, hN⟩ := h0
          have hg2 := hg
          unfold GoodSup at hg2
          have hks := ks_lt (n := σ.ws.length) (pl_all h2) (by omega)
          obtain ⟨hok, _⟩ := acs_ok (σ := σ) (xs := cs.map Prod.snd) hks (by rw [ksOf_len]; omega) (by omega)
          have hle := comL_le (σ := σ) (xs := cs.map Prod.snd) (ks := ksOf cs) (by rw [ksOf_len]; omega)
          obtain ⟨g1, g2, _⟩ := actsE_rest _ σ hok
          exact ⟨g1, by omega⟩
        · rw [com_35 h0 h1 h2 h3]; exact ⟨rfl, Nat.le_add_right _ _⟩
      · rw [com_40 h0 h1 h2]; exact ⟨rfl, Nat.le_add_right _ _⟩
  · rw [com_30 h0]; exact ⟨rfl, Nat.le_add_right _ _⟩
theorem rcvE_rest {σ : Ds} : (rcvE σ).2.2.ws.length = σ.ws.length ∧ (rcvE σ).2.2.steps ≤ σ.steps + 60 := by
  unfold rcvE
  split
  · exact ⟨rfl, Nat.le_add_right _ _⟩
  · rename_i h
    have h0 : pndE (wbytes (viewWs σ.ws)) = 0 := Classical.byContradiction fun g => h (.inl g)
    obtain ⟨k, _, hg, hp, hall⟩ := pnd_good h0
    have hg2 := hg
    unfold GoodSup at hg2
    have hXl : (wbytes (viewWs σ.ws)).length = 8 * σ.ws.length := by rw [wbytes_length, viewWs, List.length_map]
    have hl8 := pndL_le (wbytes (viewWs σ.ws))
    have hks := ks_lt (n := σ.ws.length) hall (by omega)
    obtain ⟨_, hok⟩ := acs_ok (σ := σ) (xs := (pndL (wbytes (viewWs σ.ws))).map Prod.snd) hks (by rw [ksOf_len]; omega) (by omega)
    have hle := recL_le (xs := (pndL (wbytes (viewWs σ.ws))).map Prod.snd) (ks := ksOf (pndL (wbytes (viewWs σ.ws)))) (by rw [ksOf_len]; omega)
    obtain ⟨g1, g2, _⟩ := actsE_rest _ σ hok
    split
    · exact ⟨g1, by show (actsE σ _).2.steps ≤ _; omega⟩
    · exact ⟨g1, by show (actsE σ _).2.steps ≤ _; omega⟩
def bytesE (σ : Ds) (n ad : Int) (cs : List Int) (lB : List UInt8) : List UInt8 :=
  if n.tmod 4 = 1 ∨ n.tmod 4 = -3 then wbytes (picked σ.ws (pkC σ.ws cs)) else if n.tmod 4 = 2 ∨ n.tmod 4 = -2 then lB
  else if n.tmod 4 = 3 ∨ n.tmod 4 = -1 then (wbytes (viewWs σ.ws)).take (ad.tmod ((8 * σ.ws.length : Nat) + 1 : Int)).natAbs ++ lB else wbytes (viewWs σ.ws)
theorem bytesE_le {σ : Ds} {n ad : Int} {cs : List Int} {lB : List UInt8} (hw : σ.ws.length ≤ 65536) (hb : lB.length ≤ 140737488355328) : (bytesE σ n ad cs lB).length ≤ 140737489000000 := by
  unfold bytesE
  split
  · rw [wbytes_length, picked_length]; omega
  · split
    · omega
    · split
      · rw [List.length_append, List.length_take, wbytes_length, viewWs, List.length_map]; omega
      · rw [wbytes_length, viewWs, List.length_map]; omega
section
variable {σ : Ds} {n ad z : Int} {cs : List Int} {lB : List UInt8}
theorem bytesE_1 (hz : n.tmod 4 = z) (h : z = 1 ∨ z = -3) : bytesE σ n ad cs lB = wbytes (picked σ.ws (pkC σ.ws cs)) := by subst hz; exact if_pos h
theorem bytesE_2 (hz : n.tmod 4 = z) (h : z = 2 ∨ z = -2) : bytesE σ n ad cs lB = lB := by subst hz; unfold bytesE; rw [if_neg (by omega), if_pos h]
theorem bytesE_3 (hz : n.tmod 4 = z) (h : z = 3 ∨ z = -1) {t : Int} (ht : ad.tmod ((8 * σ.ws.length : Nat) + 1 : Int) = t) : bytesE σ n ad cs lB = (wbytes (viewWs σ.ws)).take t.natAbs ++ lB := by subst hz ht; unfold bytesE; rw [if_neg (by omega), if_neg (by omega), if_pos h]
theorem bytesE_0 (hz : n.tmod 4 = z) (h : ¬ (z = 1 ∨ z = -3) ∧ ¬ (z = 2 ∨ z = -2) ∧ ¬ (z = 3 ∨ z = -1)) : bytesE σ n ad cs lB = wbytes (viewWs σ.ws) := by subst hz; unfold bytesE; rw [if_neg h.1, if_neg h.2.1, if_neg h.2.2]
end
theorem Rep.pick2 {w0 w : World} {S : Nat → Prop} {H : List Res} {a b : Res} (i j : Nat) (hi : H[i]? = some a) (hj : (H.eraseIdx i)[j]? = some b) (h : Rep w0 S H w) : Rep w0 S [a, b] w := by
  have h1 : Rep w0 S (a :: H.eraseIdx i) w := h.perm (erase_perm H i a hi)
  have h2 : Rep w0 S (a :: b :: (H.eraseIdx i).eraseIdx j) w := h1.perm ((erase_perm _ j b hj).cons a)
  exact h2.drop ((List.nil_sublist _).cons_cons _ |>.cons_cons _)
section
variable {P : Program} {Γ : Ctx} {E : Env} {H : List Res} {ops : Array Oper} {Q : Exit → Act → World → Prop} {rest : List Oper}
  {d : Nat} {ty : TypeId} {pos : String} {after : Array Edge} {x y z : Operand} {v u vy : Value} {g : Option (Nat × Bool)}
theorem run_append_row_big {w : World} {t ty e : TypeId} {i : TypeInfo} {z : Value} {size bytes : Nat} (ht : P.underlying t = some (.slice e)) (hi : P.info? e = some i) (hz : i.zero = some z)
    (hsize : i.size = size) (hby : i.bytes = bytes) (hzs : z.cells.size = size) (hsz : 0 < size)
    {v : Value} {n : Nat} {xs : List Value} (hown : w.ownsRow 0 e size v n xs)
    {a : Addr} {m c : Nat} {news : List Value} (hl : news.length = m * size) (hnews : ∀ j u, news[j]? = some u → w.cell? (a.add j) = some u) (h1 : ∀ u ∈ news, u.oneCell' = true)
    (h63 : n + m ≤ maxLen) (hbytes : ((n + m) + (n + m) / 4 + 192) * bytes ≤ 281474976710656) :
    ∃ v' w', (Builtin.append_ #[t, t] ty #[v, .slice (some a) m c]).run P w = .ok v' w' ∧ w'.ownsRow 0 e size v' (n + m) (xs ++ news) ∧ w.grownBy w' v.ownBlock ∧ (∀ b, v'.ownBlock = some b → v.ownBlock = some b ∨ w.heap.size ≤ b) := by
  obtain ⟨v', w', hr, ho, hg, _⟩ := run_append_own_wide (P := P) w 0 t ty e i z size bytes ht hi hz hsize hby hzs hsz v n xs hown a m c news hl hnews h1 h63 hbytes (Nat.zero_le _)
  refine ⟨v', w', hr, ho, hg, fun b hb => ?_⟩
  -- in place, or new
  rcases hown.2 with ⟨rfl, rfl⟩ | ⟨g, cap, cur, rfl, hbg, hgg, hnc, hcm, hcs, htake⟩
  · obtain ⟨v2, w2, hr2, ho2, _, _⟩ := run_append_own_wide (P := P) w w.heap.size t ty e i z size bytes ht hi hz hsize hby hzs hsz (.slice none 0 0) 0 xs ⟨hown.1, .inl ⟨rfl, rfl⟩⟩ a m c news hl hnews h1 h63 hbytes (Nat.le_refl _)
    rw [hr] at hr2
    injection hr2 with e1 e2
    subst e1 e2
    exact .inr (ho2.lt b hb).1
  · by_cases hroom : n + m ≤ cap
    · have hfit : n * i.size + news.length ≤ cur.size := by rw [hl, hcs, hsize, ← Nat.add_mul]; exact Nat.mul_le_mul_right _ hroom
      have hr3 := run_append_room (P := P) w t ty e i ht hi g n cap cur hgg a m c news (by rw [hsize]; exact hl) hnews h1 hroom hfit
      rw [hr] at hr3
      injection hr3 with e1 e2
      subst e1
      exact .inl (by simpa [Value.ownBlock] using hb)
    · have holds : ∀ j u, xs[j]? = some u → w.cell? ((⟨g, 0, none⟩ : Addr).add j) = some u := hown.cells (g := g) rfl
      have hr3 := run_append_grow (P := P) w t ty e i z ht hi hz ⟨g, 0, none⟩ n cap xs (by rw [hsize]; exact hown.1) holds a m c news (by rw [hsize]; exact hl) hnews (by omega) (by have := h63; simp only [maxLen] at this; omega) (growslice_fits_wide (by omega) (by rw [hby]; exact hbytes))
      rw [hr] at hr3
      injection hr3 with e1 e2
      subst e1
      simp only [Value.ownBlock, Option.some.injEq] at hb
      exact .inr (by omega)
theorem At.appendBig {i t e sz by_ n m c o b : Nat} {ti : TypeInfo} {z : Value} {xs ys : List Value} (ht : P.underlying t = some (.slice e)) (hti : P.info? e = some ti) (hz : ti.zero = some z) (hsize : ti.size = sz) (hby : ti.bytes = by_) (hzs : z.cells.size = sz) (hsz : Nat.blt 0 sz = true)
    (hx : ev E x = some v) (hy : ev E y = some (.slice (some ⟨b, o, none⟩) m c)) (hi : H[i]? = some (rowR v e sz n xs)) (hl : ys.length = m * sz)
    (hsrc : ∀ w, Rep Γ.w0 Γ.S H w → ∀ j u, ys[j]? = some u → w.cell? ⟨b, o + j, none⟩ = some u) (h1 : ∀ u ∈ ys, u.oneCell' = true) (h63 : ((n + m) + (n + m) / 4 + 192) * by_ ≤ 281474976710656) (h64 : n + m ≤ 281474976710656) (hn : Nat.blt d Γ.n = true)
    (k : ∀ v', At Γ ((d, v') :: E) (H.set i (rowR v' e sz (n + m) (xs ++ ys))) (wpList P ops Q rest)) :
    At Γ E H (wpList P ops Q ({ dst := some d, op := .call { callee := .builtin .append, args := #[x, y], argTypes := #[t, t] }, type := ty, pos, after, guard := none } :: rest)) :=
  At.run rfl rfl hn fun a w ha hw => by
    have h : w.ownsRow 0 e sz v n xs := hw.row hi
    obtain ⟨v', w', hr, ho, hg, hf⟩ := run_append_row_big (P := P) (ty := ty) ht hti hz hsize hby hzs (by simpa [Nat.blt_eq] using hsz) h (a := ⟨b, o, none⟩) (m := m) (c := c) hl
      (fun j u hj => by rw [Addr.add_off]; exact hsrc w hw j u hj) h1 (by simp only [maxLen]; omega) h63
    exact ⟨v', w', _, by simp [execOp, resolve, invoke, builtin, ha.eval hx, ha.eval hy, Sem.run_bind, hr], hw.change hi (grown_mod hg) ho hf, k v'⟩
theorem At.appendSlBig {i t e sz by_ n m c : Nat} {A : Option Addr} {ti : TypeInfo} {z : Value} {xs ys : List Value} (ht : P.underlying t = some (.slice e)) (hti : P.info? e = some ti) (hz : ti.zero = some z) (hsize : ti.size = sz) (hby : ti.bytes = by_) (hzs : z.cells.size = sz) (hsz : Nat.blt 0 sz = true)
    (hx : ev E x = some v) (hy : ev E y = some (.slice A m c)) (hi : H[i]? = some (rowR v e sz n xs)) (hl : ys.length = m * sz) (hmc : m ≤ c) (hA : A = none → m = 0 ∧ c = 0) (hsp : 0 < c → ∀ a, A = some a → a.spot = none)
    (hsrc : ∀ w, Rep Γ.w0 Γ.S H w → Cells w A ys) (h1 : ∀ u ∈ ys, u.oneCell' = true) (h63 : ((n + m) + (n + m) / 4 + 192) * by_ ≤ 281474976710656) (h64 : n + m ≤ 281474976710656) (hn : Nat.blt d Γ.n = true)
    (k : ∀ v', At Γ ((d, v') :: E) (H.set i (rowR v' e sz (n + m) (xs ++ ys))) (wpList P ops Q rest)) :
    At Γ E H (wpList P ops Q ({ dst := some d, op := .call { callee := .builtin .append, args := #[x, y], argTypes := #[t, t] }, type := ty, pos, after, guard := none } :: rest)) := by
  cases A with
  | none =>
    obtain ⟨rfl, rfl⟩ := hA rfl
    have hys : ys = [] := List.eq_nil_of_length_eq_zero (by omega)
    subst hys
    refine At.run rfl rfl hn fun a w ha hw => ?_
    have h : w.ownsRow 0 e sz v n xs := hw.row hi
    have hr := run_append_owned_none (P := P) (w := w) 0 t ty e ti sz ht hti v n xs h
    refine ⟨v, w, _, by simp [execOp, resolve, invoke, builtin, ha.eval hx, ha.eval hy, Sem.run_bind, hr], ?_, k v⟩
    exact Rep.change hi hw (Mod.refl _ _) (by simpa [rowR] using h) (fun b hb => .inl hb)
  | some a =>
    rcases Nat.eq_zero_or_pos c with hc0 | hc0
    · subst hc0
      obtain rfl : m = 0 := by omega
      have hys : ys = [] := List.eq_nil_of_length_eq_zero (by omega)
      subst hys
      refine At.run rfl rfl hn fun a' w ha hw => ?_
      have h : w.ownsRow 0 e sz v n xs := hw.row hi
      obtain ⟨v', w', hr, ho, hg, hf⟩ := run_append_row_big (P := P) (ty := ty) ht hti hz hsize hby hzs (by simpa [Nat.blt_eq] using hsz) h (a := a) (m := 0) (c := 0) hl (fun j u hj => by cases hj) h1 (by simp only [maxLen]; omega) h63
      exact ⟨v', w', _, by simp [execOp, resolve, invoke, builtin, ha.eval hx, ha.eval hy, Sem.run_bind, hr], hw.change hi (grown_mod hg) ho hf, k v'⟩
    obtain ⟨b, o, s⟩ := a
    have : s = none := hsp hc0 _ rfl
    subst this
    exact At.appendBig ht hti hz hsize hby hzs hsz hx hy hi hl (fun w hw j u hj => by
      obtain ⟨b', o', e', hc⟩ := hsrc w hw j u hj
      simp only [Option.some.injEq, Addr.mk.injEq] at e'
      obtain ⟨rfl, rfl, _⟩ := e'
      exact hc) h1 h63 h64 hn k
theorem At.appendRdBig {i t e sz by_ n m : Nat} {ti : TypeInfo} {z : Value} {xs ys : List Value} (ht : P.underlying t = some (.slice e)) (hti : P.info? e = some ti) (hz : ti.zero = some z) (hsize : ti.size = sz) (hby : ti.bytes = by_) (hzs : z.cells.size = sz) (hsz : Nat.blt 0 sz = true)
    (hx : ev E x = some v) (hy : ev E y = some vy) (hi : H[i]? = some (rowR v e sz n xs)) (hr : Rd Γ.w0 vy sz m ys) (ho : Off vy ys Γ.S) (h1 : ∀ u ∈ ys, u.oneCell' = true) (h63 : ((n + m) + (n + m) / 4 + 192) * by_ ≤ 281474976710656) (h64 : n + m ≤ 281474976710656) (hn : Nat.blt d Γ.n = true)
    (k : ∀ v', At Γ ((d, v') :: E) (H.set i (rowR v' e sz (n + m) (xs ++ ys))) (wpList P ops Q rest)) :
    At Γ E H (wpList P ops Q ({ dst := some d, op := .call { callee := .builtin .append, args := #[x, y], argTypes := #[t, t] }, type := ty, pos, after, guard := none } :: rest)) := by
  have hr0 := hr
  obtain ⟨A, c, rfl, g2, g3, g4, g5, g6⟩ := hr
  refine At.appendSlBig ht hti hz hsize hby hzs hsz hx hy hi g3 g4 g5 g6 (fun w hw => ?_) h1 h63 h64 hn k
  obtain ⟨A', c', e, q2, _⟩ := hr0.keep hw ho
  simp only [Value.slice.injEq, true_and] at e
  obtain ⟨rfl, rfl⟩ := e
  exact q2
theorem At.appendRdBBig {i t e by_ : Nat} {ti : TypeInfo} {z : Value} {l m : List UInt8} (ht : P.underlying t = some (.slice e)) (hti : P.info? e = some ti) (hz : ti.zero = some z) (hsize : ti.size = 1) (hby : ti.bytes = by_) (hzs : z.cells.size = 1)
    (hx : ev E x = some v) (hy : ev E y = some vy) (hi : H[i]? = some (rowR v e 1 l.length (l.map bv))) (hr : RdB Γ.w0 vy m) (ho : Off vy (m.map bv) Γ.S) (h63 : ((l.length + m.length) + (l.length + m.length) / 4 + 192) * by_ ≤ 281474976710656) (h64 : l.length + m.length ≤ 281474976710656) (hn : Nat.blt d Γ.n = true)
    (k : ∀ v', At Γ ((d, v') :: E) (H.set i (brow e v' (l ++ m))) (wpList P ops Q rest)) :
    At Γ E H (wpList P ops Q ({ dst := some d, op := .call { callee := .builtin .append, args := #[x, y], argTypes := #[t, t] }, type := ty, pos, after, guard := none } :: rest)) :=
  At.appendRdBig ht hti hz hsize hby hzs rfl hx hy hi hr ho (bv_one m) h63 h64 hn fun v' => by
    have := k v'
    simpa only [brow, List.map_append, List.length_append] using this
end
theorem At.appendNowB {P : Program} {Γ : Ctx} {E : Env} {H : List Res} {ops : Array Oper} {Q : Exit → Act → World → Prop} {rest : List Oper} {d : Nat} {ty : TypeId} {pos : String} {after : Array Edge} {x y : Operand} {v vy : Value} {i t e by_ : Nat} {ti : TypeInfo} {z : Value} {l m : List UInt8} (ht : P.underlying t = some (.slice e)) (hti : P.info? e = some ti) (hz : ti.zero = some z) (hsize : ti.size = 1) (hby : ti.bytes = by_) (hzs : z.cells.size = 1)
    (hx : ev E x = some v) (hy : ev E y = some vy) (hi : H[i]? = some (rowR v e 1 l.length (l.map bv))) (hr : ∀ w, Rep Γ.w0 Γ.S H w → RdB w vy m) (h63 : (l.length + m.length) * by_ ≤ 140737488355328) (h64 : l.length + m.length ≤ 140737488355328) (hn : Nat.blt d Γ.n = true)
    (k : ∀ v', At Γ ((d, v') :: E) (H.set i (brow e v' (l ++ m))) (wpList P ops Q rest)) :
    At Γ E H (wpList P ops Q ({ dst := some d, op := .call { callee := .builtin .append, args := #[x, y], argTypes := #[t, t] }, type := ty, pos, after, guard := none } :: rest)) := fun a w ha hw => by
  obtain ⟨A, c, rfl, g2, g3, g4, g5, g6⟩ := hr w hw
  refine At.appendSl ht hti hz hsize hby hzs rfl hx hy hi g3 g4 g5 g6 (fun w hw => ?_) (bv_one m) h63 h64 hn (fun v' => ?_) a w ha hw
  · obtain ⟨A', c', e, q2, _⟩ := hr w hw
    simp only [Value.slice.injEq, true_and] at e
    obtain ⟨rfl, rfl⟩ := e
    exact q2
  · have := k v'
    simpa only [brow, List.map_append, List.length_append] using this
theorem loadJ_n (v : Value) (l : List UInt8) (M : Nat) (w : World) (hv : RdB w v l) (hsz : isSizeB (l.length : Int) = true) (hM : l.length = 64 * M) :
    NewPq Tryz.prog 59 [v] (fun y => .tuple #[.agg (jbC y).toArray, .bool true]) (fun y => y.σ = loadD l ∧ y.ρ = loadR l M ∧ Sim y.σ y.ρ) w := by
 refine enter0 Tryz.func59 rfl Tryz.ntmps59 rfl ?_
 simp only [envOf]
 refine tR (At.alloc Tryz.zeroValue124 rfl rfl (fun b1 => (tA rfl rfl (tE (tR (tM rfl rfl (At.callND (fun w hw => load_d _ l w (hv.mod hw.mod) hsz) Tryz.call43 rfl rfl (fun p2 y3 => (tM rfl rfl (tV (Val.extract rfl rfl) rfl (tV (Val.extract rfl rfl) rfl (tA rfl rfl (tA rfl rfl (tE (tR (tM rfl rfl (At.callNRD (fun w hw => rload_d _ l M w (hv.mod hw.mod) hsz hM) Tryz.call96 rfl rfl (fun p4 y5 => (tM rfl rfl (tV (Val.extract rfl rfl) rfl (tV (Val.extract rfl rfl) rfl (tA rfl rfl (tA rfl rfl (tE (tR (tM rfl rfl (tM rfl rfl ?_)))))))))))))))))))))))))))
 refine tV (Val.build (fun a ha => by simp only [List.map_toArray, List.map_cons, List.map_nil, ha.eval (x := (.tmp 18)) rfl, ha.eval (x := (.tmp 19)) rfl] <;> rfl) (bld_124_0_1 _ _ )) rfl (tM rfl rfl (tV (Val.neNil (t := 51) (by kernel_rfl) rfl) rfl (tM rfl rfl (At.yes rfl rfl (tM rfl rfl (At.yes rfl rfl (tV (Val.neNil (t := 122) (by kernel_rfl) rfl) rfl (tV (Val.pickT rfl rfl) rfl (tM rfl rfl (At.yes rfl rfl (tM rfl rfl (At.yes rfl rfl (tV (Val.bin rfl rfl rfl) rfl (tV (Val.pickT rfl rfl) rfl (At.storeAll (i := 2) Tryz.sizeOf124 rfl rfl rfl (by simp [Value.oneCell']) rfl rfl ?_)))))))))))))))
 simp only [sc0, scS]
 refine tA rfl rfl (tE (At.retC (At.ret2 (.inl rfl) rfl rfl (ResOf.all (i := 2) Tryz.isAgg124 Tryz.sizeOf124 rfl rfl rfl) rfl (fun w hw => ?_))))
 exact ⟨⟨p2, y3, loadD l, p4, y5, loadR l M⟩, rfl, ⟨rfl, rfl, sim_load hM⟩, (Rep.pick2 1 0 rfl rfl hw).f0⟩
theorem bytesJ_k (b p q : Nat) (γ : Gh) (δ : Rg) (σ : Ds) (ρ : Rs) (kd ad n sp si sc sd : Int) (x : BitVec 64) (vC vL vB : Value) (C : List (Int × BitVec 64)) (cs : List Int) (lB : List UInt8) (w : World) (hsim : Sim σ ρ) (hvL : RdI w vL cs) (hoL : Off vL (cs.map (Value.int .i64)) (feet [jbR b ⟨p, γ, σ, q, δ, ρ⟩])) (hvB : RdB w vB lB) (hoB : Off vB (lB.map bv) (feet [jbR b ⟨p, γ, σ, q, δ, ρ⟩])) (hbl : lB.length ≤ 140737488355328) (hst : σ.steps ≤ 1099511627775) (hd : (jbR b ⟨p, γ, σ, q, δ, ρ⟩).holds w) :
    RowK Tryz.prog 126 [.pointer (some ⟨b, 0, none⟩), .agg #[.int .i64 kd, .int .i64 ad, .int .i64 n, b64 x, .int .i64 sp, .int .i64 si, .int .i64 sc, .int .i64 sd, vC, vL, vB]] (jbR b ⟨p, γ, σ, q, δ, ρ⟩) 5 1 (bytesE σ n ad cs lB).length ((bytesE σ n ad cs lB).map bv) w := by
 refine enter (feet [jbR b ⟨p, γ, σ, q, δ, ρ⟩]) [blk b 124 [.pointer (some ⟨p, 0, none⟩), .pointer (some ⟨q, 0, none⟩)], Dev p γ σ, RDev q δ ρ] Tryz.func126 rfl Tryz.ntmps126 rfl (Rep.of_star (r := jbR b ⟨p, γ, σ, q, δ, ρ⟩) hd) ?_
 have hgd := Dev.good (hd.2 (Dev p γ σ) (by simp))
 have hwl := hgd.len
 have hsl := hsim.len
 have hnw : ∀ u ∈ σ.ws, u.news.length ≤ 1099511627775 := fun u hu => by have := (hgd.word u hu).2; omega
 have hvl : (wbytes (viewWs σ.ws)).length = 8 * σ.ws.length := by rw [wbytes_length, viewWs, List.length_map]
 simp only [envOf]
 refine tR (At.box rfl rfl rfl (fun b1 => (tA rfl rfl (tE (tR (tA rfl rfl (At.nil (At.rowNilB 5 (At.thenN (At.seq (tR (tV (Val.field 2 rfl fo_128_2 rfl) rfl (tV (Val.load (i := 1) Tryz.isAgg3 rfl rfl rfl) rfl (tV (Val.rem rfl rfl (by decide)) rfl ?_))))))))))))))
 obtain ⟨z, hz⟩ : ∃ z, n.tmod 4 = z := ⟨_, rfl⟩
 rw [hz]
 refine tE (At.block ?_)
 refine At.join (σ := Unit) (fun _u => True) (fun _u => [(0, .pointer (some ⟨b, 0, none⟩)), (3, .pointer (some ⟨b1, 0, none⟩)), (5, (.slice none 0 0)), (10, .int .i64 z), (11, .bool (decide (z = 1 ∨ z = -3)))]) (fun _u => [rowR (.slice none 0 0) 5 1 ((([] : List UInt8)).length) ((([] : List UInt8)).map bv), blk b1 128 ([.int .i64 kd, .int .i64 ad, .int .i64 n, b64 x, .int .i64 sp, .int .i64 si, .int .i64 sc, .int .i64 sd, vC, vL, vB]), blk b 124 ([.pointer (some ⟨p, 0, none⟩), .pointer (some ⟨q, 0, none⟩)]), Dev p γ (σ), RDev q δ (ρ)]) ?_ ?_
 ·refine tR (tV (Val.bin rfl rfl rfl) rfl (tA rfl rfl (tE ?_)))
  refine At.cond rfl (fun h2 => ?_) (fun h2 => ?_)
  ·try simp only [hasB, isSizeB, sB] at h2
   refine At.skipC (At.thenN ?_)
   exact At.meets () trivial (Sub.cons rfl (Sub.cons rfl (Sub.cons rfl (Sub.cons rfl (Sub.cons (congrArg (fun t => some (Value.bool t)) (by apply Bool.eq_iff_iff.2; simp only [beq_iff_eq, decide_eq_true_eq]; omega)) Sub.nil))))) (List.Perm.refl _)
  ·try simp only [hasB, isSizeB, sB] at h2
   refine At.region (tV (Val.bin rfl rfl rfl) rfl (tA rfl rfl (tE ?_)))
   exact At.meets () trivial (Sub.cons rfl (Sub.cons rfl (Sub.cons rfl (Sub.cons rfl (Sub.cons (congrArg (fun t => some (Value.bool t)) (by apply Bool.eq_iff_iff.2; simp only [beq_iff_eq, decide_eq_true_eq]; omega)) Sub.nil))))) (List.Perm.refl _)
 ·intro _u hs
  clear hs
  refine At.cond rfl (fun h3 => ?_) (fun h3 => ?_)
  ·try simp only [hasB, isSizeB, sB] at h3
   refine At.seq (At.tail 6 rfl (by decide +kernel) ?_)
   simp only [List.take_succ_cons, List.take_zero, List.drop_succ_cons, List.drop_zero]
   refine qM rfl rfl (qV (Val.nilCheck rfl) rfl (qV (Val.field 1 rfl fo_124_1 rfl) rfl (qV (Val.load (i := 2) Tryz.isAgg122 rfl rfl rfl) rfl (qV (Val.field 9 rfl fo_128_6 rfl) rfl (qV (Val.load (i := 1) Tryz.isAgg63 rfl rfl rfl) rfl (QAt.fin (At.callRK 4 rfl (fun w hw hr => rcrash_s _ _ _ σ vL cs w hsim hwl hnw (hvL.keep hw hoL) (Rep.offOld hw hvL hoL (List.mem_of_getElem? (i := 4) rfl)) hr) Tryz.call135 rfl rfl (fun v4 => (tA rfl rfl (tE (At.retC (At.blkR (At.thenR (At.ret1 (.inl rfl) rfl rfl rfl (fun w hw => ?_)))))))))))))))
   rw [bytesE_1 hz (by omega)]
   exact ⟨_, rfl, Rep.shut3r 3 3 3 0 rfl rfl rfl rfl hw⟩
  ·try simp only [hasB, isSizeB, sB] at h3
   refine At.join (σ := Unit) (fun _u => True) (fun _u => [(0, .pointer (some ⟨b, 0, none⟩)), (3, .pointer (some ⟨b1, 0, none⟩)), (5, (.slice none 0 0)), (10, .int .i64 z), (21, .bool (decide (z = 2 ∨ z = -2)))]) (fun _u => [rowR (.slice none 0 0) 5 1 ((([] : List UInt8)).length) ((([] : List UInt8)).map bv), blk b1 128 ([.int .i64 kd, .int .i64 ad, .int .i64 n, b64 x, .int .i64 sp, .int .i64 si, .int .i64 sc, .int .i64 sd, vC, vL, vB]), blk b 124 ([.pointer (some ⟨p, 0, none⟩), .pointer (some ⟨q, 0, none⟩)]), Dev p γ (σ), RDev q δ (ρ)]) ?_ ?_
   ·refine tR (tV (Val.bin rfl rfl rfl) rfl (tA rfl rfl (tE ?_)))
    refine At.cond rfl (fun h5 => ?_) (fun h5 => ?_)
    ·try simp only [hasB, isSizeB, sB] at h5
     refine At.skipC (At.thenN ?_)
     exact At.meets () trivial (Sub.cons rfl (Sub.cons rfl (Sub.cons rfl (Sub.cons rfl (Sub.cons (congrArg (fun t => some (Value.bool t)) (by apply Bool.eq_iff_iff.2; simp only [beq_iff_eq, decide_eq_true_eq]; omega)) Sub.nil))))) (List.Perm.refl _)
    ·try simp only [hasB, isSizeB, sB] at h5
     refine At.region (tV (Val.bin rfl rfl rfl) rfl (tA rfl rfl (tE ?_)))
     exact At.meets () trivial (Sub.cons rfl (Sub.cons rfl (Sub.cons rfl (Sub.cons rfl (Sub.cons (congrArg (fun t => some (Value.bool t)) (by apply Bool.eq_iff_iff.2; simp only [beq_iff_eq, decide_eq_true_eq]; omega)) Sub.nil))))) (List.Perm.refl _)
   ·intro _u hs
    clear hs
    refine At.cond rfl (fun h6 => ?_) (fun h6 => ?_)
    ·try simp only [hasB, isSizeB, sB] at h6
     refine tR (tM rfl rfl (tV (Val.field 10 rfl fo_128_7 rfl) rfl (tV (Val.load (i := 1) Tryz.isAgg29 rfl rfl rfl) rfl ?_)))
     refine At.appendRdB (i := 0) (by_ := 1) Tryz.underlying29 info_5 rfl rfl rfl rfl rfl rfl rfl hvB hoB (by simp only [List.length_nil]; omega) (by simp only [List.length_nil]; omega) rfl (fun v7 => ?_)
     simp only [List.set_cons_zero, List.set_cons_succ, List.nil_append]
     refine tA rfl rfl (tE (At.retC (At.blkR (At.thenR (At.ret1 (.inl rfl) rfl rfl rfl (fun w hw => ?_))))))
     rw [bytesE_2 hz (by omega)]
     exact ⟨_, rfl, Rep.shut3r 2 2 2 0 rfl rfl rfl rfl hw⟩
    ·try simp only [hasB, isSizeB, sB] at h6
     refine At.join (σ := Unit) (fun _u => True) (fun _u => [(0, .pointer (some ⟨b, 0, none⟩)), (3, .pointer (some ⟨b1, 0, none⟩)), (5, (.slice none 0 0)), (10, .int .i64 z), (28, .bool (decide (z = 3 ∨ z = -1)))]) (fun _u => [rowR (.slice none 0 0) 5 1 ((([] : List UInt8)).length) ((([] : List UInt8)).map bv), blk b1 128 ([.int .i64 kd, .int .i64 ad, .int .i64 n, b64 x, .int .i64 sp, .int .i64 si, .int .i64 sc, .int .i64 sd, vC, vL, vB]), blk b 124 ([.pointer (some ⟨p, 0, none⟩), .pointer (some ⟨q, 0, none⟩)]), Dev p γ (σ), RDev q δ (ρ)]) ?_ ?_
     ·refine tR (tV (Val.bin rfl rfl rfl) rfl (tA rfl rfl (tE ?_)))
      refine At.cond rfl (fun h8 => ?_) (fun h8 => ?_)
      ·try simp only [hasB, isSizeB, sB] at h8
       refine At.skipC (At.thenN ?_)
       exact At.meets () trivial (Sub.cons rfl (Sub.cons rfl (Sub.cons rfl (Sub.cons rfl (Sub.cons (congrArg (fun t => some (Value.bool t)) (by apply Bool.eq_iff_iff.2; simp only [beq_iff_eq, decide_eq_true_eq]; omega)) Sub.nil))))) (List.Perm.refl _)
      ·try simp only [hasB, isSizeB, sB] at h8
       refine At.region (tV (Val.bin rfl rfl rfl) rfl (tA rfl rfl (tE ?_)))
       exact At.meets () trivial (Sub.cons rfl (Sub.cons rfl (Sub.cons rfl (Sub.cons rfl (Sub.cons (congrArg (fun t => some (Value.bool t)) (by apply Bool.eq_iff_iff.2; simp only [beq_iff_eq, decide_eq_true_eq]; omega)) Sub.nil))))) (List.Perm.refl _)
     ·intro _u hs
      clear hs
      refine At.cond rfl (fun h9 => ?_) (fun h9 => ?_)
      ·try simp only [hasB, isSizeB, sB] at h9
       refine tR (tM rfl rfl (tV (Val.nilCheck rfl) rfl (tV (Val.field 1 rfl fo_124_1 rfl) rfl (tV (Val.load (i := 2) Tryz.isAgg122 rfl rfl rfl) rfl (At.callRK 4 rfl (fun w hw hr => rview_s _ _ _ σ w hsim hwl hr) Tryz.call161 rfl rfl (fun v10 => (tA rfl rfl (tE (tR (tV (Val.field 1 rfl fo_128_1 rfl) rfl (tV (Val.load (i := 2) Tryz.isAgg3 rfl rfl rfl) rfl (tM rfl rfl (tV (Val.lenRow (i := 0) Tryz.underlying29 rfl rfl) rfl ?_)))))))))))))
       first | refine tV (Val.addI rfl rfl (by omega) (by omega)) rfl ?_ | refine tV (Val.bin rfl rfl rfl) rfl ?_
       refine tV (Val.rem rfl rfl (by omega)) rfl ?_
       obtain ⟨t, ht⟩ : ∃ t, ad.tmod ((8 * σ.ws.length : Nat) + 1 : Int) = t := ⟨_, rfl⟩
       have ht1 : -((8 * σ.ws.length : Nat) + 1 : Int) < t ∧ t < ((8 * σ.ws.length : Nat) + 1 : Int) := by rw [← ht]; exact ⟨Int.lt_tmod_of_pos _ (by omega), Int.tmod_lt_of_pos _ (by omega)⟩
       rw [show ad.tmod (((wbytes (viewWs σ.ws)).length : Int) + 1) = t from by rw [← ht, hvl]]
       refine tA rfl rfl (tE ?_)
       refine At.join (σ := Unit) (fun _u => True) (fun _u => [(3, .pointer (some ⟨b1, 0, none⟩)), (5, (.slice none 0 0)), (6, v10), (7, .int .i64 (t.natAbs : Int))]) (fun _u => [rowR v10 5 1 ((wbytes (viewWs σ.ws)).length) ((wbytes (viewWs σ.ws)).map bv), rowR (.slice none 0 0) 5 1 ((([] : List UInt8)).length) ((([] : List UInt8)).map bv), blk b1 128 ([.int .i64 kd, .int .i64 ad, .int .i64 n, b64 x, .int .i64 sp, .int .i64 si, .int .i64 sc, .int .i64 sd, vC, vL, vB]), blk b 124 ([.pointer (some ⟨p, 0, none⟩), .pointer (some ⟨q, 0, none⟩)]), Dev p γ (σ), RDev q δ (ρ)]) ?_ ?_
       ·refine tR (tM rfl rfl (tV (Val.bin rfl rfl rfl) rfl (tE ?_)))
        refine At.cond rfl (fun h11 => ?_) (fun h11 => ?_)
        ·try simp only [hasB, isSizeB, sB] at h11
         refine At.region (tM rfl rfl (tV (Val.neg rfl) rfl ?_))
         rw [wrap_i64 (n := 0 - t) (by omega) (by omega)]
         refine tA rfl rfl (tE ?_)
         exact At.meets () trivial (Sub.cons rfl (Sub.cons rfl (Sub.cons rfl (Sub.cons (congrArg (fun z => some (Value.int IntKind.i64 z)) (by omega)) Sub.nil)))) (List.Perm.refl _)
        ·try simp only [hasB, isSizeB, sB] at h11
         refine At.skipC (At.thenN ?_)
         exact At.meets () trivial (Sub.cons rfl (Sub.cons rfl (Sub.cons rfl (Sub.cons (congrArg (fun z => some (Value.int IntKind.i64 z)) (by omega)) Sub.nil)))) (List.Perm.refl _)
       ·intro _u hs
        clear hs
        refine tR (tM rfl rfl (tM rfl rfl (tM rfl rfl (At.rowIs (i := 0) rfl (fun A12 c13 hv => ?_)))))
        subst hv
        refine tV (Val.cutRow (i := 0) (l := 0) (h := t.natAbs) rfl (by decide) Tryz.underlying29 Tryz.sizeOf5 rfl rfl ⟨_, _, rfl, by omega, by omega⟩ (by omega) (by omega)) rfl ?_
        refine At.appendNowB (i := 1) (m := (wbytes (viewWs σ.ws)).take t.natAbs) (by_ := 1) Tryz.underlying29 info_5 rfl rfl rfl rfl rfl rfl rfl (fun w hw => (by have h0 := RdB.cut (l := 0) (h := t.natAbs) (row_rd (hw.row (i := 0) rfl) (by decide)) (by omega) (by omega); rwa [List.drop_zero, Nat.sub_zero] at h0)) (by rw [List.length_take]; simp only [List.length_nil]; omega) (by rw [List.length_take]; simp only [List.length_nil]; omega) rfl (fun v14 => ?_)
        simp only [List.set_cons_zero, List.set_cons_succ, List.nil_append]
        refine tA rfl rfl (tE (tR (tM rfl rfl (tV (Val.field 10 rfl fo_128_7 rfl) rfl (tV (Val.load (i := 2) Tryz.isAgg29 rfl rfl rfl) rfl ?_)))))
        refine At.appendRdBBig (i := 1) (by_ := 1) Tryz.underlying29 info_5 rfl rfl rfl rfl rfl rfl rfl hvB hoB (by rw [List.length_take]; omega) (by rw [List.length_take]; omega) rfl (fun v15 => ?_)
        simp only [sc0, scS]
        refine tA rfl rfl (tE (At.retC (At.blkR (At.thenR (At.ret1 (.inl rfl) rfl rfl rfl (fun w hw => ?_))))))
        rw [bytesE_3 hz (by omega) ht]
        exact ⟨_, rfl, Rep.shut3r 3 3 3 1 rfl rfl rfl rfl hw⟩
      ·try simp only [hasB, isSizeB, sB] at h9
       refine At.skipC (At.blkN (At.thenN (tR (tM rfl rfl (tV (Val.nilCheck rfl) rfl (tV (Val.field 1 rfl fo_124_1 rfl) rfl (tV (Val.load (i := 2) Tryz.isAgg122 rfl rfl rfl) rfl (At.callRK 4 rfl (fun w hw hr => rview_s _ _ _ σ w hsim hwl hr) Tryz.call161 rfl rfl (fun v16 => (tA rfl rfl (tE (At.retC (At.ret1 (.inl rfl) rfl rfl rfl (fun w hw => ?_))))))))))))))
       rw [bytesE_0 hz (by omega)]
       exact ⟨_, rfl, Rep.shut3r 3 3 3 0 rfl rfl rfl rfl hw⟩
end Go.Proofs.YtfchinibjhcejaaGreatDoor
namespace Go.Proofs.YtfchinibjhcejaaGreatDoor
open Go Go.Wk
theorem commitJ_k (b p q : Nat) (γ : Gh) (δ : Rg) (σ : Ds) (ρ : Rs) (kd ad n sp si sc sd : Int) (x : BitVec 64) (vC vL vB : Value) (C : List (Int × BitVec 64)) (cs : List Int) (lB : List UInt8) (w : World) (hsim : Sim σ ρ) (K : Nat) (ht : Tab w) (hf : ¬ feet [jbR b ⟨p, γ, σ, q, δ, ρ⟩] 0) (hvC : RdP w vC C) (hoC : Off vC (prC C) (feet [jbR b ⟨p, γ, σ, q, δ, ρ⟩])) (hCb : ∀ q ∈ C, -9223372036854775808 ≤ q.1 ∧ q.1 ≤ 9223372036854775807) (hCl : C.length ≤ 8796093022208) (hsp : -9223372036854775808 ≤ sp ∧ sp ≤ 9223372036854775807) (hst : σ.steps + 200 ≤ 1099511627776) (hK : σ.steps + 60 ≤ K) (hd : (jbR b ⟨p, γ, σ, q, δ, ρ⟩).holds w) :
    JU Tryz.prog 97 [.pointer (some ⟨b, 0, none⟩), .agg #[.int .i64 kd, .int .i64 ad, .int .i64 n, b64 x, .int .i64 sp, .int .i64 si, .int .i64 sc, .int .i64 sd, vC, vL, vB]] b ⟨p, γ, σ, q, δ, ρ⟩ K w := by
 refine enter (feet [jbR b ⟨p, γ, σ, q, δ, ρ⟩]) [blk b 124 [.pointer (some ⟨p, 0, none⟩), .pointer (some ⟨q, 0, none⟩)], Dev p γ σ, RDev q δ ρ] Tryz.func97 rfl Tryz.ntmps97 rfl (Rep.of_star (r := jbR b ⟨p, γ, σ, q, δ, ρ⟩) hd) ?_
 have hgd := Dev.good (hd.2 (Dev p γ σ) (by simp))
 have hwl := hgd.len
 have hsl := hsim.len
 simp only [envOf]
 refine tR (At.box rfl rfl rfl (fun b1 => (tA rfl rfl (tE (tR (tA rfl rfl (At.nil (At.rowNilP 56 (At.thenN (At.seq (tR (tA rfl rfl (tE (At.block ?_))))))))))))))
 skip
 refine At.loop (σ := Nat × Value) (fun s => s.1 ≤ C.length) (fun s => [(0, .pointer (some ⟨b, 0, none⟩)), (3, .pointer (some ⟨b1, 0, none⟩)), (5, s.2), (6, .int .i64 (s.1 : Int))]) (fun s => [rowR s.2 56 2 (C.take s.1).length (prC (C.take s.1)), blk b1 128 ([.int .i64 kd, .int .i64 ad, .int .i64 n, b64 x, .int .i64 sp, .int .i64 si, .int .i64 sc, .int .i64 sd, vC, vL, vB]), blk b 124 ([.pointer (some ⟨p, 0, none⟩), .pointer (some ⟨q, 0, none⟩)]), Dev p γ (σ), RDev q δ (ρ)]) (fun s => C.length - s.1) (0, .slice none 0 0) (Nat.zero_le _) (Sub.cons rfl (Sub.cons rfl (Sub.cons rfl (Sub.cons rfl Sub.nil)))) (List.Perm.refl _) ?_
 intro s hs
 obtain ⟨k, vr⟩ := s
 dsimp only at hs ⊢
 refine At.seq (tR (tM rfl rfl (tV (Val.field 8 rfl fo_128_5 rfl) rfl (tV (Val.load (i := 1) Tryz.isAgg24 rfl rfl rfl) rfl (tV (Val.lenRd hvC Tryz.underlying24 rfl) rfl (tV (Val.bin rfl rfl rfl) rfl (tE ?_)))))))
 refine At.cond rfl (fun h2 => ?_) (fun h2 => ?_)
 ·try simp only [hasB, isSizeB, sB] at h2
  obtain ⟨q1, hq⟩ : ∃ q1, C[k]? = some q1 := ⟨_, List.getElem?_eq_getElem (by omega)⟩
  refine At.skipC (At.thenN (At.seq (At.block (At.region (tM rfl rfl (tV (Val.field 8 rfl fo_128_5 rfl) rfl (tV (Val.load (i := 1) Tryz.isAgg24 rfl rfl rfl) rfl (tM rfl rfl (At.idxPO hvC hoC Tryz.underlying24 Tryz.sizeOf56 rfl rfl hq rfl rfl (fun bx ox hc0 hc1 hox => (tV (Val.loadPair Tryz.isAgg56 Tryz.sizeOf56 rfl hc0 hc1 hox) rfl (At.buildSl (fun a ha => by simp only [List.map_toArray, List.map_cons, List.map_nil, ha.eval (x := (.tmp 22)) rfl]; try rfl) (bs_24_1 _ _ ) rfl (fun b3 => ?_)))))))))))))
  refine At.appendP1 (i := 1) (j := 0) (by_ := 16) Tryz.underlying24 info_56 rfl rfl rfl rfl rfl rfl rfl rfl (by rw [List.length_take]; omega) (by rw [List.length_take]; omega) rfl (fun v4 => ?_)
  simp only [sc0, scS]
  refine At.drop 0 ?_
  simp only [ec0, ecS]
  refine tA rfl rfl (At.nil (At.blkN (At.thenN (At.region (tM rfl rfl ?_)))))
  first | refine tV (Val.addI rfl rfl (by omega) (by omega)) rfl ?_ | refine tV (Val.bin rfl rfl rfl) rfl ?_
  refine tA rfl rfl (tE ?_)
  exact At.again (k + 1, v4) (show k + 1 ≤ _ by omega) (by dsimp only; omega) (Sub.cons rfl (Sub.cons rfl (Sub.cons rfl (Sub.cons (congrArg (fun z => some (Value.int IntKind.i64 z)) (by omega)) Sub.nil)))) (by dsimp only; rw [List.take_succ_of_get hq])
 ·try simp only [hasB, isSizeB, sB] at h2
  obtain rfl : k = C.length := by omega
  rw [List.take_length]
  refine At.exitC (At.thenX (At.thenX (At.blkX (At.thenN (At.seq (At.tail 7 rfl (by decide +kernel) ?_))))))
  simp only [List.take_succ_cons, List.take_zero, List.drop_succ_cons, List.drop_zero]
  refine qM rfl rfl (qV (Val.nilCheck rfl) rfl (qV (Val.field 0 rfl fo_124_0 rfl) rfl (qV (Val.load (i := 2) Tryz.isAgg51 rfl rfl rfl) rfl (qV (Val.field 4 rfl fo_128_4 rfl) rfl (qV (Val.loadPart (i := 1) Tryz.isAgg31 Tryz.sizeOf31 rfl rfl rfl rfl) rfl (qM rfl rfl (QAt.fin (At.callD 3 rfl (fun w hw hr => commit_d _ _ _ sp si sc sd _ C w (ht.modS hw.mod hf) (Rep.off0 hw ht hf (i := 3) rfl) (row_rd (hw.row (i := 0) rfl) (by decide)) (Rep.offRow (i := 0) (j := 3) hw rfl rfl (by decide)) hCb (by omega) (by omega) hr) Tryz.call23 rfl rfl (fun y5 => ?_)))))))))
  simp only [sc0, scS]
  refine tA rfl rfl (tE (At.seq (At.tail 8 rfl (by decide +kernel) ?_)))
  simp only [List.take_succ_cons, List.take_zero, List.drop_succ_cons, List.drop_zero]
  refine qM rfl rfl (qV (Val.nilCheck rfl) rfl (qV (Val.field 1 rfl fo_124_1 rfl) rfl (qV (Val.load (i := 2) Tryz.isAgg122 rfl rfl rfl) rfl (qV (Val.field 4 rfl fo_128_4 rfl) rfl (qV (Val.loadPart (i := 1) Tryz.isAgg31 Tryz.sizeOf31 rfl rfl rfl rfl) rfl (qV (Val.field 8 rfl fo_128_5 rfl) rfl (qV (Val.load (i := 1) Tryz.isAgg24 rfl rfl rfl) rfl (QAt.fin (At.callRP 4 rfl (fun w hw hr => rcommit_s _ _ _ σ sp si sc sd vC C w hsim (hvC.keep hw hoC) (Rep.offOld hw hvC hoC (List.mem_of_getElem? (i := 4) rfl)) hCb (by omega) hsp (by omega) hr) Tryz.call124 rfl rfl (fun y6 r7 hs8 => ?_))))))))))
  simp only [sc0, scS]
  refine tA rfl rfl (tE (At.seq (tR (tA rfl rfl (tE (At.block ?_))))))
  skip
  refine At.loop (σ := Nat) (fun k => k ≤ C.length) (fun k => [(0, .pointer (some ⟨b, 0, none⟩)), (3, .pointer (some ⟨b1, 0, none⟩)), (5, vr), (7, .int .i64 (comE σ sp si sc sd C).1), (8, .int .i64 (comE σ sp si sc sd C).1), (9, .int .i64 (k : Int))]) (fun k => [rowR vr 56 2 ((C).length) (prC (C)), blk b1 128 ([.int .i64 kd, .int .i64 ad, .int .i64 n, b64 x, .int .i64 sp, .int .i64 si, .int .i64 sc, .int .i64 sd, vC, vL, vB]), blk b 124 ([.pointer (some ⟨p, 0, none⟩), .pointer (some ⟨q, 0, none⟩)]), Dev p y5 ((comE σ sp si sc sd C).2), RDev q y6 (r7)]) (fun k => C.length - k) 0 (Nat.zero_le _) (Sub.cons rfl (Sub.cons rfl (Sub.cons rfl (Sub.cons rfl (Sub.cons rfl (Sub.cons rfl Sub.nil)))))) (List.Perm.refl _) ?_
  intro k hs
  refine At.seq (tR (tM rfl rfl (tM rfl rfl (tV (Val.lenRow (i := 0) Tryz.underlying24 rfl rfl) rfl (tV (Val.bin rfl rfl rfl) rfl (tE ?_))))))
  refine At.cond rfl (fun h9 => ?_) (fun h9 => ?_)
  ·try simp only [hasB, isSizeB, sB] at h9
   obtain ⟨q1, hq⟩ : ∃ q1, C[k]? = some q1 := ⟨_, List.getElem?_eq_getElem (by omega)⟩
   refine At.skipC (At.thenN (At.seq (At.block (At.seq (At.quiet rfl (by decide +kernel) (qM rfl rfl (qM rfl rfl (qV (Val.indexRow (i := 0) (k * 2) (by omega) Tryz.underlying24 Tryz.sizeOf56 rfl rfl rfl (by omega) (by omega)) rfl (qV (Val.loadRowPart (i := 0) (vs := [.int .i64 q1.1, b64 q1.2]) Tryz.isAgg56 Tryz.sizeOf56 rfl rfl rfl (fun m u hm => by match m, hm with | 0, hm => (obtain rfl := Option.some.inj hm; exact (prC_at hq).1) | 1, hm => (obtain rfl := Option.some.inj hm; exact (prC_at hq).2))) rfl (qV (Val.field 8 rfl fo_128_5 rfl) rfl (qV (Val.load (i := 1) Tryz.isAgg24 rfl rfl rfl) rfl (qM rfl rfl (QAt.idxPO hvC hoC Tryz.underlying24 Tryz.sizeOf56 rfl rfl hq rfl rfl (fun bx ox hc0 hc1 hox => (qV (Val.loadPair Tryz.isAgg56 Tryz.sizeOf56 rfl hc0 hc1 hox) rfl (qV (Val.neAgg Tryz.eqGuardType56 (fun w => eq_56 _ _ _ _ w) rfl rfl) rfl ?_))))))))))))))))
   simp only [beq_self_eq_true, Bool.and_true, Bool.not_true]
   refine QAt.fin (At.thenN (At.condF rfl (At.skipC (At.blkN (At.thenN (At.region (tM rfl rfl ?_)))))))
   first | refine tV (Val.addI rfl rfl (by omega) (by omega)) rfl ?_ | refine tV (Val.bin rfl rfl rfl) rfl ?_
   refine tA rfl rfl (tE ?_)
   exact At.again (k + 1) (show k + 1 ≤ _ by omega) (by omega) (Sub.cons rfl (Sub.cons rfl (Sub.cons rfl (Sub.cons rfl (Sub.cons rfl (Sub.cons (congrArg (fun z => some (Value.int IntKind.i64 z)) (by omega)) Sub.nil)))))) (List.Perm.refl _)
  ·try simp only [hasB, isSizeB, sB] at h9
   refine At.exitC (At.thenX (At.thenX (At.blkX (At.thenN (At.seq (At.tail 12 rfl (by decide +kernel) ?_))))))
   simp only [List.take_succ_cons, List.take_zero, List.drop_succ_cons, List.drop_zero]
   refine qM rfl rfl (qM rfl rfl (qV (Val.bin rfl rfl rfl) rfl ?_))
   rw [beq_self_eq_true]
   refine qM rfl rfl (QAt.yes rfl rfl (qM rfl rfl (QAt.yes rfl rfl (qV (Val.nilCheck rfl) rfl (QAt.yes rfl rfl (qV (Val.field 0 rfl fo_124_0 rfl) rfl (QAt.yes rfl rfl (qV (Val.load (i := 2) Tryz.isAgg51 rfl rfl rfl) rfl (QAt.yes rfl rfl (qM rfl rfl (QAt.yes rfl rfl (qV (Val.nilCheck rfl) rfl (QAt.yes rfl rfl (qV (Val.field 1 rfl fo_124_1 rfl) rfl (QAt.yes rfl rfl (qV (Val.load (i := 2) Tryz.isAgg122 rfl rfl rfl) rfl (QAt.fin (At.yes rfl rfl (At.bring 4 rfl ?_)))))))))))))))))))
   simp only [ec0, ecS]
   refine At.bring 4 rfl ?_
   simp only [ec0, ecS]
   refine At.callKS [Dev p y5 ((comE σ sp si sc sd C).2), RDev q y6 (r7)] rfl (fun w hw hr => sdev_k _ _ _ _ _ _ w hs8 hr) Tryz.call125 rfl rfl (tV (Val.pickT rfl rfl) rfl (tA rfl rfl (tE (At.retC (At.ret1 (.inl rfl) rfl rfl rfl (fun w hw => ?_))))))
   exact ⟨⟨p, y5, (comE σ sp si sc sd C).2, q, y6, r7⟩, rfl, ⟨hs8, (Nat.le_trans comE_rest.2 hK)⟩, Rep.shut3 4 0 0 rfl rfl rfl hw⟩
theorem recoversJ_k (b p q : Nat) (γ : Gh) (δ : Rg) (σ : Ds) (ρ : Rs) (w : World) (hsim : Sim σ ρ) (K : Nat) (ht : Tab w) (hf : ¬ feet [jbR b ⟨p, γ, σ, q, δ, ρ⟩] 0) (hst : σ.steps + 200 ≤ 1099511627776) (hK : σ.steps + 60 ≤ K) (hd : (jbR b ⟨p, γ, σ, q, δ, ρ⟩).holds w) :
    JU Tryz.prog 99 [.pointer (some ⟨b, 0, none⟩)] b ⟨p, γ, σ, q, δ, ρ⟩ K w := by
 refine enter (feet [jbR b ⟨p, γ, σ, q, δ, ρ⟩]) [blk b 124 [.pointer (some ⟨p, 0, none⟩), .pointer (some ⟨q, 0, none⟩)], Dev p γ σ, RDev q δ ρ] Tryz.func99 rfl Tryz.ntmps99 rfl (Rep.of_star (r := jbR b ⟨p, γ, σ, q, δ, ρ⟩) hd) ?_
 have hgd := Dev.good (hd.2 (Dev p γ σ) (by simp))
 have hwl := hgd.len
 have hsl := hsim.len
 simp only [envOf]
 refine tR (tA rfl rfl (tE (tR (tM rfl rfl (tV (Val.nilCheck rfl) rfl (tV (Val.field 0 rfl fo_124_0 rfl) rfl (tV (Val.load (i := 0) Tryz.isAgg51 rfl rfl rfl) rfl (At.callD 1 rfl (fun w hw hr => recover_d _ _ _ w (ht.modS hw.mod hf) (Rep.off0 hw ht hf (i := 1) rfl) (by omega) hr) Tryz.call25 rfl rfl (fun y1 => ?_)))))))))
 simp only [sc0, scS]
 refine tM rfl rfl (tV (Val.extract rfl rfl) rfl (tV (Val.extract rfl rfl) rfl (tA rfl rfl (tA rfl rfl (tE (tR (tM rfl rfl (tV (Val.nilCheck rfl) rfl (tV (Val.field 1 rfl fo_124_1 rfl) rfl (tV (Val.load (i := 0) Tryz.isAgg122 rfl rfl rfl) rfl (At.callRP 2 rfl (fun w hw hr => rrecover_s _ _ _ σ w hsim (by omega) hr) Tryz.call129 rfl rfl (fun y2 r3 hs4 => ?_))))))))))))
 simp only [sc0, scS]
 refine tM rfl rfl (tV (Val.extract rfl rfl) rfl (tV (Val.extract rfl rfl) rfl (tA rfl rfl (tA rfl rfl (tE (At.seq (At.tail 17 rfl (by decide +kernel) ?_)))))))
 simp only [List.take_succ_cons, List.take_zero, List.drop_succ_cons, List.drop_zero]
 refine qM rfl rfl (qM rfl rfl (qV (Val.bin rfl rfl rfl) rfl ?_))
 rw [beq_self_eq_true]
 refine qM rfl rfl (QAt.yes rfl rfl (qM rfl rfl (QAt.yes rfl rfl (qM rfl rfl (QAt.yes rfl rfl (qV (Val.bin rfl rfl rfl) rfl ?_))))))
 rw [beq_self_eq_true]
 refine qV (Val.pickT rfl rfl) rfl (qM rfl rfl (QAt.yes rfl rfl (qM rfl rfl (QAt.yes rfl rfl (qV (Val.nilCheck rfl) rfl (QAt.yes rfl rfl (qV (Val.field 0 rfl fo_124_0 rfl) rfl (QAt.yes rfl rfl (qV (Val.load (i := 0) Tryz.isAgg51 rfl rfl rfl) rfl (QAt.yes rfl rfl (qM rfl rfl (QAt.yes rfl rfl (qV (Val.nilCheck rfl) rfl (QAt.yes rfl rfl (qV (Val.field 1 rfl fo_124_1 rfl) rfl (QAt.yes rfl rfl (qV (Val.load (i := 0) Tryz.isAgg122 rfl rfl rfl) rfl (QAt.fin (At.yes rfl rfl (At.bring 2 rfl ?_))))))))))))))))))))
 simp only [ec0, ecS]
 refine At.bring 2 rfl ?_
 simp only [ec0, ecS]
 refine At.callKS [Dev p y1 ((rcvE σ).2.2), RDev q y2 (r3)] rfl (fun w hw hr => sdev_k _ _ _ _ _ _ w hs4 hr) Tryz.call125 rfl rfl (tV (Val.pickT rfl rfl) rfl (tA rfl rfl (tE (At.retC (At.ret1 (.inl rfl) rfl rfl rfl (fun w hw => ?_))))))
 exact ⟨⟨p, y1, (rcvE σ).2.2, q, y2, r3⟩, rfl, ⟨hs4, (Nat.le_trans rcvE_rest.2 hK)⟩, Rep.shut3 2 0 0 rfl rfl rfl hw⟩
end Go.Proofs.YtfchinibjhcejaaGreatDoor
namespace Go.Proofs.YtfchinibjhcejaaGreatDoor
open Go Go.Wk
theorem ovR_le {l : List UInt8} {n : Nat} (h : l.length ≤ n) : (ovR l).length ≤ n := by
  by_cases h0 : pndE l = 0
  · rw [ovR_yes h0, ovl_len (fun u hu => ((pnd_in h0).2 u hu).2.1)]; exact h
  · rw [ovR_no h0]; exact Nat.zero_le _
theorem readsJ_k (b p q : Nat) (γ : Gh) (δ : Rg) (σ : Ds) (ρ : Rs) (kd ad n sp si sc sd : Int) (x : BitVec 64) (vC vL vB : Value) (C : List (Int × BitVec 64)) (cs : List Int) (lB : List UInt8) (w : World) (hsim : Sim σ ρ) (K : Nat) (ht : Tab w) (hf : ¬ feet [jbR b ⟨p, γ, σ, q, δ, ρ⟩] 0) (hvL : RdI w vL cs) (hoL : Off vL (cs.map (Value.int .i64)) (feet [jbR b ⟨p, γ, σ, q, δ, ρ⟩])) (hvB : RdB w vB lB) (hoB : Off vB (lB.map bv) (feet [jbR b ⟨p, γ, σ, q, δ, ρ⟩])) (hbl : lB.length ≤ 140737488355328) (hst : σ.steps ≤ 1099511627775) (hK : σ.steps ≤ K) (hd : (jbR b ⟨p, γ, σ, q, δ, ρ⟩).holds w) :
    JU Tryz.prog 98 [.pointer (some ⟨b, 0, none⟩), .agg #[.int .i64 kd, .int .i64 ad, .int .i64 n, b64 x, .int .i64 sp, .int .i64 si, .int .i64 sc, .int .i64 sd, vC, vL, vB]] b ⟨p, γ, σ, q, δ, ρ⟩ K w := by
 refine enter (feet [jbR b ⟨p, γ, σ, q, δ, ρ⟩]) [blk b 124 [.pointer (some ⟨p, 0, none⟩), .pointer (some ⟨q, 0, none⟩)], Dev p γ σ, RDev q δ ρ] Tryz.func98 rfl Tryz.ntmps98 rfl (Rep.of_star (r := jbR b ⟨p, γ, σ, q, δ, ρ⟩) hd) ?_
 have hgd := Dev.good (hd.2 (Dev p γ σ) (by simp))
 have hwl := hgd.len
 have hsl := hsim.len
 obtain ⟨X, hX⟩ : ∃ X, X = bytesE σ n ad cs lB := ⟨_, rfl⟩
 have hXl : X.length ≤ 140737489000000 := by rw [hX]; exact bytesE_le hwl hbl
 simp only [envOf]
 refine tR (At.box rfl rfl rfl (fun b1 => (tA rfl rfl (tE (tR (tM rfl rfl (tV (Val.loadAll (i := 0) Tryz.isAgg128 Tryz.sizeOf128 rfl rfl rfl) rfl (At.bring 3 rfl ?_))))))))
 simp only [ec0, ecS]
 refine At.bring 3 rfl ?_
 simp only [ec0, ecS]
 refine At.bring 3 rfl ?_
 simp only [ec0, ecS]
 refine At.callRKS [blk b 124 ([.pointer (some ⟨p, 0, none⟩), .pointer (some ⟨q, 0, none⟩)]), Dev p γ (σ), RDev q δ (ρ)] rfl (fun w hw hr => bytesJ_k b p q γ δ σ ρ kd ad n sp si sc sd x vC vL vB C cs lB w hsim (hvL.keep hw hoL) (Rep.offOld hw.shutS hvL hoL (List.mem_cons_self ..)) (hvB.keep hw hoB) (Rep.offOld hw.shutS hvB hoB (List.mem_cons_self ..)) hbl hst hr) Tryz.call126 rfl rfl (fun v2 => ?_)
 rw [← hX]
 refine tA rfl rfl (tE (tR (tM rfl rfl (tV (Val.loadAll (i := 4) Tryz.isAgg128 Tryz.sizeOf128 rfl rfl rfl) rfl (At.bring 3 rfl ?_)))))
 simp only [ec0, ecS]
 refine At.bring 3 rfl ?_
 simp only [ec0, ecS]
 refine At.bring 3 rfl ?_
 simp only [ec0, ecS]
 refine At.callRKS [blk b 124 ([.pointer (some ⟨p, 0, none⟩), .pointer (some ⟨q, 0, none⟩)]), Dev p γ (σ), RDev q δ (ρ)] rfl (fun w hw hr => bytesJ_k b p q γ δ σ ρ kd ad n sp si sc sd x vC vL vB C cs lB w hsim (hvL.keep hw hoL) (Rep.offOld hw.shutS hvL hoL (List.mem_cons_self ..)) (hvB.keep hw hoB) (Rep.offOld hw.shutS hvB hoB (List.mem_cons_self ..)) hbl hst hr) Tryz.call126 rfl rfl (fun v3 => ?_)
 rw [← hX]
 refine tA rfl rfl (tE (At.seq (tR (tV (Val.field 0 rfl fo_128_0 rfl) rfl (tV (Val.load (i := 5) Tryz.isAgg3 rfl rfl rfl) rfl (tV (Val.bin rfl rfl rfl) rfl (tE ?_)))))))
 refine At.cond rfl (fun h4 => ?_) (fun h4 => ?_)
 ·try simp only [hasB, isSizeB, sB] at h4
  refine tR (tM rfl rfl (At.callNT (g := (fun v => .tuple #[v, .int .i64 (pndE X)])) (fun w hw => pending_n _ X w (ht.modS hw.mod hf) (row_rd (hw.row (i := 0) rfl) (by decide)) hXl) Tryz.call15 rfl rfl (fun v5 => (tM rfl rfl (tV (Val.extract rfl rfl) rfl (tV (Val.extract rfl rfl) rfl (tA rfl rfl (tA rfl rfl (tE (tR (tM rfl rfl (At.callNT (g := (fun v => .tuple #[v, .int .i64 (pndE X)])) (fun w hw => pendingR_n _ X w (row_rd (hw.row (i := 5) rfl) (by decide)) hXl) Tryz.call127 rfl rfl (fun v6 => (tM rfl rfl (tV (Val.extract rfl rfl) rfl (tV (Val.extract rfl rfl) rfl (tA rfl rfl (tA rfl rfl (tE (tR (tM rfl rfl (tM rfl rfl (tV (Val.bin rfl rfl rfl) rfl ?_)))))))))))))))))))))))
  rw [beq_self_eq_true]
  refine tM rfl rfl (At.yes rfl rfl (tM rfl rfl (At.yes rfl rfl (tM rfl rfl (At.yes rfl rfl ?_)))))
  refine At.callP (fun w hw => sameUnJ_p _ _ (pndL X) w (row_rd (hw.row (i := 1) rfl) (by decide)) (row_rd (hw.row (i := 0) rfl) (by decide)) (by have := pndL_le X; omega)) Tryz.call17 rfl rfl (tV (Val.pickT rfl rfl) rfl (tM rfl rfl (At.yes rfl rfl (tM rfl rfl (At.yes rfl rfl (tM rfl rfl (At.yes rfl rfl ?_)))))))
  refine At.callP (fun w hw => (by have h0 := sameBytes_p _ _ X X w (row_rd (hw.row (i := 2) rfl) (by decide)) (row_rd (hw.row (i := 6) rfl) (by decide)) hXl hXl; rwa [decide_eq_true rfl] at h0)) Tryz.call18 rfl rfl (tV (Val.pickT rfl rfl) rfl (tA rfl rfl (tE (At.retC (At.thenR (At.ret1 (.inl rfl) rfl rfl rfl (fun w hw => ?_)))))))
  exact ⟨⟨p, γ, σ, q, δ, ρ⟩, rfl, ⟨hsim, hK⟩, Rep.shut3 3 3 3 rfl rfl rfl hw⟩
 ·try simp only [hasB, isSizeB, sB] at h4
  refine At.skipC (At.thenN (tR (tM rfl rfl (At.callNT (g := (fun v => .tuple #[v, .int .i64 (pndE X)])) (fun w hw => overlay_n _ X w (ht.modS hw.mod hf) (row_rd (hw.row (i := 0) rfl) (by decide)) hXl) Tryz.call16 rfl rfl (fun v7 => (tM rfl rfl (tV (Val.extract rfl rfl) rfl (tV (Val.extract rfl rfl) rfl (tA rfl rfl (tA rfl rfl (tE (tR (tM rfl rfl (At.callNT (g := (fun v => .tuple #[v, .int .i64 (pndE X)])) (fun w hw => overlayR_n _ X w (row_rd (hw.row (i := 5) rfl) (by decide)) hXl) Tryz.call128 rfl rfl (fun v8 => (tM rfl rfl (tV (Val.extract rfl rfl) rfl (tV (Val.extract rfl rfl) rfl (tA rfl rfl (tA rfl rfl (tE (At.seq (tR (tM rfl rfl (tM rfl rfl (tV (Val.bin rfl rfl rfl) rfl ?_))))))))))))))))))))))))))
  rw [bne_self_eq_false]
  refine tM rfl rfl (At.yes rfl rfl (tM rfl rfl (At.yes rfl rfl (tM rfl rfl (At.yes rfl rfl ?_)))))
  refine At.callP (fun w hw => (by have h0 := sameBytes_p _ _ (ovR X) (ovR X) w (row_rd (hw.row (i := 1) rfl) (by decide)) (row_rd (hw.row (i := 0) rfl) (by decide)) (ovR_le hXl) (ovR_le hXl); rwa [decide_eq_true rfl] at h0)) Tryz.call18 rfl rfl (At.yes rfl rfl (tV (Val.not rfl) rfl (tV (Val.pickF rfl rfl) rfl (tM rfl rfl (At.yes rfl rfl (tM rfl rfl (At.yes rfl rfl (tM rfl rfl (At.yes rfl rfl ?_)))))))))
  refine At.callP (fun w hw => (by have h0 := sameBytes_p _ _ X X w (row_rd (hw.row (i := 2) rfl) (by decide)) (row_rd (hw.row (i := 6) rfl) (by decide)) hXl hXl; rwa [decide_eq_true rfl] at h0)) Tryz.call18 rfl rfl (At.yes rfl rfl (tV (Val.not rfl) rfl (tV (Val.pickF rfl rfl) rfl (tE (At.condF rfl (At.skipC (At.thenN (At.seq (tR (tA rfl rfl (tE (At.block ?_))))))))))))
  skip
  refine At.loop (σ := Nat × List UInt8) (fun s => s.1 ≤ (ovR X).length ∧ s.2.length = (ovR X).length) (fun s => [(0, .pointer (some ⟨b, 0, none⟩)), (5, v2), (6, v3), (11, v7), (15, .int .i64 (s.1 : Int))]) (fun s => [rowR v8 5 1 ((ovR X).length) ((ovR X).map bv), brow 5 v7 s.2, rowR v3 5 1 ((X).length) ((X).map bv), blk b 124 ([.pointer (some ⟨p, 0, none⟩), .pointer (some ⟨q, 0, none⟩)]), Dev p γ (σ), RDev q δ (ρ), rowR v2 5 1 ((X).length) ((X).map bv), blk b1 128 ([.int .i64 kd, .int .i64 ad, .int .i64 n, b64 x, .int .i64 sp, .int .i64 si, .int .i64 sc, .int .i64 sd, vC, vL, vB])]) (fun s => (ovR X).length - s.1) (0, ovR X) ⟨Nat.zero_le _, rfl⟩ (Sub.cons rfl (Sub.cons rfl (Sub.cons rfl (Sub.cons rfl (Sub.cons rfl Sub.nil))))) (List.Perm.refl _) ?_
  intro s hs
  obtain ⟨k, Y⟩ := s
  dsimp only at hs ⊢
  have hYl := hs.2
  have hol := ovR_le hXl
  refine At.seq (tR (tM rfl rfl (tM rfl rfl (tV (Val.lenRow (i := 1) Tryz.underlying29 rfl rfl) rfl (tV (Val.bin rfl rfl rfl) rfl (tE ?_))))))
  refine At.cond rfl (fun h9 => ?_) (fun h9 => ?_)
  ·try simp only [hasB, isSizeB, sB] at h9
   refine At.skipC (At.thenN (At.seq (At.block (At.region (tM rfl rfl (tM rfl rfl (tM rfl rfl (tM rfl rfl (At.idxRowB (i := 1) rfl Tryz.underlying29 Tryz.sizeOf5 rfl rfl (by omega) (by omega) rfl rfl (fun q10 hq11 hl12 => (tV (Val.loadRowB (i := 1) Tryz.isAgg5 rfl rfl hq11) rfl (tV (Val.bin rfl rfl rfl) rfl ?_))))))))))))
   rw [show ((q10.toNat : Nat) : Int) + 1 = ((q10.toNat + 1 : Nat) : Int) from by omega, wrap_u8_nat]
   refine At.idxRowB (i := 1) rfl Tryz.underlying29 Tryz.sizeOf5 rfl rfl (by omega) (by omega) rfl rfl (fun q13 hq14 hl15 => (At.storeRowB (i := 1) (c := UInt8.ofNat (q10.toNat + 1)) Tryz.sizeOf5 rfl rfl rfl (by omega) ?_))
   simp only [sc0, scS]
   refine At.nil (At.blkN (At.thenN (At.region (tM rfl rfl ?_))))
   first | refine tV (Val.addI rfl rfl (by omega) (by omega)) rfl ?_ | refine tV (Val.bin rfl rfl rfl) rfl ?_
   refine tA rfl rfl (tE ?_)
   exact At.again (k + 1, Y.set k _) ⟨(show k + 1 ≤ _ by omega), (by show (Y.set _ _).length = _; rw [List.length_set]; exact hs.2)⟩ (by dsimp only; omega) (Sub.cons rfl (Sub.cons rfl (Sub.cons rfl (Sub.cons rfl (Sub.cons (congrArg (fun z => some (Value.int IntKind.i64 z)) (by omega)) Sub.nil))))) (List.Perm.refl _)
  ·try simp only [hasB, isSizeB, sB] at h9
   refine At.exitC (At.thenX (At.thenX (At.blkX (At.thenN (tR (tM rfl rfl (tM rfl rfl ?_)))))))
   refine At.callP (fun w hw => (by have h0 := sameBytes_p _ _ X X w (row_rd (hw.row (i := 2) rfl) (by decide)) (row_rd (hw.row (i := 6) rfl) (by decide)) hXl hXl; rwa [decide_eq_true rfl] at h0)) Tryz.call18 rfl rfl (tA rfl rfl (tE (At.retC (At.ret1 (.inl rfl) rfl rfl rfl (fun w hw => ?_)))))
   exact ⟨⟨p, γ, σ, q, δ, ρ⟩, rfl, ⟨hsim, hK⟩, Rep.shut3 3 3 3 rfl rfl rfl hw⟩
end Go.Proofs.YtfchinibjhcejaaGreatDoor
namespace Go.Proofs.YtfchinibjhcejaaGreatDoor
open Go Go.Wk
theorem movesJ_k (b p q : Nat) (γ : Gh) (δ : Rg) (σ : Ds) (ρ : Rs) (kd ad n sp si sc sd : Int) (x : BitVec 64) (vC vL vB : Value) (C : List (Int × BitVec 64)) (cs : List Int) (lB : List UInt8) (w : World) (hsim : Sim σ ρ) (K : Nat) (hvL : RdI w vL cs) (hoL : Off vL (cs.map (Value.int .i64)) (feet [jbR b ⟨p, γ, σ, q, δ, ρ⟩])) (hvB : RdB w vB lB) (hoB : Off vB (lB.map bv) (feet [jbR b ⟨p, γ, σ, q, δ, ρ⟩])) (hbl : lB.length ≤ 140737488355328) (hn : n ≤ 9223372036854775807) (hst : σ.steps + 140000 ≤ 1099511627775) (hK : σ.steps + 140000 ≤ K) (hd : (jbR b ⟨p, γ, σ, q, δ, ρ⟩).holds w) :
    JU Tryz.prog 100 [.pointer (some ⟨b, 0, none⟩), .agg #[.int .i64 kd, .int .i64 ad, .int .i64 n, b64 x, .int .i64 sp, .int .i64 si, .int .i64 sc, .int .i64 sd, vC, vL, vB]] b ⟨p, γ, σ, q, δ, ρ⟩ K w := by
 refine enter (feet [jbR b ⟨p, γ, σ, q, δ, ρ⟩]) [blk b 124 [.pointer (some ⟨p, 0, none⟩), .pointer (some ⟨q, 0, none⟩)], Dev p γ σ, RDev q δ ρ] Tryz.func100 rfl Tryz.ntmps100 rfl (Rep.of_star (r := jbR b ⟨p, γ, σ, q, δ, ρ⟩) hd) ?_
 have hgd := Dev.good (hd.2 (Dev p γ σ) (by simp))
 have hwl := hgd.len
 have hsl := hsim.len
 have hnw : ∀ u ∈ σ.ws, u.news.length ≤ 1099511627775 := fun u hu => by have := (hgd.word u hu).2; omega
 obtain ⟨X, hX⟩ : ∃ X, X = bytesE σ n ad cs lB := ⟨_, rfl⟩
 simp only [envOf]
 refine tR (At.box rfl rfl rfl (fun b1 => (tA rfl rfl (tE (At.seq (tR (tV (Val.field 0 rfl fo_128_0 rfl) rfl (tV (Val.load (i := 0) Tryz.isAgg3 rfl rfl rfl) rfl (tE (At.block (tR (tV (Val.bin rfl rfl rfl) rfl (tA rfl rfl (tE ?_))))))))))))))
 refine At.cond rfl (fun h2 => ?_) (fun h2 => ?_)
 ·try simp only [hasB, isSizeB, sB] at h2
  refine At.seq (At.tail 8 rfl (by decide +kernel) ?_)
  simp only [List.take_succ_cons, List.take_zero, List.drop_succ_cons, List.drop_zero]
  refine qM rfl rfl (qV (Val.nilCheck rfl) rfl (qV (Val.field 0 rfl fo_124_0 rfl) rfl (qV (Val.load (i := 1) Tryz.isAgg51 rfl rfl rfl) rfl (qV (Val.field 1 rfl fo_128_1 rfl) rfl (qV (Val.load (i := 0) Tryz.isAgg3 rfl rfl rfl) rfl (qV (Val.field 3 rfl fo_128_3 rfl) rfl (qV (Val.load (i := 0) Tryz.isAgg43 rfl rfl rfl) rfl (QAt.fin (At.callD 2 rfl (fun w hw hr => store_t _ _ _ ad x w (by omega) hr) Tryz.call87 rfl rfl (fun y3 => ?_))))))))))
  simp only [sc0, scS]
  refine tE (At.tail 8 rfl (by decide +kernel) ?_)
  simp only [List.take_succ_cons, List.take_zero, List.drop_succ_cons, List.drop_zero]
  refine qM rfl rfl (qV (Val.nilCheck rfl) rfl (qV (Val.field 1 rfl fo_124_1 rfl) rfl (qV (Val.load (i := 1) Tryz.isAgg122 rfl rfl rfl) rfl (qV (Val.field 1 rfl fo_128_1 rfl) rfl (qV (Val.load (i := 0) Tryz.isAgg3 rfl rfl rfl) rfl (qV (Val.field 3 rfl fo_128_3 rfl) rfl (qV (Val.load (i := 0) Tryz.isAgg43 rfl rfl rfl) rfl (QAt.fin (At.callRP 3 rfl (fun w hw hr => rstore_t _ _ _ σ ad x w hsim (by omega) hr) Tryz.call130 rfl rfl (fun y4 r5 hs6 => ?_))))))))))
  simp only [sc0, scS]
  refine At.nil (At.blkN (At.thenN (tR (tA rfl rfl (tE (At.retC (At.ret1 (.inl rfl) rfl rfl rfl (fun w hw => ?_))))))))
  exact ⟨⟨p, y3, (storeT σ ad x).2, q, y4, r5⟩, rfl, ⟨hs6, Nat.le_trans (goes_store σ ad x).2 (by omega)⟩, Rep.shut3 1 1 1 rfl rfl rfl hw⟩
 ·try simp only [hasB, isSizeB, sB] at h2
  refine tR (tV (Val.bin rfl rfl rfl) rfl (tA rfl rfl (tE ?_)))
  refine At.cond rfl (fun h7 => ?_) (fun h7 => ?_)
  ·try simp only [hasB, isSizeB, sB] at h7
   refine At.seq (At.tail 9 rfl (by decide +kernel) ?_)
   simp only [List.take_succ_cons, List.take_zero, List.drop_succ_cons, List.drop_zero]
   refine qM rfl rfl (qV (Val.nilCheck rfl) rfl (qV (Val.field 0 rfl fo_124_0 rfl) rfl (qV (Val.load (i := 1) Tryz.isAgg51 rfl rfl rfl) rfl (qM rfl rfl (qV (Val.nilCheck rfl) rfl (qV (Val.field 0 rfl fo_124_0 rfl) rfl (qV (Val.load (i := 1) Tryz.isAgg51 rfl rfl rfl) rfl (QAt.callK 2 rfl (fun w hw hr => size_k _ _ _ w hr) Tryz.call81 rfl rfl (QAt.fin (At.callD 2 rfl (fun w hw hr => flushAll_t _ _ _ 0 (8 * (σ.ws.length : Int)) w (by omega) hr) Tryz.call88 rfl rfl (fun y8 => ?_)))))))))))
   simp only [sc0, scS]
   refine tE (tR (tM rfl rfl (tV (Val.nilCheck rfl) rfl (tV (Val.field 0 rfl fo_124_0 rfl) rfl (tV (Val.load (i := 1) Tryz.isAgg51 rfl rfl rfl) rfl ?_)))))
   refine At.callD 2 rfl (fun w hw hr => fence_t _ _ (flushAllT σ 0 (8 * (σ.ws.length : Int))).2 w (by have h9 := (goes_flushAll 0 (8 * (σ.ws.length : Int)) hwl).2; omega) hr) Tryz.call89 rfl rfl (fun y9 => ?_)
   simp only [sc0, scS]
   refine tE (At.seq (At.tail 9 rfl (by decide +kernel) ?_))
   simp only [List.take_succ_cons, List.take_zero, List.drop_succ_cons, List.drop_zero]
   refine qM rfl rfl (qV (Val.nilCheck rfl) rfl (qV (Val.field 1 rfl fo_124_1 rfl) rfl (qV (Val.load (i := 1) Tryz.isAgg122 rfl rfl rfl) rfl (qM rfl rfl (qV (Val.nilCheck rfl) rfl (qV (Val.field 1 rfl fo_124_1 rfl) rfl (qV (Val.load (i := 1) Tryz.isAgg122 rfl rfl rfl) rfl ?_)))))))
   refine QAt.callK 3 rfl (fun w hw hr => (by have h0 := rsize_k _ _ _ w hr; rwa [show 64 * (ρ.ls.length : Int) = (8 * (σ.ws.length : Int)) from by omega] at h0)) Tryz.call132 rfl rfl (QAt.fin (At.callRP 3 rfl (fun w hw hr => rflushAll_t _ _ _ σ 0 (8 * (σ.ws.length : Int)) w hsim (by omega) hwl hr) Tryz.call131 rfl rfl (fun y10 r11 hs12 => ?_)))
   simp only [sc0, scS]
   refine tE (At.region (tM rfl rfl (tV (Val.nilCheck rfl) rfl (tV (Val.field 1 rfl fo_124_1 rfl) rfl (tV (Val.load (i := 1) Tryz.isAgg122 rfl rfl rfl) rfl ?_)))))
   refine At.callRP 3 rfl (fun w hw hr => rfence_t _ _ _ (flushAllT σ 0 (8 * (σ.ws.length : Int))).2 w hs12 (by have h9 := (goes_flushAll 0 (8 * (σ.ws.length : Int)) hwl).2; omega) hr) Tryz.call133 rfl rfl (fun y13 r14 hs15 => ?_)
   simp only [sc0, scS]
   refine At.nil (At.blkN (At.thenN (tR (tA rfl rfl (tE (At.retC (At.ret1 (.inl rfl) rfl rfl rfl (fun w hw => ?_))))))))
   exact ⟨⟨p, y9, (fenceT (flushAllT σ 0 (8 * (σ.ws.length : Int))).2).2, q, y13, r14⟩, rfl, ⟨hs15, (by have h1 := (goes_fence (flushAllT σ 0 (8 * (σ.ws.length : Int))).2).2; have h2 := (goes_flushAll 0 (8 * (σ.ws.length : Int)) hwl).2; exact Nat.le_trans h1 (by omega))⟩, Rep.shut3 1 1 1 rfl rfl rfl hw⟩
  ·try simp only [hasB, isSizeB, sB] at h7
   refine tR (tV (Val.bin rfl rfl rfl) rfl (tA rfl rfl (tE ?_)))
   refine At.cond rfl (fun h16 => ?_) (fun h16 => ?_)
   ·try simp only [hasB, isSizeB, sB] at h16
    refine At.seq (At.tail 6 rfl (by decide +kernel) ?_)
    simp only [List.take_succ_cons, List.take_zero, List.drop_succ_cons, List.drop_zero]
    refine qM rfl rfl (qV (Val.nilCheck rfl) rfl (qV (Val.field 0 rfl fo_124_0 rfl) rfl (qV (Val.load (i := 1) Tryz.isAgg51 rfl rfl rfl) rfl (qV (Val.field 2 rfl fo_128_2 rfl) rfl (qV (Val.load (i := 0) Tryz.isAgg3 rfl rfl rfl) rfl (QAt.fin (At.callD 2 rfl (fun w hw hr => arm_t _ _ _ n w hn hr) Tryz.call44 rfl rfl (fun y17 => ?_))))))))
    simp only [sc0, scS]
    refine tE (At.tail 6 rfl (by decide +kernel) ?_)
    simp only [List.take_succ_cons, List.take_zero, List.drop_succ_cons, List.drop_zero]
    refine qM rfl rfl (qV (Val.nilCheck rfl) rfl (qV (Val.field 1 rfl fo_124_1 rfl) rfl (qV (Val.load (i := 1) Tryz.isAgg122 rfl rfl rfl) rfl (qV (Val.field 2 rfl fo_128_2 rfl) rfl (qV (Val.load (i := 0) Tryz.isAgg3 rfl rfl rfl) rfl (QAt.fin (At.callRP 3 rfl (fun w hw hr => rarm_t _ _ _ σ n w hsim hn hr) Tryz.call134 rfl rfl (fun y18 r19 hs20 => ?_))))))))
    simp only [sc0, scS]
    refine At.nil (At.blkN (At.thenN (tR (tA rfl rfl (tE (At.retC (At.ret1 (.inl rfl) rfl rfl rfl (fun w hw => ?_))))))))
    exact ⟨⟨p, y17, (armT σ n).2, q, y18, r19⟩, rfl, ⟨hs20, Nat.le_trans (goes_arm σ n).2 (by omega)⟩, Rep.shut3 1 1 1 rfl rfl rfl hw⟩
   ·try simp only [hasB, isSizeB, sB] at h16
    refine tR (tV (Val.bin rfl rfl rfl) rfl (tA rfl rfl (tE ?_)))
    refine At.cond rfl (fun h21 => ?_) (fun h21 => ?_)
    ·try simp only [hasB, isSizeB, sB] at h21
     refine At.seq (At.tail 6 rfl (by decide +kernel) ?_)
     simp only [List.take_succ_cons, List.take_zero, List.drop_succ_cons, List.drop_zero]
     refine qM rfl rfl (qV (Val.nilCheck rfl) rfl (qV (Val.field 1 rfl fo_124_1 rfl) rfl (qV (Val.load (i := 1) Tryz.isAgg122 rfl rfl rfl) rfl (qV (Val.field 9 rfl fo_128_6 rfl) rfl (qV (Val.load (i := 0) Tryz.isAgg63 rfl rfl rfl) rfl (QAt.fin (At.callRK 3 rfl (fun w hw hr => rcrash_s _ _ _ σ vL cs w hsim hwl hnw (hvL.keep hw hoL) (Rep.offOld hw hvL hoL (List.mem_of_getElem? (i := 3) rfl)) hr) Tryz.call135 rfl rfl (fun v22 => (tA rfl rfl (At.nil ?_))))))))))
     obtain ⟨li, hli⟩ : ∃ li, li = wbytes (picked σ.ws (pkC σ.ws cs)) := ⟨_, rfl⟩
     rw [← hli]
     refine At.thenN (At.seq (tR (tV (Val.field 2 rfl fo_128_2 rfl) rfl (tV (Val.load (i := 1) Tryz.isAgg3 rfl rfl rfl) rfl (tV (Val.rem rfl rfl (by decide)) rfl (tV (Val.bin rfl rfl rfl) rfl (tM rfl rfl ?_)))))))
     refine At.split (t := 93) rfl (fun h23 => ?_) (fun h23 => ?_)
     ·try simp only [hasB, isSizeB, sB] at h23
      refine At.yes rfl rfl (tV (Val.field 2 rfl fo_128_2 rfl) rfl (At.yes rfl rfl (tV (Val.load (i := 1) Tryz.isAgg3 rfl rfl rfl) rfl (At.yes rfl rfl (tV (Val.rem rfl rfl (by decide)) rfl (At.yes rfl rfl (tV (Val.bin rfl rfl rfl) rfl (tV (Val.pickT rfl rfl) rfl (tE ?_)))))))))
      refine At.cond rfl (fun h24 => ?_) (fun h24 => ?_)
      ·try simp only [hasB, isSizeB, sB] at h24
       refine At.region (tM rfl rfl (tV (Val.loadAll (i := 1) Tryz.isAgg128 Tryz.sizeOf128 rfl rfl rfl) rfl (At.bring 4 rfl ?_)))
       simp only [ec0, ecS]
       refine At.bring 4 rfl ?_
       simp only [ec0, ecS]
       refine At.bring 4 rfl ?_
       simp only [ec0, ecS]
       refine At.callRKS [blk b 124 ([.pointer (some ⟨p, 0, none⟩), .pointer (some ⟨q, 0, none⟩)]), Dev p γ (σ), RDev q δ (ρ)] rfl (fun w hw hr => bytesJ_k b p q γ δ σ ρ kd ad n sp si sc sd x vC vL vB C cs lB w hsim (hvL.keep hw hoL) (Rep.offOld hw.shutS hvL hoL (List.mem_cons_self ..)) (hvB.keep hw hoB) (Rep.offOld hw.shutS hvB hoB (List.mem_cons_self ..)) hbl (by omega) hr) Tryz.call126 rfl rfl (fun v25 => ?_)
       rw [← hX]
       refine tA rfl rfl (tE (tR (tM rfl rfl ?_)))
       cases hsz : isSizeB (X.length : Int)
       ·refine At.callP (fun w hw => rload_no _ X w (row_rd (hw.row (i := 0) rfl) (by decide)) hsz) Tryz.call96 rfl rfl (tM rfl rfl (tV (Val.extract rfl rfl) rfl (tV (Val.extract rfl rfl) rfl (tA rfl rfl (tA rfl rfl (tE (At.seq (tR (tM rfl rfl (tV (Val.eqNil (t := 122) (by kernel_rfl) rfl) rfl (tE (At.condT rfl (tR (tA rfl rfl (tE (At.retC (At.thenR (At.blkR (At.thenR (At.ret1 (.inl rfl) rfl rfl rfl (fun w hw => ?_)))))))))))))))))))))
        exact ⟨⟨p, γ, σ, q, δ, ρ⟩, rfl, ⟨hsim, Nat.le_trans (Nat.le_add_right _ _) hK⟩, Rep.shut3 1 1 1 rfl rfl rfl hw⟩
       ·have hszd := hsz
        unfold isSizeB at hszd
        rw [decide_eq_true_eq] at hszd
        obtain ⟨M, hM⟩ : ∃ M : Nat, X.length = 64 * M := ⟨X.length / 64, by omega⟩
        refine At.callNRD (fun w hw => rload_d _ X M w (row_rd (hw.row (i := 0) rfl) (by decide)) hsz hM) Tryz.call96 rfl rfl (fun p26 y27 => (tM rfl rfl (tV (Val.extract rfl rfl) rfl (tV (Val.extract rfl rfl) rfl (tA rfl rfl (tA rfl rfl (tE (At.seq (tR (tM rfl rfl (tV (Val.eqNil (t := 122) (by kernel_rfl) rfl) rfl (tE (At.condF rfl (At.skipC (At.thenN (tR (tM rfl rfl (At.callNP (fun w hw => loadJ_n _ X M w (row_rd (hw.row (i := 1) rfl) (by decide)) hsz hM) Tryz.call59 rfl rfl (fun y28 hy28 => (tM rfl rfl (tV (Val.extract rfl rfl) rfl (tV (Val.extract rfl rfl) rfl (At.alloc Tryz.zeroValue124 rfl rfl (fun b29 => ?_))))))))))))))))))))))))
        refine At.storeAll (i := 0) (vs := jbC y28) Tryz.sizeOf124 rfl rfl rfl (by intro u hu; simp only [jbC, List.mem_cons, List.not_mem_nil, or_false] at hu; rcases hu with rfl | rfl <;> rfl) rfl rfl ?_
        simp only [sc0, scS]
        refine tA rfl rfl (tE (At.seq (tR (tM rfl rfl (tV (Val.not rfl) rfl (tE (At.condF rfl (At.skipC (At.thenN (tR (tM rfl rfl (tV (Val.field 0 rfl fo_124_0 rfl) rfl (tV (Val.load (i := 0) Tryz.isAgg51 rfl rfl rfl) rfl (tV (Val.nilCheck rfl) rfl (tV (Val.field 0 rfl fo_124_0 rfl) rfl (At.store (i := 5) Tryz.sizeOf51 rfl rfl rfl rfl (by simp) ?_))))))))))))))))
        simp only [sc0, scS]
        refine tE (At.region (tM rfl rfl (tV (Val.field 1 rfl fo_124_1 rfl) rfl (tV (Val.load (i := 0) Tryz.isAgg122 rfl rfl rfl) rfl (tV (Val.nilCheck rfl) rfl (tV (Val.field 1 rfl fo_124_1 rfl) rfl (At.store (i := 5) Tryz.sizeOf122 rfl rfl rfl rfl (by simp) ?_)))))))
        simp only [sc0, scS]
        refine At.nil (At.blkN (At.thenN (tR (tA rfl rfl (tE (At.retC (At.ret1 (.inl rfl) rfl rfl rfl (fun w hw => ?_))))))))
        exact ⟨y28, rfl, ⟨hy28.2.2, by rw [hy28.1]; exact Nat.zero_le _⟩, Rep.shut3 5 1 1 rfl rfl rfl hw⟩
      ·try simp only [hasB, isSizeB, sB] at h24
       refine At.skipC (At.thenN (tR (tM rfl rfl ?_)))
       cases hsz : isSizeB (li.length : Int)
       ·refine At.callP (fun w hw => rload_no _ li w (row_rd (hw.row (i := 0) rfl) (by decide)) hsz) Tryz.call96 rfl rfl (tM rfl rfl (tV (Val.extract rfl rfl) rfl (tV (Val.extract rfl rfl) rfl (tA rfl rfl (tA rfl rfl (tE (At.seq (tR (tM rfl rfl (tV (Val.eqNil (t := 122) (by kernel_rfl) rfl) rfl (tE (At.condT rfl (tR (tA rfl rfl (tE (At.retC (At.thenR (At.blkR (At.thenR (At.ret1 (.inl rfl) rfl rfl rfl (fun w hw => ?_)))))))))))))))))))))
        exact ⟨⟨p, γ, σ, q, δ, ρ⟩, rfl, ⟨hsim, Nat.le_trans (Nat.le_add_right _ _) hK⟩, Rep.shut3 2 2 2 rfl rfl rfl hw⟩
       ·have hszd := hsz
        unfold isSizeB at hszd
        rw [decide_eq_true_eq] at hszd
        obtain ⟨M, hM⟩ : ∃ M : Nat, li.length = 64 * M := ⟨li.length / 64, by omega⟩
        refine At.callNRD (fun w hw => rload_d _ li M w (row_rd (hw.row (i := 0) rfl) (by decide)) hsz hM) Tryz.call96 rfl rfl (fun p30 y31 => (tM rfl rfl (tV (Val.extract rfl rfl) rfl (tV (Val.extract rfl rfl) rfl (tA rfl rfl (tA rfl rfl (tE (At.seq (tR (tM rfl rfl (tV (Val.eqNil (t := 122) (by kernel_rfl) rfl) rfl (tE (At.condF rfl (At.skipC (At.thenN (tR (tM rfl rfl (At.callNP (fun w hw => loadJ_n _ li M w (row_rd (hw.row (i := 1) rfl) (by decide)) hsz hM) Tryz.call59 rfl rfl (fun y32 hy32 => (tM rfl rfl (tV (Val.extract rfl rfl) rfl (tV (Val.extract rfl rfl) rfl (At.alloc Tryz.zeroValue124 rfl rfl (fun b33 => ?_))))))))))))))))))))))))
        refine At.storeAll (i := 0) (vs := jbC y32) Tryz.sizeOf124 rfl rfl rfl (by intro u hu; simp only [jbC, List.mem_cons, List.not_mem_nil, or_false] at hu; rcases hu with rfl | rfl <;> rfl) rfl rfl ?_
        simp only [sc0, scS]
        refine tA rfl rfl (tE (At.seq (tR (tM rfl rfl (tV (Val.not rfl) rfl (tE (At.condF rfl (At.skipC (At.thenN (tR (tM rfl rfl (tV (Val.field 0 rfl fo_124_0 rfl) rfl (tV (Val.load (i := 0) Tryz.isAgg51 rfl rfl rfl) rfl (tV (Val.nilCheck rfl) rfl (tV (Val.field 0 rfl fo_124_0 rfl) rfl (At.store (i := 6) Tryz.sizeOf51 rfl rfl rfl rfl (by simp) ?_))))))))))))))))
        simp only [sc0, scS]
        refine tE (At.region (tM rfl rfl (tV (Val.field 1 rfl fo_124_1 rfl) rfl (tV (Val.load (i := 0) Tryz.isAgg122 rfl rfl rfl) rfl (tV (Val.nilCheck rfl) rfl (tV (Val.field 1 rfl fo_124_1 rfl) rfl (At.store (i := 6) Tryz.sizeOf122 rfl rfl rfl rfl (by simp) ?_)))))))
        simp only [sc0, scS]
        refine At.nil (At.blkN (At.thenN (tR (tA rfl rfl (tE (At.retC (At.ret1 (.inl rfl) rfl rfl rfl (fun w hw => ?_))))))))
        exact ⟨y32, rfl, ⟨hy32.2.2, by rw [hy32.1]; exact Nat.zero_le _⟩, Rep.shut3 6 1 1 rfl rfl rfl hw⟩
     ·try simp only [hasB, isSizeB, sB] at h23
      refine At.no rfl rfl rfl rfl (At.no rfl rfl rfl rfl (At.no rfl rfl rfl rfl (At.no rfl rfl rfl rfl (tV (Val.pickF rfl rfl) rfl (tE (At.condF rfl (At.skipC (At.thenN (tR (tM rfl rfl ?_))))))))))
      cases hsz : isSizeB (li.length : Int)
      ·refine At.callP (fun w hw => rload_no _ li w (row_rd (hw.row (i := 0) rfl) (by decide)) hsz) Tryz.call96 rfl rfl (tM rfl rfl (tV (Val.extract rfl rfl) rfl (tV (Val.extract rfl rfl) rfl (tA rfl rfl (tA rfl rfl (tE (At.seq (tR (tM rfl rfl (tV (Val.eqNil (t := 122) (by kernel_rfl) rfl) rfl (tE (At.condT rfl (tR (tA rfl rfl (tE (At.retC (At.thenR (At.blkR (At.thenR (At.ret1 (.inl rfl) rfl rfl rfl (fun w hw => ?_)))))))))))))))))))))
       exact ⟨⟨p, γ, σ, q, δ, ρ⟩, rfl, ⟨hsim, Nat.le_trans (Nat.le_add_right _ _) hK⟩, Rep.shut3 2 2 2 rfl rfl rfl hw⟩
      ·have hszd := hsz
       unfold isSizeB at hszd
       rw [decide_eq_true_eq] at hszd
       obtain ⟨M, hM⟩ : ∃ M : Nat, li.length = 64 * M := ⟨li.length / 64, by omega⟩
       refine At.callNRD (fun w hw => rload_d _ li M w (row_rd (hw.row (i := 0) rfl) (by decide)) hsz hM) Tryz.call96 rfl rfl (fun p34 y35 => (tM rfl rfl (tV (Val.extract rfl rfl) rfl (tV (Val.extract rfl rfl) rfl (tA rfl rfl (tA rfl rfl (tE (At.seq (tR (tM rfl rfl (tV (Val.eqNil (t := 122) (by kernel_rfl) rfl) rfl (tE (At.condF rfl (At.skipC (At.thenN (tR (tM rfl rfl (At.callNP (fun w hw => loadJ_n _ li M w (row_rd (hw.row (i := 1) rfl) (by decide)) hsz hM) Tryz.call59 rfl rfl (fun y36 hy36 => (tM rfl rfl (tV (Val.extract rfl rfl) rfl (tV (Val.extract rfl rfl) rfl (At.alloc Tryz.zeroValue124 rfl rfl (fun b37 => ?_))))))))))))))))))))))))
       refine At.storeAll (i := 0) (vs := jbC y36) Tryz.sizeOf124 rfl rfl rfl (by intro u hu; simp only [jbC, List.mem_cons, List.not_mem_nil, or_false] at hu; rcases hu with rfl | rfl <;> rfl) rfl rfl ?_
       simp only [sc0, scS]
       refine tA rfl rfl (tE (At.seq (tR (tM rfl rfl (tV (Val.not rfl) rfl (tE (At.condF rfl (At.skipC (At.thenN (tR (tM rfl rfl (tV (Val.field 0 rfl fo_124_0 rfl) rfl (tV (Val.load (i := 0) Tryz.isAgg51 rfl rfl rfl) rfl (tV (Val.nilCheck rfl) rfl (tV (Val.field 0 rfl fo_124_0 rfl) rfl (At.store (i := 6) Tryz.sizeOf51 rfl rfl rfl rfl (by simp) ?_))))))))))))))))
       simp only [sc0, scS]
       refine tE (At.region (tM rfl rfl (tV (Val.field 1 rfl fo_124_1 rfl) rfl (tV (Val.load (i := 0) Tryz.isAgg122 rfl rfl rfl) rfl (tV (Val.nilCheck rfl) rfl (tV (Val.field 1 rfl fo_124_1 rfl) rfl (At.store (i := 6) Tryz.sizeOf122 rfl rfl rfl rfl (by simp) ?_)))))))
       simp only [sc0, scS]
       refine At.nil (At.blkN (At.thenN (tR (tA rfl rfl (tE (At.retC (At.ret1 (.inl rfl) rfl rfl rfl (fun w hw => ?_))))))))
       exact ⟨y36, rfl, ⟨hy36.2.2, by rw [hy36.1]; exact Nat.zero_le _⟩, Rep.shut3 6 1 1 rfl rfl rfl hw⟩
    ·try simp only [hasB, isSizeB, sB] at h21
     refine At.skipC (At.blkN (At.thenN (tR (tA rfl rfl (tE (At.retC (At.ret1 (.inl rfl) rfl rfl rfl (fun w hw => ?_))))))))
     exact ⟨⟨p, γ, σ, q, δ, ρ⟩, rfl, ⟨hsim, Nat.le_trans (Nat.le_add_right _ _) hK⟩, Rep.shut3 1 1 1 rfl rfl rfl hw⟩
end Go.Proofs.YtfchinibjhcejaaGreatDoor
namespace Go.Proofs.YtfchinibjhcejaaGreatDoor
open Go Go.Wk
open Go.ChangeShapes Go.WideShapes Go.ChangeAt Go.RowKit
section
variable {H : Type} {enc : TypeId × Value → H} {P : Program} {W : World} {r : Reach} {base b0 : Nat} {held : Bool}
theorem all_of {p : Nat → Bool} {e : TypeId} : ∀ {ds : List (DataW H)} {i : Nat} {d : DataW H}, (DataW.weightsAll P e ds).all p = true → ds[i]? = some d → (DataW.weights P e d).all p = true
  | d' :: ds, 0, d, h, hd => by
    simp only [DataW.weightsAll, List.all_append, Bool.and_eq_true] at h
    obtain rfl : d' = d := by simpa using hd
    exact h.1
  | d' :: ds, i + 1, d, h, hd => by
    simp only [DataW.weightsAll, List.all_append, Bool.and_eq_true] at h
    exact all_of h.2 (by simpa using hd)
  | [], i, d, h, hd => by simp at hd
def Fl (enc : TypeId × Value → H) (P : Program) (W : World) (b0 : Nat) (held : Bool) (t : TypeId) (c : Value) : Prop :=
  ∃ fuel x, DataW.trod enc P W b0 (fun _ => true) held fuel t [c] = some x ∧ (DataW.weights P t x.1).all (· ≤ reachBytes) = true
theorem Fl.int {t : TypeId} {c : Value} (u : P.underlying t = some (.int .i64)) (h : Fl enc P W b0 held t c) : ∃ n, c = .int .i64 n ∧ Fits n := by
  obtain ⟨fuel, x, hf, _⟩ := h
  obtain ⟨n, g, _, w⟩ := DataW.trod_int u hf
  exact ⟨n, by simpa using g, has64 (by simpa [Lit.wf, IntKind.has] using w)⟩
theorem Fl.word {t : TypeId} {c : Value} (u : P.underlying t = some (.int .u64)) (h : Fl enc P W b0 held t c) : ∃ x, c = b64 x := by
  obtain ⟨fuel, x, hf, _⟩ := h
  obtain ⟨n, g, _, w⟩ := DataW.trod_int u hf
  obtain ⟨x, rfl⟩ := hasU64 (n := n) (by simpa [Lit.wf, IntKind.has] using w)
  exact ⟨x, by simpa using g⟩
theorem Fl.nums {t e : TypeId} {k : IntKind} {c : Value} (hu : P.underlying t = some (.slice e)) (he : P.underlying e = some (.int k)) (hc : P.cellsOf e = 1) (h : Fl enc P W b0 held t c) :
    ∃ zs : List Int, Rd W c 1 zs.length (zs.map (Value.int k)) ∧ zs.length * P.bytesOf e ≤ reachBytes ∧ ∀ z ∈ zs, (Lit.int k z).wf = true := by
  obtain ⟨fuel, x, hf, hw⟩ := h
  rcases open_ints hu he hc hf with ⟨h0, _⟩ | ⟨a, len, cap, zs, h0, _, hl, _, hz, hx, hcell, hwf⟩
  · obtain rfl : c = .slice none 0 0 := by simpa using h0
    exact ⟨[], Rd.nil W 1, by simp, by simp⟩
  · obtain rfl : c = .slice (some a) len cap := by simpa using h0
    simp only [if_true] at hz
    have hxe : x.1 = _ := congrArg Prod.fst hx
    have hdw : zs.length * P.bytesOf e ≤ reachBytes := by
      have hall := List.all_eq_true.1 hw
      rw [hxe] at hall
      unfold DataW.weights at hall
      rw [hu] at hall
      have := hall _ (List.mem_cons_self ..)
      simp only [decide_eq_true_eq, lits, List.length_map] at this
      rw [← List.length_append, List.take_append_drop] at this
      exact this
    have hln : (zs.take len).length = len := by rw [List.length_take]; omega
    have hsp : ∀ j, j < zs.length → a.spot = none := fun j hj => by
      have := World.cell?_spot (hcell 0 (by omega))
      simpa [Addr.add] using this
    refine ⟨zs.take len, ⟨some a, cap, by rw [hln], fun j u hj => ?_, by rw [List.length_map, Nat.mul_one], by omega, (fun h => by cases h), (fun hc0 a' ha => by cases ha; exact hsp 0 (by omega))⟩, Nat.le_trans (Nat.mul_le_mul_right _ (by omega)) hdw, fun z hm => hwf z (List.mem_of_mem_take hm)⟩
    rw [List.getElem?_map, List.getElem?_take] at hj
    split at hj
    · rename_i hlt
      have hjl : j < zs.length := by omega
      have hs := hsp j hjl
      obtain ⟨b, o, s⟩ := a
      have hs' : s = none := hs
      subst hs'
      refine ⟨b, o, rfl, ?_⟩
      have h1 := hcell j hjl
      rw [Addr.add_off] at h1
      rw [h1, ← hj, List.getElem?_eq_getElem hjl]
      simp [List.getD, hjl]
    · cases hj
theorem Fl.ints {t e : TypeId} {c : Value} (hu : P.underlying t = some (.slice e)) (he : P.underlying e = some (.int .i64)) (hc : P.cellsOf e = 1) (hby : P.bytesOf e = 8) (h : Fl enc P W b0 held t c) :
    ∃ L : List Int, RdI W c L ∧ L.length ≤ 17592186044416 := by
  obtain ⟨zs, h1, h2, _⟩ := Fl.nums hu he hc h
  rw [hby] at h2
  unfold reachBytes at h2
  exact ⟨zs, h1, by omega⟩
theorem Fl.bytes {t e : TypeId} {c : Value} (hu : P.underlying t = some (.slice e)) (he : P.underlying e = some (.int .u8)) (hc : P.cellsOf e = 1) (hby : P.bytesOf e = 1) (h : Fl enc P W b0 held t c) :
    ∃ L : List UInt8, RdB W c L ∧ L.length ≤ 140737488355328 := by
  obtain ⟨zs, h1, h2, h3⟩ := Fl.nums hu he hc h
  rw [hby] at h2
  unfold reachBytes at h2
  have he : zs.map (Value.int .u8) = (zs.map (fun z => UInt8.ofNat z.toNat)).map bv := by
    rw [List.map_map]
    refine List.map_congr_left fun z hz => ?_
    obtain ⟨q, rfl⟩ := hasU8 (n := z) (by simpa [Lit.wf, IntKind.has] using h3 z hz)
    simp [bv]
  refine ⟨zs.map (fun z => UInt8.ofNat z.toNat), ?_, by rw [List.length_map]; omega⟩
  unfold RdB
  rw [List.length_map, ← he]
  exact h1
theorem elems_of {t e : TypeId} {v : Value} {fuel n : Nat} {x : DataW H × List MemPlace} (hu : P.underlying t = some (.slice e)) (hc : P.cellsOf e = n)
    (hf : DataW.trod enc P W b0 (fun _ => true) held fuel t [v] = some x) (hw : (DataW.weights P t x.1).all (· ≤ reachBytes) = true) :
    v = .slice none 0 0 ∨ ∃ a len cap, v = .slice (some a) len cap ∧ len ≤ cap ∧ len * P.bytesOf e ≤ reachBytes ∧ ∀ i, i < len → ∃ cs fuel y, cs.length = n ∧ (∀ j, j < n → W.cell? ((a.add (i * n)).add j) = cs[j]?) ∧ DataW.trod enc P W b0 (fun _ => true) held fuel e cs = some y ∧ (DataW.weights P e y.1).all (· ≤ reachBytes) = true := by
  rcases DataW.trod_slice hu hf with ⟨h0, _⟩ | ⟨a, len, cap, elems, rest, m, _, h0, rfl, hb, hl, hm, hlen, hel, hsp, hns⟩
  · left; simpa using h0
  · right
    refine ⟨a, len, cap, by simpa using h0, hl, ?_, fun i hi => ?_⟩
    · have hall := List.all_eq_true.1 hw
      unfold DataW.weights at hall
      rw [hu] at hall
      have := hall _ (List.mem_cons_self ..)
      simp only [decide_eq_true_eq, List.length_map, hlen] at this
      exact Nat.le_trans (Nat.mul_le_mul_right _ (Nat.le_add_right _ _)) this
    · have h1 := hel i hi
      rw [hc, List.getElem?_eq_getElem (by omega), Option.bind_eq_some_iff] at h1
      obtain ⟨cs, h2, h3⟩ := h1
      have h4 := World.cells?_some h2
      refine ⟨cs, m, _, h4.2.1, h4.2.2, h3, ?_⟩
      · unfold DataW.weights at hw
        rw [hu] at hw
        simp only [List.all_cons, List.all_append, Bool.and_eq_true] at hw
        exact all_of (i := i) hw.2.1 (by rw [List.getElem?_map, List.getElem?_eq_getElem (show i < elems.length by omega)]; rfl)
end
structure OpT where
  kd : Int
  ad : Int
  n : Int
  x : BitVec 64
  sp : Int
  si : Int
  sc : Int
  sd : Int
  vC : Value
  C : List (Int × BitVec 64)
  vL : Value
  cs : List Int
  vB : Value
  lB : List UInt8
def opC (o : OpT) : List Value := [.int .i64 o.kd, .int .i64 o.ad, .int .i64 o.n, b64 o.x, .int .i64 o.sp, .int .i64 o.si, .int .i64 o.sc, .int .i64 o.sd, o.vC, o.vL, o.vB]
def oC (L : List OpT) : List Value := L.flatMap opC
theorem oC_length (L : List OpT) : (oC L).length = L.length * 11 := by induction L with
  | nil => rfl
  | cons c a ih => simp only [oC, List.flatMap_cons, List.length_append, List.length_cons] at *; rw [ih]; simp [opC]; omega
theorem oC_at : ∀ {L : List OpT} {j i : Nat} {o : OpT} {u : Value}, L[j]? = some o → (opC o)[i]? = some u → (oC L)[j * 11 + i]? = some u
  | d :: L, 0, i, o, u, h, hu => by
    obtain rfl : d = o := by simpa using h
    have hi : i < 11 := (List.getElem?_eq_some_iff.1 hu).1
    show (opC d ++ oC L)[0 * 11 + i]? = some u
    rw [Nat.zero_mul, Nat.zero_add, List.getElem?_append_left hi]; exact hu
  | d :: L, j + 1, i, o, u, h, hu => by
    have := oC_at (L := L) (j := j) (by simpa using h) hu
    show (opC d ++ oC L)[(j + 1) * 11 + i]? = some u
    rw [List.getElem?_append_right (by show 11 ≤ _; omega), show (opC d).length = 11 from rfl, show (j + 1) * 11 + i - 11 = j * 11 + i by omega]; exact this
def In64 (L : List (Int × BitVec 64)) : Prop := ∀ q ∈ L, -9223372036854775808 ≤ q.1 ∧ q.1 ≤ 9223372036854775807
structure OpOk (w : World) (o : OpT) : Prop where
  c : RdP w o.vC o.C
  l : RdI w o.vL o.cs
  b : RdB w o.vB o.lB
  cb : In64 o.C
  cl : o.C.length ≤ 8796093022208
  ll : o.cs.length ≤ 17592186044416
  bl : o.lB.length ≤ 140737488355328
  n : -9223372036854775808 ≤ o.n ∧ o.n ≤ 9223372036854775807
  a : -9223372036854775808 ≤ o.ad ∧ o.ad ≤ 9223372036854775807
  p : -9223372036854775808 ≤ o.sp ∧ o.sp ≤ 9223372036854775807
def RdO (w : World) (v : Value) (L : List OpT) : Prop := Rd w v 11 L.length (oC L) ∧ ∀ o ∈ L, OpOk w o
theorem OpOk.mod {w w' : World} {o : OpT} (h : OpOk w o) (hm : Mod (fun _ => False) w w') : OpOk w' o := by obtain ⟨a, b, c, d, e, f, g, i, j, k⟩ := h; exact ⟨a.mod hm, b.mod hm, c.mod hm, d, e, f, g, i, j, k⟩
theorem RdO.mod {w w' : World} {v : Value} {L : List OpT} (h : RdO w v L) (hm : Mod (fun _ => False) w w') : RdO w' v L := ⟨h.1.mod hm, fun o ho => (h.2 o ho).mod hm⟩
theorem rd_one1 {w : World} {v : Value} {sz n : Nat} {xs : List Value} (h : Rd w v sz n xs) : v.oneCell' = true := by obtain ⟨A, c, rfl, _⟩ := h; cases A <;> rfl
section
variable {H : Type} {enc : TypeId × Value → H} {P : Program} {W : World} {base b0 : Nat} {held : Bool}
def FlL (enc : TypeId × Value → H) (P : Program) (W : World) (b0 : Nat) (held : Bool) (t : TypeId) (cs : List Value) : Prop :=
  ∃ fuel x, DataW.trod enc P W b0 (fun _ => true) held fuel t cs = some x ∧ (DataW.weights P t x.1).all (· ≤ reachBytes) = true
theorem flL_field {t u : TypeId} {fs : Array Field} {cs : List Value} {i o n : Nat} {f : Field} (ht : P.underlying t = some (.struct fs)) (h : FlL enc P W b0 held t cs) (hfi : fs[i]? = some f) (ho : f.offset = o) (hu : f.type = u) (hn : P.cellsOf u = n) : FlL enc P W b0 held u ((cs.drop o).take n) := by
  obtain ⟨fuel, x, hf, hw⟩ := h
  obtain ⟨xs, m, rfl, hx, _, hsz, hfl⟩ := DataW.trod_struct ht hf
  have h1 := hfl i f hfi
  rw [ho, hu, hn] at h1
  have hil : i < fs.size := (Array.getElem?_eq_some_iff.1 hfi).1
  have hxl : i < xs.length := by rw [hsz]; exact hil
  rw [List.getElem?_eq_getElem hxl] at h1
  refine ⟨m, _, h1, ?_⟩
  have hxe : x.1 = _ := congrArg Prod.fst hx
  rw [hxe] at hw
  unfold DataW.weights at hw
  rw [ht] at hw
  refine each_of hw (i := i) ?_ (by rw [List.getElem?_map, List.getElem?_eq_getElem hxl]; rfl)
  rw [List.getElem?_map, Array.getElem?_toList, hfi]
  exact congrArg some hu
theorem slice_spot {t e : TypeId} {fuel n len cap : Nat} {a : Addr} {x : DataW H × List MemPlace} (hu : P.underlying t = some (.slice e)) (hc : P.cellsOf e = n) (hn : 0 < n) (hf : DataW.trod enc P W b0 (fun _ => true) held fuel t [.slice (some a) len cap] = some x) (h0 : 0 < cap) : a.spot = none := by
  rcases DataW.trod_slice hu hf with ⟨h, _⟩ | ⟨a', len', cap', elems, rest, m, _, h1, rfl, hb, hl, hm, hlen, hel, hsp, hns⟩
  · simp at h
  · simp only [List.cons.injEq, Value.slice.injEq, Option.some.injEq, and_true] at h1
    obtain ⟨rfl, rfl, rfl⟩ := h1
    have key : ∀ y, (W.cells? b0 (a.add (0 * P.cellsOf e)) (P.cellsOf e)).bind (DataW.trod enc P W b0 (fun _ => true) held m e) = some y → a.spot = none := fun y hy => by
      rw [hc, Option.bind_eq_some_iff] at hy
      obtain ⟨cs, h2, _⟩ := hy
      have h4 := World.cells?_some h2
      have h5 := h4.2.2 0 hn
      rw [List.getElem?_eq_getElem (by rw [h4.2.1]; exact hn)] at h5
      have := World.cell?_spot h5
      simpa [Addr.add] using this
    rcases Nat.eq_zero_or_pos len with h | h
    · obtain ⟨g1, g2⟩ := hsp rfl
      have g3 := g2 0 (by omega)
      obtain ⟨y, hy⟩ : ∃ y, rest[0]? = some y := ⟨_, List.getElem?_eq_getElem (by omega)⟩
      rw [hy, h, Nat.zero_add] at g3
      exact key _ g3
    · have g3 := hel 0 h
      rw [List.getElem?_eq_getElem (by omega)] at g3
      exact key _ g3
end
section
variable {H : Type} {enc : TypeId × Value → H} {P : Program} {W : World} {base b0 : Nat} {held : Bool}
theorem Fl.pairs {t e ti tu : TypeId} {fs : Array Field} {f0 f1 : Field} {c : Value} (hu : P.underlying t = some (.slice e)) (he : P.underlying e = some (.struct fs)) (hc : P.cellsOf e = 2) (hby : P.bytesOf e = 16)
    (hf0 : fs[0]? = some f0) (hf1 : fs[1]? = some f1) (o0 : f0.offset = 0) (o1 : f1.offset = 1) (t0 : f0.type = ti) (t1 : f1.type = tu) (ui : P.underlying ti = some (.int .i64)) (uu : P.underlying tu = some (.int .u64)) (ci : P.cellsOf ti = 1) (cu : P.cellsOf tu = 1) (h : Fl enc P W b0 held t c) :
    ∃ L : List (Int × BitVec 64), RdP W c L ∧ L.length ≤ 8796093022208 ∧ In64 L := by
  obtain ⟨fuel, x, hf, hw⟩ := h
  rcases elems_of (n := 2) hu hc hf hw with rfl | ⟨a, len, cap, rfl, hlc, hb, hel⟩
  · exact ⟨[], Rd.nil W 2, by simp, fun q hq => by cases hq⟩
  · rw [hby] at hb
    unfold reachBytes at hb
    obtain ⟨L, hLl, hL⟩ := choose_list' (Q := fun j (z : Int × BitVec 64) => W.cell? ((a.add (j * 2)).add 0) = some (.int .i64 z.1) ∧ W.cell? ((a.add (j * 2)).add 1) = some (b64 z.2) ∧ (-9223372036854775808 ≤ z.1 ∧ z.1 ≤ 9223372036854775807)) len (fun j hj => by
      obtain ⟨cs, fu, y, h1, h2, h3, h4⟩ := hel j hj
      obtain ⟨c0, c1, rfl⟩ : ∃ c0 c1, cs = [c0, c1] := by match cs, h1 with | [c0, c1], _ => exact ⟨c0, c1, rfl⟩
      obtain ⟨n0, rfl, hn0⟩ := Fl.int ui (flL_field he ⟨fu, y, h3, h4⟩ hf0 o0 t0 ci)
      obtain ⟨n1, rfl⟩ := Fl.word uu (flL_field he ⟨fu, y, h3, h4⟩ hf1 o1 t1 cu)
      exact ⟨(n0, n1), h2 0 (by decide), h2 1 (by decide), hn0⟩)
    subst hLl
    have hsp : 0 < cap → a.spot = none := slice_spot hu hc (by decide) hf
    refine ⟨L, ⟨some a, cap, rfl, fun j u hj => ?_, prC_length L, hlc, (fun h => by cases h), (fun hc0 a' ha => by cases ha; exact hsp hc0)⟩, by omega, fun q hq => by obtain ⟨i, hi⟩ := List.getElem?_of_mem hq; exact (hL i q hi).2.2⟩
    have hjl : j < L.length * 2 := by rw [← prC_length L]; exact (List.getElem?_eq_some_iff.1 hj).1
    have hq : L[j / 2]? = some (L[j / 2]'(by omega)) := List.getElem?_eq_getElem _
    have hz := hL (j / 2) _ hq
    have hp := prC_at hq
    have hs := hsp (by omega)
    obtain ⟨b, o, s⟩ := a
    have hs' : s = none := hs
    subst hs'
    refine ⟨b, o, rfl, ?_⟩
    rcases Nat.mod_two_eq_zero_or_one j with hm | hm
    · have e : j / 2 * 2 = j := by omega
      rw [e] at hp hz
      rw [hj] at hp
      rw [Option.some.inj hp.1]
      have := hz.1
      rwa [Addr.add_off, Addr.add_off, Nat.add_zero] at this
    · have e : j / 2 * 2 + 1 = j := by omega
      rw [e] at hp
      rw [hj] at hp
      rw [Option.some.inj hp.2]
      have := hz.2.1
      rwa [Addr.add_off, Addr.add_off, Nat.add_assoc, e] at this
end
theorem oC_split : ∀ {L : List OpT} {j : Nat} {u : Value}, (oC L)[j]? = some u → ∃ i k o, L[i]? = some o ∧ j = i * 11 + k ∧ k < 11 ∧ (opC o)[k]? = some u
  | [], j, u, h => by simp [oC] at h
  | c :: L, j, u, h => by
    have hh : (opC c ++ oC L)[j]? = some u := h
    rcases Nat.lt_or_ge j 11 with hj | hj
    · rw [List.getElem?_append_left (by exact hj)] at hh
      exact ⟨0, j, c, rfl, by omega, hj, hh⟩
    · rw [List.getElem?_append_right (by exact hj)] at hh
      obtain ⟨i, k, o, h1, h2, h3, h4⟩ := oC_split hh
      exact ⟨i + 1, k, o, by simpa using h1, by have : (opC c).length = 11 := rfl; omega, h3, h4⟩
section
variable {H : Type} {enc : TypeId × Value → H} {W : World} {base b0 : Nat} {held : Bool}
theorem fl_pairs_c {c : Value} (h : Fl enc Tryz.prog W b0 held 24 c) : ∃ L : List (Int × BitVec 64), RdP W c L ∧ L.length ≤ 8796093022208 ∧ In64 L :=
  Fl.pairs (ti := 3) (tu := 43) Tryz.underlying24 Tryz.underlying56 (by kernel_rfl) (by kernel_rfl) rfl rfl rfl rfl rfl rfl Tryz.underlying3 Tryz.underlying43 (by kernel_rfl) (by kernel_rfl) h
set_option maxRecDepth 100000 in
theorem op_elem {cs : List Value} {fuel : Nat} {y : DataW H × List MemPlace} (hl : cs.length = 11) (hf : DataW.trod enc Tryz.prog W b0 (fun _ => true) held fuel 128 cs = some y) (hw : (DataW.weights Tryz.prog 128 y.1).all (· ≤ reachBytes) = true) :
    ∃ o : OpT, OpOk W o ∧ cs = opC o := by
  obtain ⟨c0, c1, c2, c3, c4, c5, c6, c7, c8, c9, c10, rfl⟩ : ∃ c0 c1 c2 c3 c4 c5 c6 c7 c8 c9 c10, cs = [c0, c1, c2, c3, c4, c5, c6, c7, c8, c9, c10] := by
    match cs, hl with
    | [c0, c1, c2, c3, c4, c5, c6, c7, c8, c9, c10], _ => exact ⟨c0, c1, c2, c3, c4, c5, c6, c7, c8, c9, c10, rfl⟩
  have hr : FlL enc Tryz.prog W b0 held 128 [c0, c1, c2, c3, c4, c5, c6, c7, c8, c9, c10] := ⟨fuel, y, hf, hw⟩
  have U := Tryz.underlying128
  obtain ⟨kd, rfl, _⟩ := Fl.int Tryz.underlying3 (flL_field (i := 0) (o := 0) (n := 1) (u := 3) U hr rfl rfl rfl (by kernel_rfl))
  obtain ⟨ad, rfl, ha⟩ := Fl.int Tryz.underlying3 (flL_field (i := 1) (o := 1) (n := 1) (u := 3) U hr rfl rfl rfl (by kernel_rfl))
  obtain ⟨n, rfl, hn⟩ := Fl.int Tryz.underlying3 (flL_field (i := 2) (o := 2) (n := 1) (u := 3) U hr rfl rfl rfl (by kernel_rfl))
  obtain ⟨x, rfl⟩ := Fl.word Tryz.underlying43 (flL_field (i := 3) (o := 3) (n := 1) (u := 43) U hr rfl rfl rfl (by kernel_rfl))
  have hs := flL_field (i := 4) (o := 4) (n := 4) (u := 31) U hr rfl rfl rfl (by kernel_rfl)
  have V := Tryz.underlying31
  obtain ⟨sp, rfl, hp⟩ := Fl.int Tryz.underlying3 (flL_field (i := 0) (o := 0) (n := 1) (u := 3) V hs rfl rfl rfl (by kernel_rfl))
  obtain ⟨si, rfl, _⟩ := Fl.int Tryz.underlying3 (flL_field (i := 1) (o := 1) (n := 1) (u := 3) V hs rfl rfl rfl (by kernel_rfl))
  obtain ⟨sc, rfl, _⟩ := Fl.int Tryz.underlying3 (flL_field (i := 2) (o := 2) (n := 1) (u := 3) V hs rfl rfl rfl (by kernel_rfl))
  obtain ⟨sd, rfl, _⟩ := Fl.int Tryz.underlying3 (flL_field (i := 3) (o := 3) (n := 1) (u := 3) V hs rfl rfl rfl (by kernel_rfl))
  obtain ⟨lC, hC, hCl, hCb⟩ := fl_pairs_c (flL_field (i := 5) (o := 8) (n := 1) (u := 24) U hr rfl rfl rfl (by kernel_rfl))
  obtain ⟨lI, hI, hIl⟩ := Fl.ints Tryz.underlying63 Tryz.underlying3 (by kernel_rfl) (by kernel_rfl) (flL_field (i := 6) (o := 9) (n := 1) (u := 63) U hr rfl rfl rfl (by kernel_rfl))
  obtain ⟨lB, hB, hBl⟩ := Fl.bytes Tryz.underlying29 Tryz.underlying5 (by kernel_rfl) (by kernel_rfl) (flL_field (i := 7) (o := 10) (n := 1) (u := 29) U hr rfl rfl rfl (by kernel_rfl))
  exact ⟨⟨kd, ad, n, x, sp, si, sc, sd, c8, lC, c9, lI, c10, lB⟩, ⟨hC, hI, hB, hCb, hCl, hIl, hBl, hn, ha, hp⟩, rfl⟩
set_option maxRecDepth 100000 in
theorem arg_opts {r : Reach} {v : Value} {d : DataW H} {ps : List MemPlace} (h : Value.okWide Tryz.prog W r base 72 v) (hd : DataW.Trod enc Tryz.prog W b0 (fun _ => true) held 72 v d ps) (hw : (DataW.weights Tryz.prog 72 d).all (· ≤ reachBytes) = true) :
    ∃ L : List OpT, RdO W v L ∧ L.length ≤ 140737488355328 := by
  obtain ⟨fuel, hf⟩ := hd
  have hok := arg_slice Tryz.underlying72 h
  have hv : v.cells.toList = [v] := by rcases hok with rfl | ⟨_, _, _, _, rfl, _⟩ <;> rfl
  rw [hv] at hf
  rcases elems_of (n := 11) Tryz.underlying72 (by kernel_rfl) hf hw with rfl | ⟨a, len, cap, rfl, hlc, hby, hel⟩
  · exact ⟨[], ⟨Rd.nil W 10, by simp⟩, by simp⟩
  · have hby' : Tryz.prog.bytesOf 128 = 136 := by kernel_rfl
    rw [hby'] at hby
    unfold reachBytes at hby
    obtain ⟨b, o, rfl⟩ : ∃ b o, a = ⟨b, o, none⟩ := by
      rcases hok with h0 | ⟨b, o, n, c, h0, _⟩
      · cases h0
      · simp only [Value.slice.injEq, Option.some.injEq] at h0
        exact ⟨b, o, h0.1⟩
    obtain ⟨L, hLl, hL⟩ := choose_list' (Q := fun j (z : OpT) => OpOk W z ∧ ∀ k u, (opC z)[k]? = some u → W.cell? (((⟨b, o, none⟩ : Addr).add (j * 11)).add k) = some u) len (fun j hj => by
      obtain ⟨cs, fu, y, h1, h2, h3, h4⟩ := hel j hj
      obtain ⟨z, hz, rfl⟩ := op_elem h1 h3 h4
      exact ⟨z, hz, fun k u hk => by rw [h2 k (List.getElem?_eq_some_iff.1 hk).1]; exact hk⟩)
    subst hLl
    refine ⟨L, ⟨⟨some ⟨b, o, none⟩, cap, rfl, fun j u hj => ?_, oC_length L, hlc, (fun h => by cases h), (fun _ a ha => by cases ha; rfl)⟩, fun z hm => ?_⟩, by omega⟩
    · obtain ⟨i, k, z, hi, rfl, hk, hu⟩ := oC_split hj
      have := (hL i z hi).2 k u hu
      rw [Addr.add_off, Addr.add_off, Nat.add_assoc] at this
      exact ⟨b, o, rfl, this⟩
    · obtain ⟨i, hi⟩ := List.getElem?_of_mem hm
      exact (hL i z hi).1
end
section
variable {H : Type} {enc : TypeId × Value → H} {W : World} {base b0 : Nat} {held : Bool}
set_option maxRecDepth 100000 in
theorem arg_start {r : Reach} {v : Value} {d : DataW H} {ps : List MemPlace} (h : Value.okWide Tryz.prog W r base 27 v) (hd : DataW.Trod enc Tryz.prog W b0 (fun _ => true) held 27 v d ps) (hw : (DataW.weights Tryz.prog 27 d).all (· ≤ reachBytes) = true) :
    ∃ (p i c : Int) (bare : Bool) (vW vU : Value) (Ws Us : List (Int × BitVec 64)), v = .agg #[.int .i64 p, .int .i64 i, .int .i64 c, .bool bare, vW, vU] ∧ RdP W vW Ws ∧ Ws.length ≤ 8796093022208 ∧ RdP W vU Us ∧ Us.length ≤ 8796093022208 ∧ In64 Ws ∧ In64 Us ∧ (-9223372036854775808 ≤ p ∧ p ≤ 9223372036854775807) := by
  obtain ⟨fuel, hf⟩ := hd
  have U := Tryz.underlying27
  obtain ⟨cs, rfl, hl, _⟩ := arg_struct U h
  rw [show Tryz.prog.cellsOf 27 = 6 by kernel_rfl] at hl
  have hcs : (Value.agg cs.toArray).cells.toList = cs := by simp [Value.cells]
  rw [hcs] at hf
  obtain ⟨c0, c1, c2, c3, c4, c5, rfl⟩ : ∃ c0 c1 c2 c3 c4 c5, cs = [c0, c1, c2, c3, c4, c5] := by
    match cs, hl with
    | [c0, c1, c2, c3, c4, c5], _ => exact ⟨c0, c1, c2, c3, c4, c5, rfl⟩
  have hr : FlL enc Tryz.prog W b0 held 27 [c0, c1, c2, c3, c4, c5] := ⟨fuel, _, hf, hw⟩
  have hs := flL_field (i := 0) (o := 0) (n := 3) (u := 23) U hr rfl rfl rfl (by kernel_rfl)
  have V := Tryz.underlying23
  obtain ⟨p, rfl, hp⟩ := Fl.int Tryz.underlying3 (flL_field (i := 0) (o := 0) (n := 1) (u := 3) V hs rfl rfl rfl (by kernel_rfl))
  obtain ⟨i, rfl, _⟩ := Fl.int Tryz.underlying3 (flL_field (i := 1) (o := 1) (n := 1) (u := 3) V hs rfl rfl rfl (by kernel_rfl))
  obtain ⟨c, rfl, _⟩ := Fl.int Tryz.underlying3 (flL_field (i := 2) (o := 2) (n := 1) (u := 3) V hs rfl rfl rfl (by kernel_rfl))
  obtain ⟨bare, rfl⟩ : ∃ bare, c3 = .bool bare := by
    obtain ⟨f3, y3, h3, _⟩ := flL_field (i := 1) (o := 3) (n := 1) (u := 4) U hr rfl rfl rfl (by kernel_rfl)
    obtain ⟨b, g, _⟩ := DataW.trod_bool Tryz.underlying4 h3
    exact ⟨b, by simpa using g⟩
  obtain ⟨lW, hW, hWl, hWb⟩ := fl_pairs_c (flL_field (i := 2) (o := 4) (n := 1) (u := 24) U hr rfl rfl rfl (by kernel_rfl))
  obtain ⟨lU, hU, hUl, hUb⟩ := Fl.pairs (ti := 3) (tu := 43) Tryz.underlying25 Tryz.underlying45 (by kernel_rfl) (by kernel_rfl) rfl rfl rfl rfl rfl rfl Tryz.underlying3 Tryz.underlying43 (by kernel_rfl) (by kernel_rfl) (flL_field (i := 3) (o := 5) (n := 1) (u := 25) U hr rfl rfl rfl (by kernel_rfl))
  exact ⟨p, i, c, bare, c4, c5, lW, lU, rfl, hW, hWl, hU, hUl, hWb, hUb, hp⟩
end
end Go.Proofs.YtfchinibjhcejaaGreatDoor
namespace Go.Proofs.YtfchinibjhcejaaGreatDoor
open Go Go.Wk
theorem playsJ_k (b : Nat) (y : Pq) (kd ad n sp si sc sd : Int) (x : BitVec 64) (vC vL vB : Value) (C : List (Int × BitVec 64)) (cs : List Int) (lB : List UInt8) (w : World) (hJ : Sim y.σ y.ρ) (K : Nat) (ht : Tab w) (hf : ¬ feet [jbR b y] 0) (hvC : RdP w vC C) (hoC : Off vC (prC C) (feet [jbR b y])) (hCb : In64 C) (hCl : C.length ≤ 8796093022208) (hsp : -9223372036854775808 ≤ sp ∧ sp ≤ 9223372036854775807) (hvL : RdI w vL cs) (hoL : Off vL (cs.map (Value.int .i64)) (feet [jbR b y])) (hvB : RdB w vB lB) (hoB : Off vB (lB.map bv) (feet [jbR b y])) (hbl : lB.length ≤ 140737488355328) (hn : n ≤ 9223372036854775807) (hst : y.σ.steps + 140000 ≤ 1099511627775) (hK : y.σ.steps + 140000 ≤ K) (hd : (jbR b y).holds w) :
    JU Tryz.prog 60 [.pointer (some ⟨b, 0, none⟩), .agg #[.int .i64 kd, .int .i64 ad, .int .i64 n, b64 x, .int .i64 sp, .int .i64 si, .int .i64 sc, .int .i64 sd, vC, vL, vB]] b y K w := by
 refine enter (feet [jbR b y]) [jbR b y] Tryz.func60 rfl Tryz.ntmps60 rfl (Rep.one hd) ?_
 simp only [envOf]
 refine tR (At.box rfl rfl rfl (fun b1 => (tA rfl rfl (tE (At.seq (tR (tV (Val.field 0 rfl fo_128_0 rfl) rfl (tV (Val.load (i := 0) Tryz.isAgg3 rfl rfl rfl) rfl (tE (At.block (tR (tV (Val.bin rfl rfl rfl) rfl (tA rfl rfl (tE ?_))))))))))))))
 refine At.cond rfl (fun h2 => ?_) (fun h2 => ?_)
 ·try simp only [hasB, isSizeB, sB] at h2
  refine tR (tM rfl rfl (tV (Val.loadAll (i := 0) Tryz.isAgg128 Tryz.sizeOf128 rfl rfl rfl) rfl (At.callY (β := Pq) 1 (r' := jbR b) (v := fun _ => .bool true) (I := JOk K) rfl (fun w hw hr => commitJ_k b y.p y.q y.γ y.δ y.σ y.ρ kd ad n sp si sc sd x vC vL vB C cs lB w hJ K (ht.modS hw.mod hf) (Rep.off0 hw ht hf (i := 1) rfl) (hvC.keep hw hoC) (Rep.offOld hw hvC hoC (List.mem_of_getElem? (i := 1) rfl)) hCb hCl hsp (by omega) (by omega) hr) Tryz.call97 rfl rfl (fun y2 hy2 => ?_))))
  simp only [sc0, scS]
  refine tA rfl rfl (tE (At.retC (At.blkR (At.thenR (At.ret1 (.inl rfl) rfl rfl rfl (fun w hw => ?_))))))
  exact ⟨y2, rfl, hy2, hw.drop (List.singleton_sublist.2 (List.mem_of_getElem? (i := 1) rfl))⟩
 ·try simp only [hasB, isSizeB, sB] at h2
  refine At.seq (tR (tV (Val.bin rfl rfl rfl) rfl (tA rfl rfl (tE ?_))))
  refine At.cond rfl (fun h3 => ?_) (fun h3 => ?_)
  ·try simp only [hasB, isSizeB, sB] at h3
   refine At.skipC (At.thenN ?_)
   refine At.cond rfl (fun h4 => ?_) (fun h4 => ?_)
   ·try simp only [hasB, isSizeB, sB] at h4
    refine tR (tM rfl rfl (tV (Val.loadAll (i := 0) Tryz.isAgg128 Tryz.sizeOf128 rfl rfl rfl) rfl (At.callY (β := Pq) 1 (r' := jbR b) (v := fun _ => .bool true) (I := JOk K) rfl (fun w hw hr => readsJ_k b y.p y.q y.γ y.δ y.σ y.ρ kd ad n sp si sc sd x vC vL vB C cs lB w hJ K (ht.modS hw.mod hf) (Rep.off0 hw ht hf (i := 1) rfl) (hvL.keep hw hoL) (Rep.offOld hw hvL hoL (List.mem_of_getElem? (i := 1) rfl)) (hvB.keep hw hoB) (Rep.offOld hw hvB hoB (List.mem_of_getElem? (i := 1) rfl)) hbl (by omega) (by omega) hr) Tryz.call98 rfl rfl (fun y2 hy2 => ?_))))
    simp only [sc0, scS]
    refine tA rfl rfl (tE (At.retC (At.blkR (At.thenR (At.ret1 (.inl rfl) rfl rfl rfl (fun w hw => ?_))))))
    exact ⟨y2, rfl, hy2, hw.drop (List.singleton_sublist.2 (List.mem_of_getElem? (i := 1) rfl))⟩
   ·try simp only [hasB, isSizeB, sB] at h4
    refine tR (tV (Val.bin rfl rfl rfl) rfl (tA rfl rfl (tE ?_)))
    refine At.cond rfl (fun h5 => ?_) (fun h5 => ?_)
    ·try simp only [hasB, isSizeB, sB] at h5
     refine tR (tM rfl rfl (At.callY (β := Pq) 1 (r' := jbR b) (v := fun _ => .bool true) (I := JOk K) rfl (fun w hw hr => recoversJ_k b y.p y.q y.γ y.δ y.σ y.ρ w hJ K (ht.modS hw.mod hf) (Rep.off0 hw ht hf (i := 1) rfl) (by omega) (by omega) hr) Tryz.call99 rfl rfl (fun y2 hy2 => ?_)))
     simp only [sc0, scS]
     refine tA rfl rfl (tE (At.retC (At.blkR (At.thenR (At.ret1 (.inl rfl) rfl rfl rfl (fun w hw => ?_))))))
     exact ⟨y2, rfl, hy2, hw.drop (List.singleton_sublist.2 (List.mem_of_getElem? (i := 1) rfl))⟩
    ·try simp only [hasB, isSizeB, sB] at h5
     refine At.skipC (At.blkN (At.thenN (tR (tM rfl rfl (tV (Val.loadAll (i := 0) Tryz.isAgg128 Tryz.sizeOf128 rfl rfl rfl) rfl (At.callY (β := Pq) 1 (r' := jbR b) (v := fun _ => .bool true) (I := JOk K) rfl (fun w hw hr => movesJ_k b y.p y.q y.γ y.δ y.σ y.ρ kd ad n sp si sc sd x vC vL vB C cs lB w hJ K (hvL.keep hw hoL) (Rep.offOld hw hvL hoL (List.mem_of_getElem? (i := 1) rfl)) (hvB.keep hw hoB) (Rep.offOld hw hvB hoB (List.mem_of_getElem? (i := 1) rfl)) hbl hn (by omega) (by omega) hr) Tryz.call100 rfl rfl (fun y2 hy2 => ?_)))))))
     simp only [sc0, scS]
     refine tA rfl rfl (tE (At.retC (At.ret1 (.inl rfl) rfl rfl rfl (fun w hw => ?_))))
     exact ⟨y2, rfl, hy2, hw.drop (List.singleton_sublist.2 (List.mem_of_getElem? (i := 1) rfl))⟩
  ·try simp only [hasB, isSizeB, sB] at h3
   refine At.region (tV (Val.bin rfl rfl rfl) rfl (tA rfl rfl (tE ?_)))
   refine At.cond rfl (fun h6 => ?_) (fun h6 => ?_)
   ·try simp only [hasB, isSizeB, sB] at h6
    refine tR (tM rfl rfl (tV (Val.loadAll (i := 0) Tryz.isAgg128 Tryz.sizeOf128 rfl rfl rfl) rfl (At.callY (β := Pq) 1 (r' := jbR b) (v := fun _ => .bool true) (I := JOk K) rfl (fun w hw hr => readsJ_k b y.p y.q y.γ y.δ y.σ y.ρ kd ad n sp si sc sd x vC vL vB C cs lB w hJ K (ht.modS hw.mod hf) (Rep.off0 hw ht hf (i := 1) rfl) (hvL.keep hw hoL) (Rep.offOld hw hvL hoL (List.mem_of_getElem? (i := 1) rfl)) (hvB.keep hw hoB) (Rep.offOld hw hvB hoB (List.mem_of_getElem? (i := 1) rfl)) hbl (by omega) (by omega) hr) Tryz.call98 rfl rfl (fun y2 hy2 => ?_))))
    simp only [sc0, scS]
    refine tA rfl rfl (tE (At.retC (At.blkR (At.thenR (At.ret1 (.inl rfl) rfl rfl rfl (fun w hw => ?_))))))
    exact ⟨y2, rfl, hy2, hw.drop (List.singleton_sublist.2 (List.mem_of_getElem? (i := 1) rfl))⟩
   ·try simp only [hasB, isSizeB, sB] at h6
    refine tR (tV (Val.bin rfl rfl rfl) rfl (tA rfl rfl (tE ?_)))
    refine At.cond rfl (fun h7 => ?_) (fun h7 => ?_)
    ·try simp only [hasB, isSizeB, sB] at h7
     refine tR (tM rfl rfl (At.callY (β := Pq) 1 (r' := jbR b) (v := fun _ => .bool true) (I := JOk K) rfl (fun w hw hr => recoversJ_k b y.p y.q y.γ y.δ y.σ y.ρ w hJ K (ht.modS hw.mod hf) (Rep.off0 hw ht hf (i := 1) rfl) (by omega) (by omega) hr) Tryz.call99 rfl rfl (fun y2 hy2 => ?_)))
     simp only [sc0, scS]
     refine tA rfl rfl (tE (At.retC (At.blkR (At.thenR (At.ret1 (.inl rfl) rfl rfl rfl (fun w hw => ?_))))))
     exact ⟨y2, rfl, hy2, hw.drop (List.singleton_sublist.2 (List.mem_of_getElem? (i := 1) rfl))⟩
    ·try simp only [hasB, isSizeB, sB] at h7
     refine At.skipC (At.blkN (At.thenN (tR (tM rfl rfl (tV (Val.loadAll (i := 0) Tryz.isAgg128 Tryz.sizeOf128 rfl rfl rfl) rfl (At.callY (β := Pq) 1 (r' := jbR b) (v := fun _ => .bool true) (I := JOk K) rfl (fun w hw hr => movesJ_k b y.p y.q y.γ y.δ y.σ y.ρ kd ad n sp si sc sd x vC vL vB C cs lB w hJ K (hvL.keep hw hoL) (Rep.offOld hw hvL hoL (List.mem_of_getElem? (i := 1) rfl)) (hvB.keep hw hoB) (Rep.offOld hw hvB hoB (List.mem_of_getElem? (i := 1) rfl)) hbl hn (by omega) (by omega) hr) Tryz.call100 rfl rfl (fun y2 hy2 => ?_)))))))
     simp only [sc0, scS]
     refine tA rfl rfl (tE (At.retC (At.ret1 (.inl rfl) rfl rfl rfl (fun w hw => ?_))))
     exact ⟨y2, rfl, hy2, hw.drop (List.singleton_sublist.2 (List.mem_of_getElem? (i := 1) rfl))⟩
theorem upToJ_p (p i c : Int) (bare : Bool) (vW vU : Value) (W U : List (Int × BitVec 64)) (v : Value) (L : List OpT) (lo hi : Int) (w : World) (ht : Tab w) (hvW : RdP w vW W) (hvU : RdP w vU U) (hWl : W.length ≤ 140737488355328) (hUl : U.length ≤ 140737488355328) (hpb : -9223372036854775808 ≤ p ∧ p ≤ 9223372036854775807) (hv : RdO w v L) (hl : L.length ≤ 140737488355328) :
    PureC Tryz.prog 32 [.agg #[.int .i64 p, .int .i64 i, .int .i64 c, .bool bare, vW, vU], v, .int .i64 lo, .int .i64 hi] (.bool true) w := by
 refine enter0 Tryz.func32 rfl Tryz.ntmps32 rfl ?_
 simp only [envOf]
 refine tR (At.box rfl rfl rfl (fun b1 => (tA rfl rfl (tE (tR (tV (Val.loadAll (i := 0) Tryz.isAgg27 Tryz.sizeOf27 rfl rfl rfl) rfl (At.callNT (g := (fun v => .tuple #[v, .agg #[.int .i64 (supS p i c).1, .int .i64 (supS p i c).2.1, .int .i64 (supS p i c).2.2, .int .i64 (4 + (supS p i c).2.1 / 8)]])) (fun w hw => image_n p i c bare vW vU W U w (hvW.mod hw.mod) (hvU.mod hw.mod) hWl hUl hpb) Tryz.call14 rfl rfl (fun v2 => (tM rfl rfl (tV (Val.extract rfl rfl) rfl (tV (Val.extract rfl rfl) rfl (At.alloc Tryz.zeroValue31 rfl rfl (fun b3 => (tA rfl rfl (At.storeAll (i := 0) Tryz.sizeOf31 rfl rfl rfl (by simp [Value.oneCell']) rfl rfl ?_)))))))))))))))
 simp only [sc0, scS]
 refine At.nil ?_
 obtain ⟨li, hli⟩ : ∃ li, li = (imgE (supS p i c) bare W U) := ⟨_, rfl⟩
 have hgS := supS_good p i c
 have hlil : li.length = 512 * (supS p i c).1.toNat := by rw [hli]; exact imgE_len hgS bare W U
 unfold GoodSup at hgS
 rw [← hli]
 have hsz : isSizeB (li.length : Int) = true := by unfold isSizeB; rw [decide_eq_true_eq]; omega
 obtain ⟨M, hM⟩ : ∃ M : Nat, li.length = 64 * M := ⟨8 * (supS p i c).1.toNat, by omega⟩
 refine At.thenN (tR (tM rfl rfl (At.callNP (fun w hw => loadJ_n _ li M w (row_rd (hw.row (i := 1) rfl) (by decide)) hsz hM) Tryz.call59 rfl rfl (fun y4 hy4 => (tM rfl rfl (tV (Val.extract rfl rfl) rfl (tV (Val.extract rfl rfl) rfl (At.alloc Tryz.zeroValue124 rfl rfl (fun b5 => ?_)))))))))
 refine At.storeAll (i := 0) (vs := jbC y4) Tryz.sizeOf124 rfl rfl rfl (by intro u hu; simp only [jbC, List.mem_cons, List.not_mem_nil, or_false] at hu; rcases hu with rfl | rfl <;> rfl) rfl rfl ?_
 simp only [sc0, scS]
 refine tA rfl rfl (tE (At.seq (tR (tM rfl rfl (tV (Val.not rfl) rfl (tE (At.condF rfl (At.skipC (At.thenN (At.seq (tR (tA rfl rfl (At.nil (At.bring 2 rfl ?_))))))))))))))
 simp only [ec0, ecS]
 refine At.bring 2 rfl ?_
 simp only [ec0, ecS]
 refine At.bring 2 rfl ?_
 simp only [ec0, ecS]
 refine At.shutS (L := [blk b5 124 (jbC y4), Dev y4.p y4.γ y4.σ, RDev y4.q y4.δ y4.ρ]) (At.drop 1 ?_)
 simp only [ec0, ecS]
 refine At.drop 1 ?_
 simp only [ec0, ecS]
 refine At.drop 1 ?_
 simp only [ec0, ecS]
 refine At.thenN (At.block ?_)
 skip
 refine At.loop (σ := Nat × Pq) (fun s => s.1 ≤ L.length ∧ s.1 ≤ 200 ∧ Sim s.2.σ s.2.ρ ∧ s.2.σ.steps ≤ s.1 * 140000) (fun s => [(1, v), (2, .int .i64 lo), (3, .int .i64 hi), (11, .pointer (some ⟨b5, 0, none⟩)), (13, .int .i64 (s.1 : Int))]) (fun s => [jbR b5 s.2]) (fun s => L.length - s.1) (0, y4) ⟨Nat.zero_le _, Nat.zero_le _, hy4.2.2, by show y4.σ.steps ≤ 0 * 140000; rw [hy4.1]; exact Nat.zero_le _⟩ (Sub.cons rfl (Sub.cons rfl (Sub.cons rfl (Sub.cons rfl (Sub.cons rfl Sub.nil))))) (List.Perm.refl _) ?_
 intro s hs
 obtain ⟨k, y⟩ := s
 dsimp only at hs ⊢
 obtain ⟨hk1, hk2, hys, hyt⟩ := hs
 refine At.seq (tR (tM rfl rfl (tM rfl rfl (tV (Val.lenRd hv.1 Tryz.underlying72 rfl) rfl (tV (Val.bin rfl rfl rfl) rfl (At.weaken [(1, _), (2, _), (3, _), (11, _), (13, _), (32, _)] (Sub.cons rfl (Sub.cons rfl (Sub.cons rfl (Sub.cons rfl (Sub.cons rfl (Sub.cons rfl Sub.nil)))))) ?_))))))
 refine At.boolMeet 4 36 (decide (k < L.length ∧ k < 200)) ?_ ?_
 ·simp only [List.take_succ_cons, List.take_zero]
  refine tM rfl rfl ?_
  refine At.split (t := 33) rfl (fun h6 => ?_) (fun h6 => ?_)
  ·try simp only [hasB, isSizeB, sB] at h6
   refine At.yes rfl rfl (tM rfl rfl (At.yes rfl rfl (tV (Val.bin rfl rfl rfl) rfl (tV (Val.pickT rfl rfl) rfl (At.nil ?_)))))
   exact At.boolEnd rfl (by apply Bool.eq_iff_iff.2; (simp only [decide_eq_true_eq, Bool.false_eq_true, false_iff, true_iff, gt_iff_lt, ge_iff_le]) <;> omega) (by repeat (first | exact Sub.nil | refine Sub.cons rfl ?_))
  ·try simp only [hasB, isSizeB, sB] at h6
   refine At.no rfl rfl rfl rfl (At.no rfl rfl rfl rfl (tV (Val.pickF rfl rfl) rfl (At.nil ?_)))
   exact At.boolEnd rfl (by apply Bool.eq_iff_iff.2; (simp only [decide_eq_true_eq, Bool.false_eq_true, false_iff, true_iff, gt_iff_lt, ge_iff_le]) <;> omega) (by repeat (first | exact Sub.nil | refine Sub.cons rfl ?_))
 ·simp only [List.drop_succ_cons, List.drop_zero]
  refine tE ?_
  refine At.cond rfl (fun h7 => ?_) (fun h7 => ?_)
  ·try simp only [hasB, isSizeB, sB] at h7
   obtain ⟨o, ho⟩ : ∃ o, L[k]? = some o := ⟨_, List.getElem?_eq_getElem (by omega)⟩
   have hop := hv.2 o (List.mem_of_getElem? ho)
   refine At.skipC (At.thenN (At.seq (At.block (tR (tM rfl rfl (tM rfl rfl (At.idxRd hv.1 Tryz.underlying72 Tryz.sizeOf128 rfl rfl (by omega) (by omega) rfl rfl (fun bo oo hoc => ?_))))))))
   rw [Int.toNat_natCast] at hoc
   refine tV (Val.loadOldPart (vs := [.int .i64 o.kd, .int .i64 o.ad, .int .i64 o.n, b64 o.x, .int .i64 o.sp, .int .i64 o.si, .int .i64 o.sc, .int .i64 o.sd, o.vC, o.vL, o.vB]) Tryz.isAgg128 Tryz.sizeOf128 rfl rfl (fun j u hj => hoc j u (oC_at ho hj)) (fun h => h)) rfl (At.alloc zero_128 zc_128 rfl (fun b8 => ?_))
   refine At.storeAll (i := 0) (vs := [.int .i64 o.kd, .int .i64 o.ad, .int .i64 o.n, b64 o.x, .int .i64 o.sp, .int .i64 o.si, .int .i64 o.sc, .int .i64 o.sd, o.vC, o.vL, o.vB]) Tryz.sizeOf128 rfl rfl rfl (by intro u hu; simp only [List.mem_cons, List.not_mem_nil, or_false] at hu; rcases hu with rfl | rfl | rfl | rfl | rfl | rfl | rfl | rfl | rfl | rfl | rfl <;> first | rfl | exact rd_one1 hop.c | exact rd_one1 hop.l | exact rd_one1 hop.b) rfl rfl ?_
   simp only [sc0, scS]
   refine tE (tR (tV (Val.loadAll (i := 0) Tryz.isAgg128 Tryz.sizeOf128 rfl rfl (by simp)) rfl (At.callY (β := Pq) 1 (r' := jbR b5) (v := fun _ => .bool true) (I := JOk ((k + 1) * 140000)) rfl (fun w hw hr => playsJ_k b5 y o.kd o.ad o.n o.sp o.si o.sc o.sd o.x o.vC o.vL o.vB o.C o.cs o.lB w hys ((k + 1) * 140000) (ht.mod hw.mod) (Rep.off0 hw ht (fun h => h) (i := 1) rfl) (hop.c.mod hw.mod) (hop.c.off (hw.newFoot (List.mem_of_getElem? (i := 1) rfl))) hop.cb hop.cl hop.p (hop.l.mod hw.mod) (hop.l.off (hw.newFoot (List.mem_of_getElem? (i := 1) rfl))) (hop.b.mod hw.mod) (hop.b.off (hw.newFoot (List.mem_of_getElem? (i := 1) rfl))) hop.bl hop.n.2 (by omega) (by omega) hr) Tryz.call60 rfl rfl (fun y2 hy2 => ?_))))
   simp only [sc0, scS]
   refine tA rfl rfl (tE (tR (tV (Val.field 0 rfl fo_128_0 rfl) rfl (tV (Val.load (i := 0) Tryz.isAgg3 rfl rfl rfl) rfl (tM rfl rfl (tV (Val.bin rfl rfl rfl) rfl (At.weaken [(1, _), (2, _), (3, _), (11, _), (13, _), (32, _), (36, _), (39, _), (40, _), (41, _), (42, _), (14, _), (43, _), (44, _), (15, _), (48, _)] (Sub.cons rfl (Sub.cons rfl (Sub.cons rfl (Sub.cons rfl (Sub.cons rfl (Sub.cons rfl (Sub.cons rfl (Sub.cons rfl (Sub.cons rfl (Sub.cons rfl (Sub.cons rfl (Sub.cons rfl (Sub.cons rfl (Sub.cons rfl (Sub.cons rfl (Sub.cons rfl Sub.nil)))))))))))))))) ?_)))))))
   refine At.boolMeet 6 54 (decide (o.kd ≥ lo ∧ o.kd ≤ hi)) ?_ ?_
   ·simp only [List.take_succ_cons, List.take_zero]
    refine tM rfl rfl ?_
    refine At.split (t := 49) rfl (fun h9 => ?_) (fun h9 => ?_)
    ·try simp only [hasB, isSizeB, sB] at h9
     refine At.yes rfl rfl (tV (Val.field 0 rfl fo_128_0 rfl) rfl (At.yes rfl rfl (tV (Val.load (i := 0) Tryz.isAgg3 rfl rfl rfl) rfl (At.yes rfl rfl (tM rfl rfl (At.yes rfl rfl (tV (Val.bin rfl rfl rfl) rfl (tV (Val.pickT rfl rfl) rfl (At.nil ?_)))))))))
     exact At.boolEnd rfl (by apply Bool.eq_iff_iff.2; (simp only [decide_eq_true_eq, Bool.false_eq_true, false_iff, true_iff, gt_iff_lt, ge_iff_le]) <;> omega) (by repeat (first | exact Sub.nil | refine Sub.cons rfl ?_))
    ·try simp only [hasB, isSizeB, sB] at h9
     refine At.no rfl rfl rfl rfl (At.no rfl rfl rfl rfl (At.no rfl rfl rfl rfl (At.no rfl rfl rfl rfl (tV (Val.pickF rfl rfl) rfl (At.nil ?_)))))
     exact At.boolEnd rfl (by apply Bool.eq_iff_iff.2; (simp only [decide_eq_true_eq, Bool.false_eq_true, false_iff, true_iff, gt_iff_lt, ge_iff_le]) <;> omega) (by repeat (first | exact Sub.nil | refine Sub.cons rfl ?_))
   ·simp only [List.drop_succ_cons, List.drop_zero]
    refine tA rfl rfl (tE (At.seq (tR (tM rfl rfl (tV (Val.not rfl) rfl (tM rfl rfl (At.no rfl rfl rfl rfl (At.no rfl rfl rfl rfl (At.noU rfl rfl rfl (At.noU rfl rfl rfl (At.noU rfl rfl rfl (At.no rfl rfl rfl rfl (tV (Val.pickF rfl rfl) rfl (tE (At.condF rfl (At.skipC (At.thenN (tR (tM rfl rfl (tV (Val.not rfl) rfl (tE (At.condF rfl (At.skipC (At.blkN (At.thenN (At.region (tM rfl rfl ?_)))))))))))))))))))))))))))
    first | refine tV (Val.addI rfl rfl (by omega) (by omega)) rfl ?_ | refine tV (Val.bin rfl rfl rfl) rfl ?_
    refine tA rfl rfl (tE (At.drop 0 ?_))
    simp only [ec0, ecS]
    exact At.again (k + 1, y2) ⟨(show k + 1 ≤ _ by omega), (show k + 1 ≤ 200 by omega), hy2.1, hy2.2⟩ (by dsimp only; omega) (Sub.cons rfl (Sub.cons rfl (Sub.cons rfl (Sub.cons rfl (Sub.cons (congrArg (fun z => some (Value.int IntKind.i64 z)) (by dsimp only; omega)) Sub.nil))))) (List.Perm.refl _)
  ·try simp only [hasB, isSizeB, sB] at h7
   refine At.exitC (At.thenX (At.thenX (At.blkX (At.thenN (tR (tA rfl rfl (tE (At.retC (At.ret1 (.inl rfl) rfl rfl rfl (fun w hw => ?_))))))))))
   exact ⟨rfl, hw.mod⟩
theorem lawJournalCommits_p (p i c : Int) (bare : Bool) (vW vU : Value) (W U : List (Int × BitVec 64)) (v : Value) (L : List OpT) (w : World) (ht : Tab w) (hvW : RdP w vW W) (hvU : RdP w vU U) (hWl : W.length ≤ 140737488355328) (hUl : U.length ≤ 140737488355328) (hpb : -9223372036854775808 ≤ p ∧ p ≤ 9223372036854775807) (hv : RdO w v L) (hl : L.length ≤ 140737488355328) :
    PureC Tryz.prog 6 [.agg #[.int .i64 p, .int .i64 i, .int .i64 c, .bool bare, vW, vU], v] (.bool true) w := by
 refine enter0 Tryz.func6 rfl Tryz.ntmps6 rfl ?_
 simp only [envOf]
 refine tR (At.box rfl rfl rfl (fun b1 => (tA rfl rfl (tE (tR (tV (Val.loadAll (i := 0) Tryz.isAgg27 Tryz.sizeOf27 rfl rfl rfl) rfl (tM rfl rfl (At.callP (fun w hw => upToJ_p p i c bare vW vU W U v L 1 1 w (ht.mod hw.mod) (hvW.mod hw.mod) (hvU.mod hw.mod) hWl hUl hpb (hv.mod hw.mod) hl) Tryz.call32 rfl rfl (tA rfl rfl (tE (At.retC (At.ret1 (.inl rfl) rfl rfl rfl (fun w hw => ?_)))))))))))))
 exact ⟨rfl, hw.mod⟩
theorem lawJournalReads_p (p i c : Int) (bare : Bool) (vW vU : Value) (W U : List (Int × BitVec 64)) (v : Value) (L : List OpT) (w : World) (ht : Tab w) (hvW : RdP w vW W) (hvU : RdP w vU U) (hWl : W.length ≤ 140737488355328) (hUl : U.length ≤ 140737488355328) (hpb : -9223372036854775808 ≤ p ∧ p ≤ 9223372036854775807) (hv : RdO w v L) (hl : L.length ≤ 140737488355328) :
    PureC Tryz.prog 7 [.agg #[.int .i64 p, .int .i64 i, .int .i64 c, .bool bare, vW, vU], v] (.bool true) w := by
 refine enter0 Tryz.func7 rfl Tryz.ntmps7 rfl ?_
 simp only [envOf]
 refine tR (At.box rfl rfl rfl (fun b1 => (tA rfl rfl (tE (tR (tV (Val.loadAll (i := 0) Tryz.isAgg27 Tryz.sizeOf27 rfl rfl rfl) rfl (tM rfl rfl (At.callP (fun w hw => upToJ_p p i c bare vW vU W U v L 2 3 w (ht.mod hw.mod) (hvW.mod hw.mod) (hvU.mod hw.mod) hWl hUl hpb (hv.mod hw.mod) hl) Tryz.call32 rfl rfl (tA rfl rfl (tE (At.retC (At.ret1 (.inl rfl) rfl rfl rfl (fun w hw => ?_)))))))))))))
 exact ⟨rfl, hw.mod⟩
theorem lawJournalRecovers_p (p i c : Int) (bare : Bool) (vW vU : Value) (W U : List (Int × BitVec 64)) (v : Value) (L : List OpT) (w : World) (ht : Tab w) (hvW : RdP w vW W) (hvU : RdP w vU U) (hWl : W.length ≤ 140737488355328) (hUl : U.length ≤ 140737488355328) (hpb : -9223372036854775808 ≤ p ∧ p ≤ 9223372036854775807) (hv : RdO w v L) (hl : L.length ≤ 140737488355328) :
    PureC Tryz.prog 8 [.agg #[.int .i64 p, .int .i64 i, .int .i64 c, .bool bare, vW, vU], v] (.bool true) w := by
 refine enter0 Tryz.func8 rfl Tryz.ntmps8 rfl ?_
 simp only [envOf]
 refine tR (At.box rfl rfl rfl (fun b1 => (tA rfl rfl (tE (tR (tV (Val.loadAll (i := 0) Tryz.isAgg27 Tryz.sizeOf27 rfl rfl rfl) rfl (tM rfl rfl (At.callP (fun w hw => upToJ_p p i c bare vW vU W U v L 4 4 w (ht.mod hw.mod) (hvW.mod hw.mod) (hvU.mod hw.mod) hWl hUl hpb (hv.mod hw.mod) hl) Tryz.call32 rfl rfl (tA rfl rfl (tE (At.retC (At.ret1 (.inl rfl) rfl rfl rfl (fun w hw => ?_)))))))))))))
 exact ⟨rfl, hw.mod⟩
theorem lawJournalAll_p (p i c : Int) (bare : Bool) (vW vU : Value) (W U : List (Int × BitVec 64)) (v : Value) (L : List OpT) (w : World) (ht : Tab w) (hvW : RdP w vW W) (hvU : RdP w vU U) (hWl : W.length ≤ 140737488355328) (hUl : U.length ≤ 140737488355328) (hpb : -9223372036854775808 ≤ p ∧ p ≤ 9223372036854775807) (hv : RdO w v L) (hl : L.length ≤ 140737488355328) :
    PureC Tryz.prog 9 [.agg #[.int .i64 p, .int .i64 i, .int .i64 c, .bool bare, vW, vU], v] (.bool true) w := by
 refine enter0 Tryz.func9 rfl Tryz.ntmps9 rfl ?_
 simp only [envOf]
 refine tR (At.box rfl rfl rfl (fun b1 => (tA rfl rfl (tE (tR (tV (Val.loadAll (i := 0) Tryz.isAgg27 Tryz.sizeOf27 rfl rfl rfl) rfl (tM rfl rfl (At.callP (fun w hw => upToJ_p p i c bare vW vU W U v L 1 4 w (ht.mod hw.mod) (hvW.mod hw.mod) (hvU.mod hw.mod) hWl hUl hpb (hv.mod hw.mod) hl) Tryz.call32 rfl rfl (tA rfl rfl (tE (At.retC (At.ret1 (.inl rfl) rfl rfl rfl (fun w hw => ?_)))))))))))))
 exact ⟨rfl, hw.mod⟩
end Go.Proofs.YtfchinibjhcejaaGreatDoor
