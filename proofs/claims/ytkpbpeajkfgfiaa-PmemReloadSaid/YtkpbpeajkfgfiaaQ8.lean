/- PmemReload: the walk. -/
import Derived.Test.YtkpbpeajkfgfiaaQ5
set_option linter.unusedVariables false
set_option linter.unusedSimpArgs false
namespace Go.Proofs.Ytkpbpeajkfgfiaa
open Go Go.Wk

theorem load_view {X : List (BitVec 64)} : viewWs (loadD (wbytes X)).ws = X := by
  have hl : (loadD (wbytes X)).ws.length = X.length := by unfold loadD loadWs; simp only [List.length_map, List.length_range, wbytes_length]; omega
  apply List.ext_getElem?
  intro k
  unfold viewWs
  rw [List.getElem?_map]
  cases hk : X[k]? with
  | none => rw [List.getElem?_eq_none (by have := List.getElem?_eq_none_iff.1 hk; omega)]; rfl
  | some x =>
    have hkl := (List.getElem?_eq_some_iff.1 hk).1
    rw [loadWs_at (by rw [wbytes_length]; omega), wbytes_word hk]; rfl
theorem load_calm (l : List UInt8) : ∀ w ∈ (loadD l).ws, w.news = [] := by
  intro w hw
  unfold loadD loadWs at hw
  obtain ⟨k, _, rfl⟩ := List.mem_map.1 hw
  rfl
theorem load_len (X : List (BitVec 64)) : (loadD (wbytes X)).ws.length = X.length := by unfold loadD loadWs; simp only [List.length_map, List.length_range, wbytes_length]; omega

theorem lawReload_p (pg : Int) (v1 v2 v3 : Value) (L : List Nt) (cs cs' : List Int) (w : World) (hv1 : RdN w v1 L) (hv2 : RdI w v2 cs) (hv3 : RdI w v3 cs') (hl1 : L.length ≤ 8796093022144) :
    PureC Try.prog 8 [.agg #[.int .i64 pg, v1, v2, v3]] (.bool true) w := by
 refine enter0 Try.func8 rfl Try.ntmps8 rfl ?_
 obtain ⟨N, hNe⟩ : ∃ N, N = sizeW pg := ⟨_, rfl⟩
 obtain ⟨hN1, hN2, hN3⟩ := sizeW_ok pg
 have hsz := sizeW_size pg
 rw [← hNe] at hN1 hN2 hN3 hsz
 have hN0 : 0 < N := by omega
 simp only [envOf]
 refine tR ?_
 refine At.box rfl rfl rfl (fun b1 => ?_)
 refine tA rfl rfl ?_
 refine tE ?_
 refine tR ?_
 refine At.val (Val.field 0 rfl fo_65_0 rfl) rfl rfl rfl ?_
 refine At.val (Val.load (i := 0) Try.isAgg3 rfl rfl rfl) rfl rfl rfl ?_
 refine At.callP (fun w hw => size_p _ w) Try.call18 rfl rfl ?_
 refine tA rfl rfl ?_
 refine At.nil ?_
 rw [← hNe]
 refine At.thenN ?_
 refine tR ?_
 refine tM rfl rfl ?_
 refine At.callNB (fun w hw => made_d _ N w hsz rfl) Try.call19 rfl rfl (fun p2 y3 => ?_)
 refine tM rfl rfl ?_
 refine At.val (Val.extract rfl rfl) rfl rfl rfl ?_
 refine At.val (Val.extract rfl rfl) rfl rfl rfl ?_
 refine tA rfl rfl ?_
 refine tA rfl rfl ?_
 refine tE ?_
 refine At.seq ?_
 refine tR ?_
 refine tM rfl rfl ?_
 refine At.val (Val.not rfl) rfl rfl rfl ?_
 refine tE ?_
 refine At.condF rfl ?_
 refine At.skipC ?_
 refine At.thenN ?_
 refine tR ?_
 refine tM rfl rfl ?_
 refine At.val (Val.field 1 rfl fo_65_1 rfl) rfl rfl rfl ?_
 refine At.val (Val.load (i := 1) Try.isAgg22 rfl rfl rfl) rfl rfl rfl ?_
 refine tM rfl rfl ?_
 refine At.callD 0 rfl (fun w hw hr => notes_d _ _ _ v1 L N w (hv1.mod hw.mod) (hv1.off (hw.newFoot (List.mem_of_getElem? (i := 0) rfl))) (zeroD_len N) rfl (by show 0 + 400 ≤ _; omega) hl1 hr) Try.call26 rfl rfl (fun y4 => ?_)
 simp only [sc0, scS]
 refine tA rfl rfl ?_
 refine At.nil ?_
 obtain ⟨hst, har, hle⟩ := run_rest hN0 (L.take 400) (zeroD N) (zeroD_len N) rfl
 have hst' : (run N (zeroD N) (L.take 400)).steps ≤ 400 := by rw [hst, List.length_take]; show 0 + _ ≤ _; omega
 generalize run N (zeroD N) (L.take 400) = σ1 at *
 have hXl : (wbytes (picked σ1.ws (pkC σ1.ws cs))).length = 8 * N := by rw [wbytes_length, picked_length, hle]
 refine At.thenN ?_
 refine At.seq ?_
 refine tR ?_
 refine tM rfl rfl ?_
 refine At.val (Val.not rfl) rfl rfl rfl ?_
 refine tE ?_
 refine At.condF rfl ?_
 refine At.skipC ?_
 refine At.thenN ?_
 refine tR ?_
 refine tM rfl rfl ?_
 refine At.callRK 0 rfl (fun w hw hr => view_k _ _ _ w hr) Try.call22 rfl rfl (fun v5 => ?_)
 refine tA rfl rfl ?_
 refine tE ?_
 refine tR ?_
 refine tM rfl rfl ?_
 refine At.val (Val.field 2 rfl fo_65_2 rfl) rfl rfl rfl ?_
 refine At.val (Val.load (i := 2) Try.isAgg23 rfl rfl rfl) rfl rfl rfl ?_
 refine At.callRK 1 rfl (fun w hw hr => crash_k _ _ _ v2 cs w (hv2.mod hw.mod) (hv2.off (hw.newFoot (List.mem_of_getElem? (i := 1) rfl))) hr) Try.call21 rfl rfl (fun v6 => ?_)
 refine tA rfl rfl ?_
 refine tE ?_
 refine tR ?_
 refine tM rfl rfl ?_
 refine At.callN (fun w hw => copyBytes_n _ _ w (row_rd (hw.row (i := 0) rfl) (by decide)) (by rw [hXl]; omega)) Try.call41 rfl rfl (fun v7 => ?_)
 refine tA rfl rfl ?_
 refine tE ?_
 refine tR ?_
 refine tM rfl rfl ?_
 refine At.callNB (fun w hw => loaded_d _ _ w (row_rd (hw.row (i := 1) rfl) (by decide)) (by rw [hXl]; exact hsz)) Try.call34 rfl rfl (fun p8 y9 => ?_)
 refine tM rfl rfl ?_
 refine At.val (Val.extract rfl rfl) rfl rfl rfl ?_
 refine At.val (Val.extract rfl rfl) rfl rfl rfl ?_
 refine tA rfl rfl ?_
 refine tA rfl rfl ?_
 refine tE ?_
 refine At.seq ?_
 refine tR ?_
 refine tM rfl rfl ?_
 refine At.val (Val.not rfl) rfl rfl rfl ?_
 refine tM rfl rfl ?_
 refine At.yes rfl rfl ?_
 refine tM rfl rfl ?_
 refine At.yes rfl rfl ?_
 refine At.val (Val.lenRow (i := 2) Try.underlying33 rfl rfl) rfl rfl rfl ?_
 refine At.yes rfl rfl ?_
 refine tM rfl rfl ?_
 refine At.yes rfl rfl ?_
 refine At.val (Val.bin rfl rfl rfl) rfl rfl rfl ?_
 refine At.val (Val.pickF rfl rfl) rfl rfl rfl ?_
 refine tM rfl rfl ?_
 refine At.split (t := 50) rfl (fun h10 => ?_) (fun h10 => ?_)
 ·skip
  try simp only [hasB, isSizeB, Bool.not_eq_true', Bool.not_eq_false', bne_iff_ne, ne_eq, bne_eq_false_iff_eq, beq_iff_eq, beq_eq_false_iff_ne, decide_eq_true_eq, decide_eq_false_iff_not, gt_iff_lt, ge_iff_le] at h10
  rw [hXl] at h10; omega
 ·skip
  try simp only [hasB, isSizeB, Bool.not_eq_true', Bool.not_eq_false', bne_iff_ne, ne_eq, bne_eq_false_iff_eq, beq_iff_eq, beq_eq_false_iff_ne, decide_eq_true_eq, decide_eq_false_iff_not, gt_iff_lt, ge_iff_le] at h10
  refine At.yes rfl rfl ?_
  refine tM rfl rfl ?_
  refine At.yes rfl rfl ?_
  refine tM rfl rfl ?_
  refine At.yes rfl rfl ?_
  refine At.callP (fun w hw => sameBytes_p _ _ _ _ w (row_rd (hw.row (i := 2) rfl) (by decide)) (row_rd (hw.row (i := 1) rfl) (by decide)) (by rw [hXl]; omega) (by rw [hXl]; omega)) Try.call28 rfl rfl ?_
  rw [decide_eq_true rfl]
  ·skip
   refine At.yes rfl rfl ?_
   refine At.val (Val.not rfl) rfl rfl rfl ?_
   refine At.val (Val.pickF rfl rfl) rfl rfl rfl ?_
   refine tE ?_
   refine At.condF rfl ?_
   refine At.skipC ?_
   refine At.thenN ?_
   refine At.seq ?_
   refine tR ?_
   refine tA rfl rfl ?_
   refine tE ?_
   refine At.block ?_
   skip
   refine At.loop (σ := Nat × List UInt8) (fun s => s.1 ≤ 8 * N ∧ s.2.length = 8 * N) (fun s => [(1, .pointer (some ⟨b1, 0, none⟩)), (3, .int .i64 (8 * (N : Int))), (4, .pointer (some ⟨p2, 0, none⟩)), (6, v5), (7, v6), (8, v7), (9, .pointer (some ⟨p8, 0, none⟩)), (10, .int .i64 (s.1 : Int))]) (fun s => [Dev p8 y9 (loadD (wbytes (picked σ1.ws (pkC σ1.ws cs)))), rowR v7 5 1 ((wbytes (picked σ1.ws (pkC σ1.ws cs))).length) ((wbytes (picked σ1.ws (pkC σ1.ws cs))).map bv), brow 5 v6 s.2, rowR v5 5 1 ((wbytes (viewWs (σ1).ws)).length) ((wbytes (viewWs (σ1).ws)).map bv), Dev p2 y4 (σ1), blk b1 65 ([.int .i64 pg, v1, v2, v3])]) (fun s => 8 * N - s.1) (0, wbytes (picked σ1.ws (pkC σ1.ws cs))) ⟨Nat.zero_le _, hXl⟩ (Sub.cons rfl (Sub.cons rfl (Sub.cons rfl (Sub.cons rfl (Sub.cons rfl (Sub.cons rfl (Sub.cons rfl (Sub.cons rfl Sub.nil)))))))) (List.Perm.refl _) ?_
   intro s hs
   obtain ⟨k, li⟩ := s
   dsimp only at hs ⊢
   have hil := hs.2
   refine At.seq ?_
   refine tR ?_
   refine tM rfl rfl ?_
   refine tM rfl rfl ?_
   refine At.val (Val.lenRow (i := 2) Try.underlying33 rfl rfl) rfl rfl rfl ?_
   refine At.val (Val.bin rfl rfl rfl) rfl rfl rfl ?_
   refine tE ?_
   refine At.cond rfl (fun h11 => ?_) (fun h11 => ?_)
   ·skip
    try simp only [hasB, isSizeB, Bool.not_eq_true', Bool.not_eq_false', bne_iff_ne, ne_eq, bne_eq_false_iff_eq, beq_iff_eq, beq_eq_false_iff_ne, decide_eq_true_eq, decide_eq_false_iff_not, gt_iff_lt, ge_iff_le] at h11
    refine At.skipC ?_
    refine At.thenN ?_
    refine At.seq ?_
    refine At.block ?_
    refine At.region ?_
    refine tM rfl rfl ?_
    refine tM rfl rfl ?_
    refine tM rfl rfl ?_
    refine tM rfl rfl ?_
    refine At.idxRowB (i := 2) rfl Try.underlying33 Try.sizeOf5 rfl rfl (by omega) (by omega) rfl rfl (fun q12 hq13 hl14 => ?_)
    refine At.val (Val.loadRowB (i := 2) Try.isAgg5 rfl rfl hq13) rfl rfl rfl ?_
    refine At.val (Val.bin rfl rfl rfl) rfl rfl rfl ?_
    rw [show ((q12.toNat : Nat) : Int) + 1 = ((q12.toNat + 1 : Nat) : Int) from by omega, wrap_u8_nat]
    refine At.idxRowB (i := 2) rfl Try.underlying33 Try.sizeOf5 rfl rfl (by omega) (by omega) rfl rfl (fun q15 hq16 hl17 => ?_)
    refine At.storeRowB (i := 2) (c := UInt8.ofNat (q12.toNat + 1)) Try.sizeOf5 rfl rfl rfl (by omega) ?_
    simp only [sc0, scS]
    refine At.nil ?_
    refine At.blkN ?_
    refine At.thenN ?_
    refine At.region ?_
    refine tM rfl rfl ?_
    first | refine At.val (Val.addI rfl rfl (by omega) (by omega)) rfl rfl rfl ?_ | refine At.val (Val.bin rfl rfl rfl) rfl rfl rfl ?_
    refine tA rfl rfl ?_
    refine tE ?_
    exact At.again (k + 1, li.set k _) ⟨(show k + 1 ≤ _ by omega), (by show (li.set _ _).length = _; rw [List.length_set]; exact hs.2)⟩ (by dsimp only; omega) (Sub.cons rfl (Sub.cons rfl (Sub.cons rfl (Sub.cons rfl (Sub.cons rfl (Sub.cons rfl (Sub.cons rfl (Sub.cons (congrArg (fun z => some (Value.int IntKind.i64 z)) (by omega)) Sub.nil)))))))) (List.Perm.refl _)
   ·skip
    try simp only [hasB, isSizeB, Bool.not_eq_true', Bool.not_eq_false', bne_iff_ne, ne_eq, bne_eq_false_iff_eq, beq_iff_eq, beq_eq_false_iff_ne, decide_eq_true_eq, decide_eq_false_iff_not, gt_iff_lt, ge_iff_le] at h11
    refine At.exitC ?_
    refine At.thenX ?_
    refine At.thenX ?_
    refine At.blkX ?_
    refine At.thenN ?_
    refine tR ?_
    refine tM rfl rfl ?_
    refine At.callDB 0 rfl (fun w hw hr => doubts_k _ _ _ w hr) Try.call27 rfl rfl (fun v18 Q19 hQ20 => ?_)
    refine tA rfl rfl ?_
    refine At.nil ?_
    obtain rfl := fst_nil hQ20 (dts_nil (load_calm _))
    refine At.thenN ?_
    refine At.seq ?_
    refine tR ?_
    refine tM rfl rfl ?_
    refine At.val (Val.lenDb (i := 0) rfl Try.underlying43 rfl) rfl rfl rfl ?_
    refine At.val (Val.bin rfl rfl rfl) rfl rfl rfl ?_
    refine tM rfl rfl ?_
    refine At.split (t := 75) rfl (fun h21 => ?_) (fun h21 => ?_)
    ·skip
     try simp only [hasB, isSizeB, Bool.not_eq_true', Bool.not_eq_false', bne_iff_ne, ne_eq, bne_eq_false_iff_eq, beq_iff_eq, beq_eq_false_iff_ne, decide_eq_true_eq, decide_eq_false_iff_not, gt_iff_lt, ge_iff_le] at h21
     simp at h21
    ·skip
     try simp only [hasB, isSizeB, Bool.not_eq_true', Bool.not_eq_false', bne_iff_ne, ne_eq, bne_eq_false_iff_eq, beq_iff_eq, beq_eq_false_iff_ne, decide_eq_true_eq, decide_eq_false_iff_not, gt_iff_lt, ge_iff_le] at h21
     refine At.yes rfl rfl ?_
     refine tM rfl rfl ?_
     refine At.yes rfl rfl ?_
     refine At.callK 1 rfl (fun w hw hr => steps_k _ _ _ w hr) Try.call38 rfl rfl ?_
     refine At.yes rfl rfl ?_
     refine At.val (Val.bin rfl rfl rfl) rfl rfl rfl ?_
     refine At.val (Val.pickF rfl rfl) rfl rfl rfl ?_
     refine tM rfl rfl ?_
     refine At.split (t := 80) rfl (fun h22 => ?_) (fun h22 => ?_)
     ·skip
      try simp only [hasB, isSizeB, Bool.not_eq_true', Bool.not_eq_false', bne_iff_ne, ne_eq, bne_eq_false_iff_eq, beq_iff_eq, beq_eq_false_iff_ne, decide_eq_true_eq, decide_eq_false_iff_not, gt_iff_lt, ge_iff_le] at h22
      exact absurd rfl h22
     ·skip
      try simp only [hasB, isSizeB, Bool.not_eq_true', Bool.not_eq_false', bne_iff_ne, ne_eq, bne_eq_false_iff_eq, beq_iff_eq, beq_eq_false_iff_ne, decide_eq_true_eq, decide_eq_false_iff_not, gt_iff_lt, ge_iff_le] at h22
      refine At.yes rfl rfl ?_
      refine tM rfl rfl ?_
      refine At.yes rfl rfl ?_
      refine At.callK 1 rfl (fun w hw hr => (by have h0 := dead_k _ _ _ w hr; rwa [dead_of (σ := loadD (wbytes (picked σ1.ws (pkC σ1.ws cs)))) rfl] at h0)) Try.call37 rfl rfl ?_
      refine At.val (Val.pickF rfl rfl) rfl rfl rfl ?_
      refine tM rfl rfl ?_
      refine At.yes rfl rfl ?_
      refine tM rfl rfl ?_
      refine At.yes rfl rfl ?_
      refine At.callK 1 rfl (fun w hw hr => size_k _ _ _ w hr) Try.call42 rfl rfl ?_
      refine At.yes rfl rfl ?_
      refine tM rfl rfl ?_
      refine At.yes rfl rfl ?_
      refine At.val (Val.bin rfl rfl rfl) rfl rfl rfl ?_
      refine At.val (Val.pickF rfl rfl) rfl rfl rfl ?_
      refine tE ?_
      refine At.cond rfl (fun h23 => ?_) (fun h23 => ?_)
      ·skip
       try simp only [hasB, isSizeB, Bool.not_eq_true', Bool.not_eq_false', bne_iff_ne, ne_eq, bne_eq_false_iff_eq, beq_iff_eq, beq_eq_false_iff_ne, decide_eq_true_eq, decide_eq_false_iff_not, gt_iff_lt, ge_iff_le] at h23
       rw [load_len, picked_length] at h23; omega
      ·skip
       try simp only [hasB, isSizeB, Bool.not_eq_true', Bool.not_eq_false', bne_iff_ne, ne_eq, bne_eq_false_iff_eq, beq_iff_eq, beq_eq_false_iff_ne, decide_eq_true_eq, decide_eq_false_iff_not, gt_iff_lt, ge_iff_le] at h23
       refine At.skipC ?_
       refine At.thenN ?_
       refine tR ?_
       refine tM rfl rfl ?_
       refine At.callRK 1 rfl (fun w hw hr => view_k _ _ _ w hr) Try.call22 rfl rfl (fun v24 => ?_)
       refine tM rfl rfl ?_
       refine At.callP (fun w hw => sameBytes_p _ _ _ _ w (row_rd (hw.row (i := 0) rfl) (by decide)) (row_rd (hw.row (i := 3) rfl) (by decide)) (by rw [wbytes_length, viewWs, List.length_map, load_len, picked_length]; omega) (by rw [hXl]; omega)) Try.call28 rfl rfl ?_
       rw [load_view, decide_eq_true rfl]
       ·skip
        refine tM rfl rfl ?_
        refine At.yes rfl rfl ?_
        refine tM rfl rfl ?_
        refine At.yes rfl rfl ?_
        refine At.val (Val.field 3 rfl fo_65_3 rfl) rfl rfl rfl ?_
        refine At.yes rfl rfl ?_
        refine At.val (Val.load (i := 7) Try.isAgg23 rfl rfl rfl) rfl rfl rfl ?_
        refine At.yes rfl rfl ?_
        refine At.callRK 2 rfl (fun w hw hr => crash_k _ _ _ v3 cs' w (hv3.mod hw.mod) (hv3.off (hw.newFoot (List.mem_of_getElem? (i := 2) rfl))) hr) Try.call21 rfl rfl (fun v25 => ?_)
        refine At.yes rfl rfl ?_
        refine tM rfl rfl ?_
        refine At.yes rfl rfl ?_
        refine At.callP (fun w hw => sameBytes_p _ _ _ _ w (row_rd (hw.row (i := 0) rfl) (by decide)) (row_rd (hw.row (i := 4) rfl) (by decide)) (by rw [wbytes_length, picked_length, load_len, picked_length]; omega) (by rw [hXl]; omega)) Try.call28 rfl rfl ?_
        rw [picked_nil (load_calm _), load_view, decide_eq_true rfl]
        ·skip
         refine At.val (Val.pickT rfl rfl) rfl rfl rfl ?_
         refine tM rfl rfl ?_
         refine At.yes rfl rfl ?_
         refine tM rfl rfl ?_
         refine At.yes rfl rfl ?_
         refine At.val (Val.field 2 rfl fo_65_2 rfl) rfl rfl rfl ?_
         refine At.yes rfl rfl ?_
         refine At.val (Val.load (i := 8) Try.isAgg23 rfl rfl rfl) rfl rfl rfl ?_
         refine At.yes rfl rfl ?_
         refine At.callRK 7 rfl (fun w hw hr => crash_k _ _ _ v2 cs w (hv2.mod hw.mod) (hv2.off (hw.newFoot (List.mem_of_getElem? (i := 7) rfl))) hr) Try.call21 rfl rfl (fun v26 => ?_)
         refine At.yes rfl rfl ?_
         refine tM rfl rfl ?_
         refine At.yes rfl rfl ?_
         refine At.callP (fun w hw => sameBytes_p _ _ _ _ w (row_rd (hw.row (i := 0) rfl) (by decide)) (row_rd (hw.row (i := 5) rfl) (by decide)) (by rw [hXl]; omega) (by rw [hXl]; omega)) Try.call28 rfl rfl ?_
         rw [decide_eq_true rfl]
         ·skip
          refine At.val (Val.pickT rfl rfl) rfl rfl rfl ?_
          refine tM rfl rfl ?_
          refine At.yes rfl rfl ?_
          refine tM rfl rfl ?_
          refine At.yes rfl rfl ?_
          refine At.callRK 8 rfl (fun w hw hr => view_k _ _ _ w hr) Try.call22 rfl rfl (fun v27 => ?_)
          refine At.yes rfl rfl ?_
          refine tM rfl rfl ?_
          refine At.yes rfl rfl ?_
          refine At.callP (fun w hw => sameBytes_p _ _ _ _ w (row_rd (hw.row (i := 0) rfl) (by decide)) (row_rd (hw.row (i := 8) rfl) (by decide)) (by rw [wbytes_length, viewWs, List.length_map]; omega) (by rw [wbytes_length, viewWs, List.length_map]; omega)) Try.call28 rfl rfl ?_
          rw [decide_eq_true rfl]
          ·skip
           refine At.val (Val.pickT rfl rfl) rfl rfl rfl ?_
           refine tA rfl rfl ?_
           refine tE ?_
           refine At.retC ?_
           refine At.ret1 (.inl rfl) rfl rfl rfl (fun w hw => ?_)
           exact ⟨rfl, hw.mod⟩

end Go.Proofs.Ytkpbpeajkfgfiaa
