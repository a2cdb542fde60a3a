/- Bytes that are read. -/
import Derived.Test.YtgighokkflchmaaP9
import Derived.Test.YtgighokkflchmaaDr
set_option linter.unusedVariables false
set_option linter.unusedSimpArgs false
namespace Go.Proofs.Ytgighokkflchmaa
open Go Go.Wk
section
variable {P : Program} {Γ : Ctx} {E : Env} {H : List Res} {ops : Array Oper} {R : Exit → Act → World → Prop} {rest : List Oper} {d : Nat} {ty : TypeId} {pos : String} {after : Array Edge}
/-- A call that reads one resource and makes a row, and answers something around it. -/
def RowKT (P : Program) (f : FuncId) (vs : List Value) (r : Res) (gv : Value → Value) (e sz n : Nat) (xs : List Value) (w : World) : Prop := Calls P f vs.toArray w fun q w' => ∃ v', q = .returned (gv v') ∧ Rep w (feet [r]) [rowR v' e sz n xs, r] w'
theorem At.callRKT (i : Nat) {r : Res} {gv : Value → Value} {e sz n : Nat} {xs : List Value} {f : FuncId} {l : List Operand} {vs : List Value} {at_ : Array TypeId} (hi : H[i]? = some r) (h : ∀ w, Rep Γ.w0 Γ.S H w → r.holds w → RowKT P f vs r gv e sz n xs w) (hc : ∀ args w, (callFunc f args).run P w = .ok (.enter f args) w) (hv : evs E l = some vs) (hn : Nat.blt d Γ.n = true)
    (c : ∀ v', At Γ ((d, gv v') :: E) (rowR v' e sz n xs :: H) (wpList P ops R rest)) :
    At Γ E H (wpList P ops R ({ dst := some d, op := .call { callee := .value (.func f), args := l.toArray, argTypes := at_ }, type := ty, pos, after, guard := none } :: rest)) :=
  At.call hc hv hn fun w hw => (h w hw (hw.all _ (List.mem_of_getElem? hi))).mono fun q w' ⟨v', he, hr⟩ => ⟨gv v', _, he, by
    have h1 : Rep Γ.w0 Γ.S ([r] ++ H.eraseIdx i) w := hw.perm (erase_perm H i r hi)
    exact (h1.frame (H0' := [rowR v' e sz n xs, r]) hr).perm ((erase_perm H i r hi).symm.cons _), c v'⟩
end


theorem wbytes_byte {xs : List (BitVec 64)} {k b : Nat} {x : BitVec 64} (h : xs[k]? = some x) (hb : b < 8) : (wbytes xs)[8 * k + b]? = some (UInt8.ofNat (x.toNat / 256 ^ b)) := by
  have := wbytes_take h
  have h2 : (((wbytes xs).drop (8 * k)).take 8)[b]? = (wbytes xs)[8 * k + b]? := by rw [List.getElem?_take, if_pos hb, List.getElem?_drop]
  rw [← h2, this]; exact le_get 8 _ b hb
/-- A part of a word, behind what was taken. -/
theorem take_part {xs : List (BitVec 64)} {a c r m : Nat} {x : BitVec 64} (h : xs[(a + c) / 8]? = some x) (hr : r = (a + c) % 8) (hm : r + m ≤ 8) : ((wbytes xs).drop a).take (c + m) = ((wbytes xs).drop a).take c ++ ((le8 x).drop r).take m := by
  subst hr
  rw [List.take_add]
  congr 1
  rw [List.drop_drop]
  apply List.ext_getElem?
  intro i
  rw [List.getElem?_take, List.getElem?_take]
  split
  · rename_i hi
    rw [List.getElem?_drop, List.getElem?_drop, show a + c + i = 8 * ((a + c) / 8) + ((a + c) % 8 + i) by omega, wbytes_byte h (by omega)]
    exact (le_get 8 _ _ (by omega)).symm
  · rfl
theorem At.appendPart {P : Program} {Γ : Ctx} {E : Env} {H : List Res} {ops : Array Oper} {Q : Exit → Act → World → Prop} {rest : List Oper} {d : Nat} {ty : TypeId} {pos : String} {after : Array Edge} {x y : Operand} {v : Value} {i j t e by_ b U r m c : Nat} {ti : TypeInfo} {z : Value} {l : List UInt8} {w8 : List UInt8} (ht : P.underlying t = some (.slice e)) (hti : P.info? e = some ti) (hz : ti.zero = some z) (hsize : ti.size = 1) (hby : ti.bytes = by_) (hzs : z.cells.size = 1)
    (hx : ev E x = some v) (hy : ev E y = some (.slice (some ⟨b, r, none⟩) m c)) (hi : H[i]? = some (brow e v l)) (hj : H[j]? = some (blk b U (w8.map bv))) (hm : r + m ≤ w8.length) (h63 : (l.length + m) * by_ ≤ 140737488355328) (h64 : l.length + m ≤ 140737488355328) (hn : Nat.blt d Γ.n = true)
    (k : ∀ v', At Γ ((d, v') :: E) (H.set i (brow e v' (l ++ (w8.drop r).take m))) (wpList P ops Q rest)) :
    At Γ E H (wpList P ops Q ({ dst := some d, op := .call { callee := .builtin .append, args := #[x, y], argTypes := #[t, t] }, type := ty, pos, after, guard := none } :: rest)) :=
  At.append (i := i) (ys := ((w8.drop r).take m).map bv) ht hti hz hsize hby hzs rfl hx hy hi (by rw [List.length_map, List.length_take, List.length_drop]; omega) (fun w hw j' u hj' => by
      refine ((hw.blk hj).cell (r + j')).trans ?_
      rw [List.getElem?_map, List.getElem?_take] at hj'
      split at hj'
      · rw [List.getElem?_drop] at hj'; rw [List.getElem?_map]; exact hj'
      · cases hj') (bv_one _) h63 h64 hn fun v' => by
    have := k v'
    have e1 : ((w8.drop r).take m).length = m := by rw [List.length_take, List.length_drop]; omega
    simpa only [brow, List.map_append, List.length_append, e1] using this

theorem read_s (p : Nat) (γ : Gh) (σ : Ds) (a n : Nat) (w : World) (han : a + n ≤ 8 * σ.ws.length) (hd : (Dev p γ σ).holds w) :
    RowKT Try.prog 8 [.pointer (some ⟨p, 0, none⟩), .int .i64 (a : Int), .int .i64 (n : Int)] (Dev p γ σ) (fun v' => .tuple #[v', .int .i64 0]) 5 1 (((wbytes (viewWs σ.ws)).drop a).take n).length ((((wbytes (viewWs σ.ws)).drop a).take n).map bv) w := by
 refine enterVc hd Try.func8 rfl Try.ntmps8 rfl ?_
 have hgd := Dev.good hd
 have hln := hgd.len
 simp only [envOf]
 refine tR ?_
 refine tA rfl rfl ?_
 refine tA rfl rfl ?_
 refine tE ?_
 refine At.seq ?_
 refine tR ?_
 refine tM rfl rfl ?_
 refine tM rfl rfl ?_
 refine tM rfl rfl ?_
 refine At.callK 0 rfl (fun w hw hr => has_k _ _ _ _ _ w hr) Try.call22 rfl rfl ?_
 refine At.val (Val.not rfl) rfl rfl rfl ?_
 refine tE ?_
 refine At.cond rfl (fun h1 => ?_) (fun h1 => ?_)
 ·skip
  try simp only [hasB, isSizeB, Bool.not_eq_true', Bool.not_eq_false', bne_iff_ne, ne_eq, bne_eq_false_iff_eq, beq_iff_eq, beq_eq_false_iff_ne, decide_eq_true_eq, decide_eq_false_iff_not, gt_iff_lt, ge_iff_le] at h1
  omega
 ·skip
  try simp only [hasB, isSizeB, Bool.not_eq_true', Bool.not_eq_false', bne_iff_ne, ne_eq, bne_eq_false_iff_eq, beq_iff_eq, beq_eq_false_iff_ne, decide_eq_true_eq, decide_eq_false_iff_not, gt_iff_lt, ge_iff_le] at h1
  refine At.skipC ?_
  refine At.thenN ?_
  refine tR ?_
  refine tM rfl rfl ?_
  refine At.makeRow0B (c := n) Try.underlying36 info_5 rfl rfl rfl rfl rfl (by omega) rfl (fun v2 => ?_)
  refine tA rfl rfl ?_
  refine tE ?_
  refine tR ?_
  refine At.alloc zero_61 zc_61 rfl (fun b3 => ?_)
  refine tE ?_
  refine At.seq ?_
  refine tR ?_
  refine tM rfl rfl ?_
  refine tA rfl rfl ?_
  refine tE ?_
  refine At.block ?_
  skip
  refine At.loop (σ := (Nat × Value) × List UInt8) (fun s => s.1.1 ≤ n ∧ s.2.length = 8) (fun s => [(0, .pointer (some ⟨p, 0, none⟩)), (1, .int .i64 (a : Int)), (2, .int .i64 (n : Int)), (8, s.1.2), (9, .pointer (some ⟨b3, 0, none⟩)), (10, .int .i64 ((a + s.1.1 : Nat) : Int))]) (fun s => [blk b3 61 (s.2.map bv), brow 5 s.1.2 (((wbytes (viewWs σ.ws)).drop a).take s.1.1), Dev p γ σ]) (fun s => n - s.1.1) ((0, v2), zs 8) ⟨Nat.zero_le _, rfl⟩ (Sub.cons rfl (Sub.cons rfl (Sub.cons rfl (Sub.cons rfl (Sub.cons rfl (Sub.cons rfl Sub.nil)))))) (by dsimp only; rw [zs_bv, List.take_zero]) ?_
  intro s hs
  obtain ⟨⟨c, vr⟩, w8⟩ := s
  dsimp only at hs ⊢
  obtain ⟨hcn, hw8⟩ := hs
  refine At.seq ?_
  refine tR ?_
  refine tM rfl rfl ?_
  refine tM rfl rfl ?_
  refine tM rfl rfl ?_
  first | refine At.val (Val.addI rfl rfl (by omega) (by omega)) rfl rfl rfl ?_ | refine At.val (Val.bin rfl rfl rfl) rfl rfl rfl ?_
  refine At.val (Val.bin rfl rfl rfl) rfl rfl rfl ?_
  refine tE ?_
  refine At.cond rfl (fun h4 => ?_) (fun h4 => ?_)
  ·skip
   try simp only [hasB, isSizeB, Bool.not_eq_true', Bool.not_eq_false', bne_iff_ne, ne_eq, bne_eq_false_iff_eq, beq_iff_eq, beq_eq_false_iff_ne, decide_eq_true_eq, decide_eq_false_iff_not, gt_iff_lt, ge_iff_le] at h4
   have hc : c < n := by omega
   obtain ⟨wd, hk⟩ : ∃ wd, σ.ws[(a + c) / 8]? = some wd := ⟨_, List.getElem?_eq_getElem (by omega)⟩
   have hv0 : (viewWs σ.ws)[(a + c) / 8]? = some (nowW wd) := by unfold viewWs; rw [List.getElem?_map, hk]; rfl
   obtain ⟨r, hr⟩ : ∃ r, r = (a + c) % 8 := ⟨_, rfl⟩
   have hr8 : r < 8 := by omega
   refine At.skipC ?_
   refine At.thenN ?_
   refine At.block ?_
   refine At.seq ?_
   refine At.tail 7 rfl (by decide +kernel) ?_
   simp only [List.take_succ_cons, List.take_zero, List.drop_succ_cons, List.drop_zero]
   refine QAt.val (Val.cutArr (b := b3) (o := 0) 0 8 0 8 8 Try.underlying61 Try.sizeOf5 rfl rfl rfl (by decide) (by decide) rfl rfl rfl) rfl rfl rfl ?_
   refine qM rfl rfl ?_
   refine qM rfl rfl ?_
   refine qM rfl rfl ?_
   first | refine QAt.val (Val.remI rfl rfl (by omega) (by decide)) rfl rfl rfl ?_ | refine QAt.val (Val.rem rfl rfl (by decide)) rfl rfl rfl ?_
   refine QAt.val (Val.subI rfl rfl (by omega) (by omega)) rfl rfl rfl ?_
   rw [show ((a + c : Nat) : Int) - ((a + c : Nat) : Int) % 8 = 8 * (((a + c) / 8 : Nat) : Int) from by omega]
   refine QAt.callK 2 rfl (fun w hw hr => now_k _ _ _ ((a + c) / 8) wd w hk hr) Try.call24 rfl rfl ?_
   refine QAt.fin ?_
   refine At.call1 0 rfl (fun w hw hr => putW_b b3 61 (w8.map bv) (nowW wd) w (by rw [List.length_map]; exact hw8) hr) Try.call23 rfl rfl ?_
   simp only [sc0, scS]
   refine tE ?_
   refine tR ?_
   refine tM rfl rfl ?_
   refine At.val (Val.remI rfl rfl (by omega) (by decide)) rfl rfl rfl ?_
   rw [show ((a + c : Nat) : Int) % 8 = (r : Int) from by omega]
   refine At.val (Val.cutArr (b := b3) (o := 0) r 8 r (8 - r) (8 - r) Try.underlying61 Try.sizeOf5 rfl ⟨_, _, rfl, by omega, by omega⟩ rfl (by omega) (by omega) (by rw [if_neg (by omega)]; omega) rfl rfl) rfl rfl rfl ?_
   refine tA rfl rfl ?_
   refine tE ?_
   refine At.join (σ := Nat) (fun m => m = min (8 - r) (n - c)) (fun m => [(0, .pointer (some ⟨p, 0, none⟩)), (1, .int .i64 (a : Int)), (2, .int .i64 (n : Int)), (8, vr), (9, .pointer (some ⟨b3, 0, none⟩)), (10, .int .i64 ((a + c : Nat) : Int)), (11, .slice (some ⟨b3, r, none⟩) m (8 - r))]) (fun m => [blk b3 61 ((le8 (nowW wd)).map bv), rowR vr 5 1 (((((wbytes (viewWs σ.ws)).drop a).take c)).length) (((((wbytes (viewWs σ.ws)).drop a).take c)).map bv), Dev p γ (σ)]) ?_ ?_
   ·skip
    refine tR ?_
    refine tM rfl rfl ?_
    refine At.val (Val.len (bt := #[]) Try.underlying36 rfl) rfl rfl rfl ?_
    refine tM rfl rfl ?_
    refine tM rfl rfl ?_
    first | refine At.val (Val.addI rfl rfl (by omega) (by omega)) rfl rfl rfl ?_ | refine At.val (Val.bin rfl rfl rfl) rfl rfl rfl ?_
    refine tM rfl rfl ?_
    first | refine At.val (Val.subI rfl rfl (by omega) (by omega)) rfl rfl rfl ?_ | refine At.val (Val.bin rfl rfl rfl) rfl rfl rfl ?_
    refine At.val (Val.bin rfl rfl rfl) rfl rfl rfl ?_
    refine tE ?_
    refine At.cond rfl (fun h5 => ?_) (fun h5 => ?_)
    ·skip
     try simp only [hasB, isSizeB, Bool.not_eq_true', Bool.not_eq_false', bne_iff_ne, ne_eq, bne_eq_false_iff_eq, beq_iff_eq, beq_eq_false_iff_ne, decide_eq_true_eq, decide_eq_false_iff_not, gt_iff_lt, ge_iff_le] at h5
     refine At.region ?_
     refine tM rfl rfl ?_
     refine tM rfl rfl ?_
     refine tM rfl rfl ?_
     first | refine At.val (Val.addI rfl rfl (by omega) (by omega)) rfl rfl rfl ?_ | refine At.val (Val.bin rfl rfl rfl) rfl rfl rfl ?_
     refine tM rfl rfl ?_
     first | refine At.val (Val.subI rfl rfl (by omega) (by omega)) rfl rfl rfl ?_ | refine At.val (Val.bin rfl rfl rfl) rfl rfl rfl ?_
     refine At.val (Val.cutSl (b := b3) (o := r) 0 (n - c) r (n - c) (8 - r) Try.underlying36 Try.sizeOf5 rfl rfl ⟨_, _, rfl, by omega, by omega⟩ (by omega) (by omega) (by split <;> omega) rfl rfl) rfl rfl rfl ?_
     refine tA rfl rfl ?_
     refine tE ?_
     exact At.meets _ (by omega) (Sub.cons rfl (Sub.cons rfl (Sub.cons rfl (Sub.cons rfl (Sub.cons rfl (Sub.cons rfl (Sub.cons rfl Sub.nil))))))) (List.Perm.refl _)
    ·skip
     try simp only [hasB, isSizeB, Bool.not_eq_true', Bool.not_eq_false', bne_iff_ne, ne_eq, bne_eq_false_iff_eq, beq_iff_eq, beq_eq_false_iff_ne, decide_eq_true_eq, decide_eq_false_iff_not, gt_iff_lt, ge_iff_le] at h5
     refine At.skipC ?_
     refine At.thenN ?_
     exact At.meets _ (by omega) (Sub.cons rfl (Sub.cons rfl (Sub.cons rfl (Sub.cons rfl (Sub.cons rfl (Sub.cons rfl (Sub.cons rfl Sub.nil))))))) (List.Perm.refl _)
   ·skip
    intro m hs
    have hm8 : r + m ≤ 8 := by omega
    have hm1 : 1 ≤ m := by omega
    refine tR ?_
    refine tM rfl rfl ?_
    refine tM rfl rfl ?_
    refine At.appendPart (i := 1) (j := 0) (by_ := 1) (w8 := le8 (nowW wd)) Try.underlying36 info_5 rfl rfl rfl rfl rfl rfl rfl rfl (by rw [le_length]; exact hm8) (by rw [List.length_take]; omega) (by rw [List.length_take]; omega) rfl (fun v6 => ?_)
    simp only [sc0, scS]
    refine tA rfl rfl ?_
    refine tE ?_
    refine At.region ?_
    refine tM rfl rfl ?_
    refine tM rfl rfl ?_
    refine At.val (Val.len (bt := #[]) Try.underlying36 rfl) rfl rfl rfl ?_
    first | refine At.val (Val.addI rfl rfl (by omega) (by omega)) rfl rfl rfl ?_ | refine At.val (Val.bin rfl rfl rfl) rfl rfl rfl ?_
    refine tA rfl rfl ?_
    refine At.nil ?_
    refine At.blkN ?_
    refine At.thenN ?_
    exact At.again ((c + m, v6), le8 (nowW wd)) ⟨(show c + m ≤ n by omega), le_length 8 _⟩ (by dsimp only; omega) (Sub.cons rfl (Sub.cons rfl (Sub.cons rfl (Sub.cons rfl (Sub.cons rfl (Sub.cons (congrArg (fun z => some (Value.int IntKind.i64 z)) (by dsimp only; omega)) Sub.nil)))))) (by dsimp only; rw [take_part hv0 hr hm8])
  ·skip
   try simp only [hasB, isSizeB, Bool.not_eq_true', Bool.not_eq_false', bne_iff_ne, ne_eq, bne_eq_false_iff_eq, beq_iff_eq, beq_eq_false_iff_ne, decide_eq_true_eq, decide_eq_false_iff_not, gt_iff_lt, ge_iff_le] at h4
   obtain rfl : c = n := by omega
   refine At.exitC ?_
   refine At.thenX ?_
   refine At.thenX ?_
   refine At.blkX ?_
   refine At.thenN ?_
   refine tR ?_
   refine tM rfl rfl ?_
   refine tA rfl rfl ?_
   refine tA rfl rfl ?_
   refine tE ?_
   refine At.retC ?_
   refine At.ret2 (.inl rfl) rfl rfl rfl rfl (fun w hw => ?_)
   exact ⟨_, rfl, hw.drop (List.Sublist.refl _ |>.cons _)⟩

end Go.Proofs.Ytgighokkflchmaa
