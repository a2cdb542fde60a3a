/- Parts of the proof, joined: see the law's text. -/
import Derived.Test.YtpihenmdkoojdaaDoorYa4
import Derived.Test.YtpihenmdkoojdaaDoorYa3
import Derived.Test.YtpihenmdkoojdaaDoorYa2
set_option linter.unusedVariables false
set_option linter.unusedSimpArgs false
namespace Go.Proofs.YtpihenmdkoojdaaDoor
open Go Go.Wk
section
variable {P : Program} {Γ : Ctx} {E : Env} {H : List Res} {ops : Array Oper} {Q : Exit → Act → World → Prop} {rest : List Oper} {d : Nat} {ty : TypeId} {pos : String} {after : Array Edge} {x y : Operand} {v : Value}
theorem Mod.drewAlloc (w : World) (o : Obj) : Mod (fun _ => False) w (w.drew.alloc o) := ⟨(Mod.alloc w.drew o).size, fun b hb h => (Mod.alloc w.drew o).old b hb h, rfl, rfl, rfl⟩
/-- append, and what it may do: in place, the row grows; else the old row stays, a new one stands beside. -/
theorem At.append2 {i t e sz by_ n m c o b ca : Nat} {A : Option Addr} {ti : TypeInfo} {z : Value} {xs ys : List Value} (ht : P.underlying t = some (.slice e)) (hti : P.info? e = some ti) (hz : ti.zero = some z) (hsize : ti.size = sz) (hby : ti.bytes = by_) (hzs : z.cells.size = sz) (hsz : Nat.blt 0 sz = true)
    (hx : ev E x = some (.slice A n ca)) (hy : ev E y = some (.slice (some ⟨b, o, none⟩) m c)) (hi : H[i]? = some (rowR (.slice A n ca) e sz n xs)) (hl : ys.length = m * sz)
    (hsrc : ∀ w, Rep Γ.w0 Γ.S H w → ∀ j u, ys[j]? = some u → w.cell? ⟨b, o + j, none⟩ = some u) (h1 : ∀ u ∈ ys, u.oneCell' = true) (h63 : (n + m) * by_ ≤ 140737488355328) (h64 : n + m ≤ 140737488355328) (hn : Nat.blt d Γ.n = true)
    (k : ∀ v' H', ((v' = .slice A (n + m) ca ∧ H' = H.set i (rowR (.slice A (n + m) ca) e sz (n + m) (xs ++ ys))) ∨ H' = rowR v' e sz (n + m) (xs ++ ys) :: H) → At Γ ((d, v') :: E) H' (wpList P ops Q rest)) :
    At Γ E H (wpList P ops Q ({ dst := some d, op := .call { callee := .builtin .append, args := #[x, y], argTypes := #[t, t] }, type := ty, pos, after, guard := none } :: rest)) :=
  At.run rfl rfl hn fun a w ha hw => by
    have h : w.ownsRow 0 e sz (.slice A n ca) n xs := hw.row hi
    have hsz' : 0 < sz := by simpa [Nat.blt_eq] using hsz
    have hnews : ∀ j u, ys[j]? = some u → w.cell? ((⟨b, o, none⟩ : Addr).add j) = some u := fun j u hj => by rw [Addr.add_off]; exact hsrc w hw j u hj
    have hmx : n + m ≤ maxLen := by simp only [maxLen]; omega
    rcases h.2 with ⟨hv, hn0⟩ | ⟨g, cap, cur, hv, hbg, hgg, hnc, hcm, hcs, htake⟩
    · have h' := h
      rw [hv, hn0] at h'
      obtain ⟨v', w', hr, ho, hg, _⟩ := run_append_own (P := P) w w.heap.size t ty e ti z sz by_ ht hti hz hsize hby hzs hsz' (.slice none 0 0) 0 xs ⟨h'.1, .inl ⟨rfl, rfl⟩⟩ ⟨b, o, none⟩ m c ys hl hnews h1 (by omega) (by rw [hn0] at h63; exact h63) (Nat.le_refl _)
      have hx' := hx
      rw [hv] at hx'
      refine ⟨v', w', _, by simp [execOp, resolve, invoke, builtin, ha.eval hx', ha.eval hy, Sem.run_bind, hr], hw.new (r' := rowR v' e sz (n + m) (xs ++ ys)) (grown_none hg) (by rw [hn0]; exact own_base ho) (fun b hb => own_block ho b hb), k v' _ (.inr rfl)⟩
    · simp only [Value.slice.injEq, true_and] at hv
      obtain ⟨rfl, rfl⟩ := hv
      obtain ⟨v', w', hr, ho, hg, hf⟩ := run_append_row (P := P) (ty := ty) ht hti hz hsize hby hzs hsz' h (a := ⟨b, o, none⟩) (m := m) (c := c) hl hnews h1 hmx h63
      by_cases hroom : n + m ≤ ca
      · have hfit : n * ti.size + ys.length ≤ cur.size := by rw [hl, hcs, hsize, ← Nat.add_mul]; exact Nat.mul_le_mul_right _ hroom
        have hr3 := run_append_room (P := P) w t ty e ti ht hti g n ca cur hgg ⟨b, o, none⟩ m c ys (by rw [hsize]; exact hl) hnews h1 hroom hfit
        rw [hr] at hr3
        injection hr3 with e1 e2
        subst e1
        exact ⟨_, w', _, by simp [execOp, resolve, invoke, builtin, ha.eval hx, ha.eval hy, Sem.run_bind, hr], hw.change hi (grown_mod hg) ho hf, k _ _ (.inl ⟨rfl, rfl⟩)⟩
      · have holds : ∀ j u, xs[j]? = some u → w.cell? ((⟨g, 0, none⟩ : Addr).add j) = some u := h.cells (g := g) rfl
        have hr3 := run_append_grow (P := P) w t ty e ti z ht hti hz ⟨g, 0, none⟩ n ca xs (by rw [hsize]; exact h.1) holds ⟨b, o, none⟩ m c ys (by rw [hsize]; exact hl) hnews (by omega) (by simp only [maxLen] at hmx; omega) (growslice_fits (by omega) (by rw [hby]; exact h63))
        rw [hr] at hr3
        injection hr3 with e1 e2
        subst e1 e2
        refine ⟨_, _, _, by simp [execOp, resolve, invoke, builtin, ha.eval hx, ha.eval hy, Sem.run_bind, hr], hw.new (Mod.drewAlloc w _) ho (fun b' hb' => ?_), k _ _ (.inr rfl)⟩
        have hb2 : some w.heap.size = some b' := hb'
        exact Nat.le_of_eq (Option.some.inj hb2)
/-- An element of what a row was before it grew. -/
theorem Val.indexRowP {i t el e sz n n' ca : Nat} {A : Option Addr} {xs : List Value} {k : IntKind} {j : Int} {dst : Option Nat} {g : Option (Nat × Bool)} (q : Nat) (hq : j.toNat * sz = q) (hu : P.underlying t = some (.slice el)) (hs : ∀ w, (sizeOf el).run P w = .ok sz w) (hx : ev E x = some (.slice A n' ca)) (hy : ev E y = some (.int k j))
    (hi : H[i]? = some (rowR (.slice A n ca) e sz n xs)) (hnn : n' ≤ n) (h0 : 0 ≤ j) (h1 : j < n') : Val P Γ E H ⟨dst, .indexAddr t x y, ty, pos, after, g⟩ (.pointer (some ⟨rowB (.slice A n ca), q, none⟩)) := fun a w ha hw => by
  have h : w.ownsRow 0 e sz (.slice A n ca) n xs := hw.all _ (List.mem_of_getElem? hi)
  rcases h.2 with ⟨hv, hn0⟩ | ⟨b, cap, cur, hv, _⟩
  · omega
  · simp only [Value.slice.injEq, true_and] at hv
    obtain ⟨rfl, rfl⟩ := hv
    have := Val.indexSl (P := P) (Γ := Γ) (E := E) (H := H) (dst := dst) (g := g) (ty := ty) (pos := pos) (after := after) (y := y) (o := 0) q (by omega) hu hs hx hy h0 h1 a w ha hw
    exact this
theorem prS_two (l : List (Int × Int)) (a b c e : Int) : prS l ++ [.int .i64 a, .int .i64 b, .int .i64 c, .int .i64 e] = prS (l ++ [(a, b), (c, e)]) := by rw [prS_append]; rfl
theorem At.appendS2 {i j t e by_ b U : Nat} {ti : TypeInfo} {z : Value} {l : List (Int × Int)} {a1 b1 a2 b2 : Int} (ht : P.underlying t = some (.slice e)) (hti : P.info? e = some ti) (hz : ti.zero = some z) (hsize : ti.size = 2) (hby : ti.bytes = by_) (hzs : z.cells.size = 2)
    (hx : ev E x = some v) (hy : ev E y = some (.slice (some ⟨b, 0, none⟩) 2 2)) (hi : H[i]? = some (rowR v e 2 l.length (prS l))) (hj : H[j]? = some (blk b U [.int .i64 a1, .int .i64 b1, .int .i64 a2, .int .i64 b2])) (h63 : (l.length + 2) * by_ ≤ 140737488355328) (h64 : l.length + 2 ≤ 140737488355328) (hn : Nat.blt d Γ.n = true)
    (k : ∀ v', At Γ ((d, v') :: E) (H.set i (rowR v' e 2 (l ++ [(a1, b1), (a2, b2)]).length (prS (l ++ [(a1, b1), (a2, b2)])))) (wpList P ops Q rest)) :
    At Γ E H (wpList P ops Q ({ dst := some d, op := .call { callee := .builtin .append, args := #[x, y], argTypes := #[t, t] }, type := ty, pos, after, guard := none } :: rest)) :=
  At.append (i := i) (ys := [.int .i64 a1, .int .i64 b1, .int .i64 a2, .int .i64 b2]) ht hti hz hsize hby hzs rfl hx hy hi rfl (fun w hw j' u hj' => by rw [Nat.zero_add]; exact ((hw.blk hj).cell j').trans hj') (by simp [Value.oneCell']) h63 h64 hn fun v' => by
    have := k v'
    rwa [← prS_two, List.length_append] at this
theorem At.append2S {i j t e by_ b U ca : Nat} {A : Option Addr} {ti : TypeInfo} {z : Value} {l : List (Int × Int)} {a1 b1 a2 b2 : Int} (ht : P.underlying t = some (.slice e)) (hti : P.info? e = some ti) (hz : ti.zero = some z) (hsize : ti.size = 2) (hby : ti.bytes = by_) (hzs : z.cells.size = 2)
    (hx : ev E x = some (.slice A l.length ca)) (hy : ev E y = some (.slice (some ⟨b, 0, none⟩) 2 2)) (hi : H[i]? = some (rowR (.slice A l.length ca) e 2 l.length (prS l))) (hj : H[j]? = some (blk b U [.int .i64 a1, .int .i64 b1, .int .i64 a2, .int .i64 b2])) (h63 : (l.length + 2) * by_ ≤ 140737488355328) (h64 : l.length + 2 ≤ 140737488355328) (hn : Nat.blt d Γ.n = true)
    (k : ∀ v' H', ((v' = .slice A (l ++ [(a1, b1), (a2, b2)]).length ca ∧ H' = H.set i (rowR (.slice A (l ++ [(a1, b1), (a2, b2)]).length ca) e 2 (l ++ [(a1, b1), (a2, b2)]).length (prS (l ++ [(a1, b1), (a2, b2)])))) ∨ H' = rowR v' e 2 (l ++ [(a1, b1), (a2, b2)]).length (prS (l ++ [(a1, b1), (a2, b2)])) :: H) → At Γ ((d, v') :: E) H' (wpList P ops Q rest)) :
    At Γ E H (wpList P ops Q ({ dst := some d, op := .call { callee := .builtin .append, args := #[x, y], argTypes := #[t, t] }, type := ty, pos, after, guard := none } :: rest)) :=
  At.append2 (i := i) (ys := [.int .i64 a1, .int .i64 b1, .int .i64 a2, .int .i64 b2]) ht hti hz hsize hby hzs rfl hx hy hi rfl (fun w hw j' u hj' => by rw [Nat.zero_add]; exact ((hw.blk hj).cell j').trans hj') (by simp [Value.oneCell']) h63 h64 hn fun v' H' h => by
    have := k v' H'
    rw [← prS_two, List.length_append] at this
    exact this h
end
/-- The first k spans written over. -/
def scr (k : Nat) (L : List (Int × Int)) : List (Int × Int) := (List.range L.length).map fun (j : Nat) => if j < k then (0 - (j : Int) - 1, (j : Int)) else L.getD j (0, 0)
theorem scr_length (k : Nat) (L : List (Int × Int)) : (scr k L).length = L.length := by simp [scr]
theorem scr_get {k j : Nat} {L : List (Int × Int)} (h : j < L.length) : (scr k L)[j]? = some (if j < k then (0 - (j : Int) - 1, (j : Int)) else L.getD j (0, 0)) := by unfold scr; rw [List.getElem?_map, List.getElem?_range h]; rfl
theorem scr_0 (L : List (Int × Int)) : scr 0 L = L := by
  apply List.ext_getElem?
  intro j
  rcases Nat.lt_or_ge j L.length with h | h
  · rw [scr_get h, if_neg (Nat.not_lt_zero _), List.getD_eq_getElem?_getD, List.getElem?_eq_getElem h]; rfl
  · rw [List.getElem?_eq_none (by rw [scr_length]; exact h), List.getElem?_eq_none h]
theorem scr_set {k : Nat} {L : List (Int × Int)} (h : k < L.length) : (scr k L).set k (0 - (k : Int) - 1, (k : Int)) = scr (k + 1) L := by
  apply List.ext_getElem?
  intro j
  rcases Nat.lt_or_ge j L.length with hj | hj
  · rw [scr_get hj]
    by_cases e : j = k
    · subst e
      rw [List.getElem?_set_self (by rw [scr_length]; exact h), if_pos (by omega)]
    · rw [List.getElem?_set_ne (Ne.symm e), scr_get hj]
      by_cases hl : j < k
      · rw [if_pos hl, if_pos (by omega)]
      · rw [if_neg hl, if_neg (by omega)]
  · rw [List.getElem?_eq_none (by rw [List.length_set, scr_length]; exact hj), List.getElem?_eq_none (by rw [scr_length]; exact hj)]
theorem lentIn_p (pg ino co lf : Int) (vM vW vL : Value) (MS : List Bool) (WS : List (Int × BitVec 64)) (cs : List Int) (w : World) (ht : Tab w) (hvM : Rd w vM 1 MS.length (MS.map Value.bool)) (hmM : MS.length ≤ 140737488355328) (hvW : RdP w vW WS) (hmW : WS.length ≤ 8796093022208) (hvL : RdI w vL cs) (hmL : cs.length ≤ 17592186044416) (hlf : -9223372036854775808 ≤ lf ∧ lf ≤ 9223372036854775807)  :
    PureC Tryd.prog 19 [.agg #[.int .i64 pg, .int .i64 ino, .int .i64 co, vM, vW, .int .i64 lf, vL]] (.bool true) w := by
 refine enter0 Tryd.func19 rfl Tryd.ntmps19 rfl ?_
 obtain ⟨S, hS⟩ : ∃ S, S = shV pg ino co := ⟨_, rfl⟩
 have hS' := shV_ok pg ino co
 rw [← hS] at hS'
 obtain ⟨P, I', C', D'⟩ := S
 dsimp only at hS'
 obtain ⟨hg, rfl⟩ := hS'
 have hg2 := hg
 unfold GoodSup at hg2
 obtain ⟨N, hN⟩ : ∃ N : Nat, 8 * (N : Int) = 512 * P := ⟨(64 * P).toNat, by omega⟩
 obtain ⟨vs0, hv0, hvl0, hv16, ha0, hst0⟩ := devD_ok (N := N) (by omega) (by omega) WS
 obtain ⟨σ0, hσ0⟩ : ∃ σ, σ = devD N WS := ⟨_, rfl⟩
 rw [← hσ0] at hv0 ha0 hst0
 simp only [envOf]
 refine tR ?_
 refine At.box rfl rfl rfl (fun b1 => ?_)
 refine tA rfl rfl ?_
 refine tE ?_
 refine tR ?_
 refine At.val (Val.loadAll (i := 0) Tryd.isAgg26 Tryd.sizeOf26 rfl rfl rfl) rfl rfl rfl ?_
 refine At.callP (fun w hw => (by have h0 := shape_p pg ino co lf vM vW vL w; rw [← hS] at h0; exact h0)) Tryd.call9 rfl rfl ?_
 refine At.alloc Tryd.zeroValue28 rfl rfl (fun b2 => ?_)
 refine At.storeAll (i := 0) Tryd.sizeOf28 rfl rfl rfl (by simp [Value.oneCell']) rfl rfl ?_
 simp only [sc0, scS]
 refine tE ?_
 refine tR ?_
 refine At.val (Val.loadAll (i := 1) Tryd.isAgg26 Tryd.sizeOf26 rfl rfl rfl) rfl rfl rfl ?_
 refine At.callYN (fun w hw => spans_n pg ino co lf vM vW vL MS w (hvM.mod hw.mod) hmM) Tryd.call10 rfl rfl (fun y hI => ?_)
 obtain ⟨vS, L⟩ := y
 dsimp only at hI ⊢
 have hso := hI
 obtain ⟨hsp, hle⟩ := hI
 refine At.rowIs (i := 0) rfl (fun A3 c4 hv => ?_)
 subst hv
 refine tA rfl rfl ?_
 refine tE ?_
 refine tR ?_
 refine At.val (Val.loadAll (i := 2) Tryd.isAgg26 Tryd.sizeOf26 rfl rfl rfl) rfl rfl rfl ?_
 refine At.callNB (fun w hw => (by have h0 := device_n pg ino co lf vM vW vL WS N w (hvW.mod hw.mod) hmW (by rw [← hS]; exact hN); rw [← hσ0] at h0; exact h0)) Tryd.call11 rfl rfl (fun p5 y6 => ?_)
 refine tM rfl rfl ?_
 refine At.val (Val.extract rfl rfl) rfl rfl rfl ?_
 refine At.val (Val.extract rfl rfl) rfl rfl rfl ?_
 refine tA rfl rfl ?_
 refine tA rfl rfl ?_
 refine tE ?_
 refine At.seq ?_
 refine tR ?_
 refine tM rfl rfl ?_
 refine At.val (Val.not rfl) rfl rfl rfl ?_
 refine tE ?_
 refine At.condF rfl ?_
 refine At.skipC ?_
 refine At.thenN ?_
 refine tR ?_
 refine tM rfl rfl ?_
 refine At.callN (fun w hw => copySp_n _ L w (row_rd (hw.row (i := 1) rfl) (by decide)) (by omega)) Tryd.call17 rfl rfl (fun v7 => ?_)
 refine At.rowIs (i := 0) rfl (fun A8 c9 hv => ?_)
 subst hv
 refine tA rfl rfl ?_
 refine tE ?_
 refine tR ?_
 refine tM rfl rfl ?_
 refine At.val (Val.build (fun a ha => by simp only [List.map_toArray, List.map_cons, List.map_nil, ha.eval (x := (.const (.int .i64 (71)))) rfl] <;> rfl) (bld_51_0 _ )) rfl rfl rfl ?_
 refine At.val (Val.build (fun a ha => by simp only [List.map_toArray, List.map_cons, List.map_nil, ha.eval (x := (.const (.int .i64 (72)))) rfl] <;> rfl) (bld_51_0 _ )) rfl rfl rfl ?_
 refine At.buildSl (fun a ha => by simp only [List.map_toArray, List.map_cons, List.map_nil, ha.eval (x := (.tmp 30)) rfl, ha.eval (x := (.tmp 31)) rfl]; try rfl) (bs_30_2 _ _ _ _ ) rfl (fun b10 => ?_)
 refine At.appendS2 (i := 1) (j := 0) (by_ := 16) Tryd.underlying30 info_51 rfl rfl rfl rfl rfl rfl rfl rfl (by omega) (by omega) rfl (fun v11 => ?_)
 simp only [sc0, scS]
 refine At.drop 0 ?_
 simp only [ec0, ecS]
 refine At.rowIs (i := 0) rfl (fun A12 c13 hv => ?_)
 subst hv
 refine tA rfl rfl ?_
 refine At.nil ?_
 have hLl : (L ++ [(71, 0), (72, 0)]).length = L.length + 2 := by rw [List.length_append]; rfl
 have cutL : List.take (L.length - 0) (List.drop 0 (L ++ [(71, 0), (72, 0)])) = L := by rw [List.drop_zero, Nat.sub_zero, List.take_left]
 refine At.thenN ?_
 refine tR ?_
 refine tM rfl rfl ?_
 refine tM rfl rfl ?_
 refine tM rfl rfl ?_
 refine At.val (Val.lenRow (i := 2) Tryd.underlying30 rfl rfl) rfl rfl rfl ?_
 refine At.val (Val.cutRow (i := 0) (l := 0) (h := L.length) rfl (by decide) Tryd.underlying30 Tryd.sizeOf51 rfl (by exact rfl) (by exact ⟨_, _, rfl, by omega, by omega⟩) (by omega) (by simp only [List.length_append]; omega)) rfl rfl rfl ?_
 obtain ⟨vs1, t1, ea1, eb1, hv1, ha1, hl1, hs1, hz1, hr1, hq1, hR1, hst1⟩ := save_x (L := (((L ++ [(71, 0), (72, 0)]).drop 0).take (L.length - 0))) hv0 ha0 hg (by omega) (by rw [cutL]; exact hso)
 obtain ⟨σ1, hσ1⟩ : ∃ σ, σ = (saveE σ0 (((L ++ [(71, 0), (72, 0)]).drop 0).take (L.length - 0))).2.2 := ⟨_, rfl⟩
 rw [← hσ1] at hv1 ha1 hst1
 have hvl1 := hl1.trans hvl0
 refine At.callD 1 rfl (fun w hw hr => (by have h0 := save_d _ _ _ _ (((L ++ [(71, 0), (72, 0)]).drop 0).take (L.length - 0)) w (ht.mod hw.mod) (Rep.off0 hw ht (fun h => h) (i := 1) rfl) (RdS.cut (L := (L ++ [(71, 0), (72, 0)])) (row_rd (hw.row (i := 0) rfl) (by decide)) (by omega) (by omega)) (Off.cutS (Rep.offRow (i := 0) (j := 1) hw rfl rfl (by decide))) (by first | omega | (simp only [List.length_take, List.length_drop]; omega) | (have h9 := growS_le L; omega)) (by omega) hr; rw [ea1, eb1, ← hσ1] at h0; exact h0)) Tryd.call12 rfl rfl (fun y14 => ?_)
 simp only [sc0, scS]
 refine tM rfl rfl ?_
 refine At.val (Val.extract rfl rfl) rfl rfl rfl ?_
 refine At.val (Val.extract rfl rfl) rfl rfl rfl ?_
 refine tA rfl rfl ?_
 refine tA rfl rfl ?_
 refine At.nil ?_
 have hIl : ((wbytes vs1) ++ [201, 202, 203, 204]).length = (wbytes vs1).length + 4 := by rw [List.length_append]; rfl
 have cutImg : ((((wbytes vs1) ++ [201, 202, 203, 204]).drop 0).take ((wbytes vs1).length - 0)) = (wbytes vs1) := by rw [List.drop_zero, Nat.sub_zero, List.take_left]
 have himl : (wbytes vs1).length = 8 * N := by rw [wbytes_length, hvl1]
 rw [cutL] at hR1
 refine At.thenN ?_
 refine tR ?_
 refine tM rfl rfl ?_
 refine At.callRK 1 rfl (fun w hw hr => (by have h0 := view_k _ _ _ w hr; rw [hv1, mkC_view] at h0; exact h0)) Tryd.call13 rfl rfl (fun v15 => ?_)
 refine tA rfl rfl ?_
 refine tE ?_
 refine tR ?_
 refine tM rfl rfl ?_
 refine At.val (Val.lenRow (i := 0) Tryd.underlying38 rfl rfl) rfl rfl rfl ?_
 refine tA rfl rfl ?_
 refine tE ?_
 refine tR ?_
 refine tM rfl rfl ?_
 refine At.callRK 2 rfl (fun w hw hr => (by have h0 := view_k _ _ _ w hr; rw [hv1, mkC_view] at h0; exact h0)) Tryd.call13 rfl rfl (fun v16 => ?_)
 refine At.buildSl (fun a ha => by simp only [List.map_toArray, List.map_cons, List.map_nil, ha.eval (x := (.const (.int .u8 (201)))) rfl, ha.eval (x := (.const (.int .u8 (202)))) rfl, ha.eval (x := (.const (.int .u8 (203)))) rfl, ha.eval (x := (.const (.int .u8 (204)))) rfl]; try rfl) (bs_38_4 _ _ _ _ ) rfl (fun b17 => ?_)
 refine At.appendBlkB (i := 1) (j := 0) (m := [201, 202, 203, 204]) (by_ := 1) Tryd.underlying38 info_5 rfl rfl rfl rfl rfl rfl rfl rfl rfl (by omega) (by omega) rfl (fun v18 => ?_)
 simp only [sc0, scS]
 refine tA rfl rfl ?_
 refine At.nil ?_
 refine At.rowIs (i := 1) rfl (fun A19 c20 hv => ?_)
 subst hv
 refine At.thenN ?_
 refine At.seq ?_
 apply At.any (t := 15)
 · rfl
 refine KAt.pin (fun w hw => hw) ?_
 refine KAt.take 0 (Val.move rfl) rfl rfl rfl rfl (fun w hw => hw) (by decide +kernel) ?_
 refine KAt.take 1 (Val.move rfl) rfl rfl rfl rfl (fun w hw => hw) (by decide +kernel) ?_
 refine KAt.take 2 (Val.cutRow (i := 1) (l := 0) (h := (wbytes vs1).length) rfl (by decide) Tryd.underlying38 Tryd.sizeOf5 rfl (by exact rfl) (by exact ⟨_, _, rfl, by omega, by omega⟩) (by omega) (by simp only [List.length_append]; omega)) rfl rfl rfl rfl (fun w hw => hw) (by decide +kernel) ?_
 refine KAt.take 3 (Val.loadAll (i := 6) Tryd.isAgg28 Tryd.sizeOf28 rfl rfl rfl) rfl rfl rfl rfl (fun w hw => hw) (by decide +kernel) ?_
 refine KAt.take 4 (Val.move rfl) rfl rfl rfl rfl (fun w hw => hw) (by decide +kernel) ?_
 refine KAt.take 5 (Val.move rfl) rfl rfl rfl rfl (fun w hw => hw) (by decide +kernel) ?_
 refine KAt.take 6 (Val.lenRow (i := 5) Tryd.underlying30 rfl rfl) rfl rfl rfl rfl (fun w hw => hw) (by decide +kernel) ?_
 refine KAt.take 7 (Val.cutRow (i := 3) (l := 0) (h := L.length) rfl (by decide) Tryd.underlying30 Tryd.sizeOf51 rfl (by exact rfl) (by exact ⟨_, _, rfl, by omega, by omega⟩) (by omega) (by simp only [List.length_append]; omega)) rfl rfl rfl rfl (fun w hw => hw) (by decide +kernel) ?_
 refine KAt.take 8 (Val.build (fun a ha => by simp only [List.map_toArray, List.map_cons, List.map_nil, ha.eval (x := (.tmp 55)) rfl, ha.eval (x := (.tmp 59)) rfl] <;> rfl) (bld_45_0_2 _ _ _ _ _ _ _ )) rfl rfl rfl rfl (fun w hw => hw) (by decide +kernel) ?_
 refine KAt.only 9 rfl (by decide +kernel) ?_
 refine At.callNT (g := (fun v => .tuple #[v, .int .i64 0])) (fun w hw => (by have h0 := restore_n _ _ (wbytes vs1) P I' C' (4 + I' / 8) L w (ht.mod hw.mod) (by have h8 := RdB.cut (l := 0) (h := (wbytes vs1).length) (row_rd (hw.row (i := 1) rfl) (by decide)) (by omega) (by simp only [List.length_append]; omega); rw [cutImg] at h8; exact h8) (by have h8 := RdS.cut (L := (L ++ [(71, 0), (72, 0)])) (l := 0) (h := L.length) (row_rd (hw.row (i := 3) rfl) (by decide)) (by omega) (by simp only [List.length_append]; omega); rw [cutL] at h8; exact h8) (by rw [wbytes_length]; omega) (by omega); rw [restL_yes ((hR1 L).trans (if_pos rfl)), ((hR1 L).trans (if_pos rfl))] at h0; exact h0)) Tryd.call14 rfl rfl (fun v21 => ?_)
 refine At.nil ?_
 refine KAt.go (fun w hw => hw.drop (List.Sublist.cons _ (List.Sublist.cons_cons _ (List.Sublist.cons_cons _ (List.Sublist.cons_cons _ (List.Sublist.cons_cons _ (List.Sublist.cons_cons _ (List.Sublist.cons_cons _ (List.Sublist.cons_cons _ (List.Sublist.cons_cons _ (List.Sublist.refl _))))))))))) ?_
 refine KAt.take 10 (Val.move rfl) rfl rfl rfl rfl (fun w hw => hw.drop (List.Sublist.cons _ (List.Sublist.cons_cons _ (List.Sublist.cons_cons _ (List.Sublist.cons_cons _ (List.Sublist.cons_cons _ (List.Sublist.cons_cons _ (List.Sublist.cons_cons _ (List.Sublist.cons_cons _ (List.Sublist.cons_cons _ (List.Sublist.refl _))))))))))) (by decide +kernel) ?_
 refine KAt.take 11 (Val.extract rfl rfl) rfl rfl rfl rfl (fun w hw => hw.drop (List.Sublist.cons _ (List.Sublist.cons_cons _ (List.Sublist.cons_cons _ (List.Sublist.cons_cons _ (List.Sublist.cons_cons _ (List.Sublist.cons_cons _ (List.Sublist.cons_cons _ (List.Sublist.cons_cons _ (List.Sublist.cons_cons _ (List.Sublist.refl _))))))))))) (by decide +kernel) ?_
 refine KAt.take 12 (Val.extract rfl rfl) rfl rfl rfl rfl (fun w hw => hw.drop (List.Sublist.cons _ (List.Sublist.cons_cons _ (List.Sublist.cons_cons _ (List.Sublist.cons_cons _ (List.Sublist.cons_cons _ (List.Sublist.cons_cons _ (List.Sublist.cons_cons _ (List.Sublist.cons_cons _ (List.Sublist.cons_cons _ (List.Sublist.refl _))))))))))) (by decide +kernel) ?_
 refine KAt.take 13 (Val.assign rfl) rfl rfl rfl rfl (fun w hw => hw.drop (List.Sublist.cons _ (List.Sublist.cons_cons _ (List.Sublist.cons_cons _ (List.Sublist.cons_cons _ (List.Sublist.cons_cons _ (List.Sublist.cons_cons _ (List.Sublist.cons_cons _ (List.Sublist.cons_cons _ (List.Sublist.cons_cons _ (List.Sublist.refl _))))))))))) (by decide +kernel) ?_
 refine KAt.take 14 (Val.assign rfl) rfl rfl rfl rfl (fun w hw => hw.drop (List.Sublist.cons _ (List.Sublist.cons_cons _ (List.Sublist.cons_cons _ (List.Sublist.cons_cons _ (List.Sublist.cons_cons _ (List.Sublist.cons_cons _ (List.Sublist.cons_cons _ (List.Sublist.cons_cons _ (List.Sublist.cons_cons _ (List.Sublist.refl _))))))))))) (by decide +kernel) ?_
 refine KAt.done (by decide +kernel) ?_
 refine At.thenN ?_
 refine At.seq ?_
 refine tR ?_
 refine tM rfl rfl ?_
 refine At.val (Val.not rfl) rfl rfl rfl ?_
 refine tM rfl rfl ?_
 refine At.yes rfl rfl ?_
 refine tM rfl rfl ?_
 refine At.yes rfl rfl ?_
 refine At.val (Val.bin rfl rfl rfl) rfl rfl rfl ?_
 refine At.val (Val.pickF rfl rfl) rfl rfl rfl ?_
 refine tM rfl rfl ?_
 refine At.yes rfl rfl ?_
 refine tM rfl rfl ?_
 refine At.yes rfl rfl ?_
 refine At.val (Val.bin rfl rfl rfl) rfl rfl rfl ?_
 refine At.val (Val.pickF rfl rfl) rfl rfl rfl ?_
 refine tM rfl rfl ?_
 refine At.yes rfl rfl ?_
 refine tM rfl rfl ?_
 refine At.yes rfl rfl ?_
 refine tM rfl rfl ?_
 refine At.yes rfl rfl ?_
 refine At.val (Val.cutRow (i := 2) (l := 0) (h := (wbytes vs1).length) rfl (by decide) Tryd.underlying38 Tryd.sizeOf5 rfl (by exact rfl) (by exact ⟨_, _, rfl, by omega, by omega⟩) (by omega) (by simp only [List.length_append]; omega)) rfl rfl rfl ?_
 refine At.yes rfl rfl ?_
 refine tM rfl rfl ?_
 refine At.yes rfl rfl ?_
 refine At.callP (fun w hw => (by have h0 := sameBytes_p _ _ (wbytes vs1) (wbytes vs1) w (by have h8 := RdB.cut (l := 0) (h := (wbytes vs1).length) (row_rd (hw.row (i := 2) rfl) (by decide)) (by omega) (by simp only [List.length_append]; omega); rw [cutImg] at h8; exact h8) (row_rd (hw.row (i := 3) rfl) (by decide)) (by rw [wbytes_length]; omega) (by rw [wbytes_length]; omega); rwa [decide_eq_true rfl] at h0)) Tryd.call18 rfl rfl ?_
 refine At.yes rfl rfl ?_
 refine At.val (Val.not rfl) rfl rfl rfl ?_
 refine At.val (Val.pickF rfl rfl) rfl rfl rfl ?_
 refine tM rfl rfl ?_
 refine At.yes rfl rfl ?_
 refine tM rfl rfl ?_
 refine At.yes rfl rfl ?_
 refine tM rfl rfl ?_
 refine At.yes rfl rfl ?_
 refine At.val (Val.lenRow (i := 6) Tryd.underlying30 rfl rfl) rfl rfl rfl ?_
 refine At.yes rfl rfl ?_
 refine At.val (Val.cutRow (i := 4) (l := 0) (h := L.length) rfl (by decide) Tryd.underlying30 Tryd.sizeOf51 rfl (by exact rfl) (by exact ⟨_, _, rfl, by omega, by omega⟩) (by omega) (by simp only [List.length_append]; omega)) rfl rfl rfl ?_
 refine At.yes rfl rfl ?_
 refine tM rfl rfl ?_
 refine At.yes rfl rfl ?_
 refine At.callP (fun w hw => (by have h0 := sameSpL_p _ _ L L w (by have h8 := RdS.cut (L := (L ++ [(71, 0), (72, 0)])) (l := 0) (h := L.length) (row_rd (hw.row (i := 4) rfl) (by decide)) (by omega) (by simp only [List.length_append]; omega); rw [cutL] at h8; exact h8) (row_rd (hw.row (i := 6) rfl) (by decide)) (by omega) (by omega); rwa [decide_eq_true rfl] at h0)) Tryd.call16 rfl rfl ?_
 refine At.yes rfl rfl ?_
 refine At.val (Val.not rfl) rfl rfl rfl ?_
 refine At.val (Val.pickF rfl rfl) rfl rfl rfl ?_
 refine tE ?_
 refine At.condF rfl ?_
 refine At.skipC ?_
 refine At.thenN ?_
 refine tR ?_
 refine tM rfl rfl ?_
 refine At.val (Val.lenRow (i := 6) Tryd.underlying30 rfl rfl) rfl rfl rfl ?_
 refine tA rfl rfl ?_
 refine tE ?_
 refine tR ?_
 refine tM rfl rfl ?_
 refine tM rfl rfl ?_
 refine At.val (Val.indexRow (i := 2) ((wbytes vs1).length + 0) (by omega) Tryd.underlying38 Tryd.sizeOf5 rfl rfl rfl (by omega) (by simp only [List.length_append]; rw [show ([201, 202, 203, 204] : List UInt8).length = 4 from rfl]; omega)) rfl rfl rfl ?_
 refine At.val (Val.loadRowB (c := 201) (i := 2) Tryd.isAgg5 rfl rfl (by rw [List.getElem?_append_right (by omega), show (wbytes vs1).length + 0 - (wbytes vs1).length = 0 from by omega]; rfl)) rfl rfl rfl ?_
 refine At.val (Val.bin rfl rfl rfl) rfl rfl rfl ?_
 refine tM rfl rfl ?_
 refine At.yes rfl rfl ?_
 refine tM rfl rfl ?_
 refine At.yes rfl rfl ?_
 refine tM rfl rfl ?_
 refine At.yes rfl rfl ?_
 first | refine At.val (Val.addI rfl rfl (by omega) (by omega)) rfl rfl rfl ?_ | refine At.val (Val.bin rfl rfl rfl) rfl rfl rfl ?_
 refine At.yes rfl rfl ?_
 refine At.val (Val.indexRow (i := 2) ((wbytes vs1).length + 1) (by omega) Tryd.underlying38 Tryd.sizeOf5 rfl rfl rfl (by omega) (by simp only [List.length_append]; rw [show ([201, 202, 203, 204] : List UInt8).length = 4 from rfl]; omega)) rfl rfl rfl ?_
 refine At.yes rfl rfl ?_
 refine At.val (Val.loadRowB (c := 202) (i := 2) Tryd.isAgg5 rfl rfl (by rw [List.getElem?_append_right (by omega), show (wbytes vs1).length + 1 - (wbytes vs1).length = 1 from by omega]; rfl)) rfl rfl rfl ?_
 refine At.yes rfl rfl ?_
 refine At.val (Val.bin rfl rfl rfl) rfl rfl rfl ?_
 refine At.val (Val.pickT rfl rfl) rfl rfl rfl ?_
 refine tM rfl rfl ?_
 refine At.yes rfl rfl ?_
 refine tM rfl rfl ?_
 refine At.yes rfl rfl ?_
 refine tM rfl rfl ?_
 refine At.yes rfl rfl ?_
 first | refine At.val (Val.addI rfl rfl (by omega) (by omega)) rfl rfl rfl ?_ | refine At.val (Val.bin rfl rfl rfl) rfl rfl rfl ?_
 refine At.yes rfl rfl ?_
 refine At.val (Val.indexRow (i := 2) ((wbytes vs1).length + 2) (by omega) Tryd.underlying38 Tryd.sizeOf5 rfl rfl rfl (by omega) (by simp only [List.length_append]; rw [show ([201, 202, 203, 204] : List UInt8).length = 4 from rfl]; omega)) rfl rfl rfl ?_
 refine At.yes rfl rfl ?_
 refine At.val (Val.loadRowB (c := 203) (i := 2) Tryd.isAgg5 rfl rfl (by rw [List.getElem?_append_right (by omega), show (wbytes vs1).length + 2 - (wbytes vs1).length = 2 from by omega]; rfl)) rfl rfl rfl ?_
 refine At.yes rfl rfl ?_
 refine At.val (Val.bin rfl rfl rfl) rfl rfl rfl ?_
 refine At.val (Val.pickT rfl rfl) rfl rfl rfl ?_
 refine tM rfl rfl ?_
 refine At.yes rfl rfl ?_
 refine tM rfl rfl ?_
 refine At.yes rfl rfl ?_
 refine tM rfl rfl ?_
 refine At.yes rfl rfl ?_
 first | refine At.val (Val.addI rfl rfl (by omega) (by omega)) rfl rfl rfl ?_ | refine At.val (Val.bin rfl rfl rfl) rfl rfl rfl ?_
 refine At.yes rfl rfl ?_
 refine At.val (Val.indexRow (i := 2) ((wbytes vs1).length + 3) (by omega) Tryd.underlying38 Tryd.sizeOf5 rfl rfl rfl (by omega) (by simp only [List.length_append]; rw [show ([201, 202, 203, 204] : List UInt8).length = 4 from rfl]; omega)) rfl rfl rfl ?_
 refine At.yes rfl rfl ?_
 refine At.val (Val.loadRowB (c := 204) (i := 2) Tryd.isAgg5 rfl rfl (by rw [List.getElem?_append_right (by omega), show (wbytes vs1).length + 3 - (wbytes vs1).length = 3 from by omega]; rfl)) rfl rfl rfl ?_
 refine At.yes rfl rfl ?_
 refine At.val (Val.bin rfl rfl rfl) rfl rfl rfl ?_
 refine At.val (Val.pickT rfl rfl) rfl rfl rfl ?_
 refine tM rfl rfl ?_
 refine At.yes rfl rfl ?_
 refine tM rfl rfl ?_
 refine At.yes rfl rfl ?_
 refine tM rfl rfl ?_
 refine At.yes rfl rfl ?_
 refine At.val (Val.indexRow (i := 4) ((L.length + 0) * 2) (by omega) Tryd.underlying30 Tryd.sizeOf51 rfl rfl rfl (by omega) (by simp only [List.length_append, List.length_cons, List.length_nil]; omega)) rfl rfl rfl ?_
 refine At.yes rfl rfl ?_
 refine At.val (Val.field ((((L.length + 0) * 2) + 0)) rfl fo_51_0 rfl) rfl rfl rfl ?_
 refine At.yes rfl rfl ?_
 refine At.val (Val.loadRow (u := .int .i64 71) (i := 4) Tryd.isAgg3 rfl rfl (prS_at (c := (71, 0)) (by rw [List.getElem?_append_right (by omega), show L.length + 0 - L.length = 0 from by omega]; rfl)).1) rfl rfl rfl ?_
 refine At.yes rfl rfl ?_
 refine At.val (Val.bin rfl rfl rfl) rfl rfl rfl ?_
 refine At.val (Val.pickT rfl rfl) rfl rfl rfl ?_
 refine tM rfl rfl ?_
 refine At.yes rfl rfl ?_
 refine tM rfl rfl ?_
 refine At.yes rfl rfl ?_
 refine tM rfl rfl ?_
 refine At.yes rfl rfl ?_
 first | refine At.val (Val.addI rfl rfl (by omega) (by omega)) rfl rfl rfl ?_ | refine At.val (Val.bin rfl rfl rfl) rfl rfl rfl ?_
 refine At.yes rfl rfl ?_
 refine At.val (Val.indexRow (i := 4) ((L.length + 1) * 2) (by omega) Tryd.underlying30 Tryd.sizeOf51 rfl rfl rfl (by omega) (by simp only [List.length_append, List.length_cons, List.length_nil]; omega)) rfl rfl rfl ?_
 refine At.yes rfl rfl ?_
 refine At.val (Val.field ((((L.length + 1) * 2) + 0)) rfl fo_51_0 rfl) rfl rfl rfl ?_
 refine At.yes rfl rfl ?_
 refine At.val (Val.loadRow (u := .int .i64 72) (i := 4) Tryd.isAgg3 rfl rfl (prS_at (c := (72, 0)) (by rw [List.getElem?_append_right (by omega), show L.length + 1 - L.length = 1 from by omega]; rfl)).1) rfl rfl rfl ?_
 refine At.yes rfl rfl ?_
 refine At.val (Val.bin rfl rfl rfl) rfl rfl rfl ?_
 refine At.val (Val.pickT rfl rfl) rfl rfl rfl ?_
 refine tA rfl rfl ?_
 refine tE ?_
 refine At.retC ?_
 refine At.ret1 (.inl rfl) rfl rfl rfl (fun w hw => ?_)
 exact ⟨rfl, hw.mod⟩
theorem lawSavedApart_p (pg ino co lf : Int) (vM vW vL : Value) (MS : List Bool) (WS : List (Int × BitVec 64)) (cs : List Int) (w : World) (ht : Tab w) (hvM : Rd w vM 1 MS.length (MS.map Value.bool)) (hmM : MS.length ≤ 140737488355328) (hvW : RdP w vW WS) (hmW : WS.length ≤ 8796093022208) (hvL : RdI w vL cs) (hmL : cs.length ≤ 17592186044416) (hlf : -9223372036854775808 ≤ lf ∧ lf ≤ 9223372036854775807)  :
    PureC Tryd.prog 5 [.agg #[.int .i64 pg, .int .i64 ino, .int .i64 co, vM, vW, .int .i64 lf, vL]] (.bool true) w := by
 refine enter0 Tryd.func5 rfl Tryd.ntmps5 rfl ?_
 obtain ⟨S, hS⟩ : ∃ S, S = shV pg ino co := ⟨_, rfl⟩
 have hS' := shV_ok pg ino co
 rw [← hS] at hS'
 obtain ⟨P, I', C', D'⟩ := S
 dsimp only at hS'
 obtain ⟨hg, rfl⟩ := hS'
 have hg2 := hg
 unfold GoodSup at hg2
 obtain ⟨N, hN⟩ : ∃ N : Nat, 8 * (N : Int) = 512 * P := ⟨(64 * P).toNat, by omega⟩
 obtain ⟨vs0, hv0, hvl0, hv16, ha0, hst0⟩ := devD_ok (N := N) (by omega) (by omega) WS
 obtain ⟨σ0, hσ0⟩ : ∃ σ, σ = devD N WS := ⟨_, rfl⟩
 rw [← hσ0] at hv0 ha0 hst0
 simp only [envOf]
 refine tR ?_
 refine At.box rfl rfl rfl (fun b1 => ?_)
 refine tA rfl rfl ?_
 refine tE ?_
 refine tR ?_
 refine At.val (Val.loadAll (i := 0) Tryd.isAgg26 Tryd.sizeOf26 rfl rfl rfl) rfl rfl rfl ?_
 refine At.callP (fun w hw => (by have h0 := shape_p pg ino co lf vM vW vL w; rw [← hS] at h0; exact h0)) Tryd.call9 rfl rfl ?_
 refine At.alloc Tryd.zeroValue28 rfl rfl (fun b2 => ?_)
 refine At.storeAll (i := 0) Tryd.sizeOf28 rfl rfl rfl (by simp [Value.oneCell']) rfl rfl ?_
 simp only [sc0, scS]
 refine tE ?_
 refine tR ?_
 refine At.val (Val.loadAll (i := 1) Tryd.isAgg26 Tryd.sizeOf26 rfl rfl rfl) rfl rfl rfl ?_
 refine At.callYN (fun w hw => spans_n pg ino co lf vM vW vL MS w (hvM.mod hw.mod) hmM) Tryd.call10 rfl rfl (fun y hI => ?_)
 obtain ⟨vS, L⟩ := y
 dsimp only at hI ⊢
 have hso := hI
 obtain ⟨hsp, hle⟩ := hI
 refine At.rowIs (i := 0) rfl (fun A3 c4 hv => ?_)
 subst hv
 refine tA rfl rfl ?_
 refine tE ?_
 refine tR ?_
 refine At.val (Val.loadAll (i := 2) Tryd.isAgg26 Tryd.sizeOf26 rfl rfl rfl) rfl rfl rfl ?_
 refine At.callNB (fun w hw => (by have h0 := device_n pg ino co lf vM vW vL WS N w (hvW.mod hw.mod) hmW (by rw [← hS]; exact hN); rw [← hσ0] at h0; exact h0)) Tryd.call11 rfl rfl (fun p5 y6 => ?_)
 refine tM rfl rfl ?_
 refine At.val (Val.extract rfl rfl) rfl rfl rfl ?_
 refine At.val (Val.extract rfl rfl) rfl rfl rfl ?_
 refine tA rfl rfl ?_
 refine tA rfl rfl ?_
 refine tE ?_
 refine At.seq ?_
 refine tR ?_
 refine tM rfl rfl ?_
 refine At.val (Val.not rfl) rfl rfl rfl ?_
 refine tE ?_
 refine At.condF rfl ?_
 refine At.skipC ?_
 refine At.thenN ?_
 refine tR ?_
 refine tM rfl rfl ?_
 refine tM rfl rfl ?_
 obtain ⟨vs1, t1, ea1, eb1, hv1, ha1, hl1, hs1, hz1, hr1, hq1, hR1, hst1⟩ := save_x (L := L) hv0 ha0 hg (by omega) hso
 obtain ⟨σ1, hσ1⟩ : ∃ σ, σ = (saveE σ0 L).2.2 := ⟨_, rfl⟩
 rw [← hσ1] at hv1 ha1 hst1
 have hvl1 := hl1.trans hvl0
 refine At.callD 0 rfl (fun w hw hr => (by have h0 := save_d _ _ _ _ L w (ht.mod hw.mod) (Rep.off0 hw ht (fun h => h) (i := 0) rfl) (row_rd (hw.row (i := 1) rfl) (by decide)) (Rep.offRow (i := 1) (j := 0) hw rfl rfl (by decide)) (by first | omega | (simp only [List.length_take, List.length_drop]; omega) | (have h9 := growS_le L; omega)) (by omega) hr; rw [ea1, eb1, ← hσ1] at h0; exact h0)) Tryd.call12 rfl rfl (fun y7 => ?_)
 simp only [sc0, scS]
 refine tM rfl rfl ?_
 refine At.val (Val.extract rfl rfl) rfl rfl rfl ?_
 refine At.val (Val.extract rfl rfl) rfl rfl rfl ?_
 refine tA rfl rfl ?_
 refine tA rfl rfl ?_
 refine tE ?_
 refine tR ?_
 refine tM rfl rfl ?_
 refine At.callRK 0 rfl (fun w hw hr => (by have h0 := view_k _ _ _ w hr; rw [hv1, mkC_view] at h0; exact h0)) Tryd.call13 rfl rfl (fun v8 => ?_)
 refine tA rfl rfl ?_
 refine tE ?_
 refine tR ?_
 refine tM rfl rfl ?_
 refine At.callRK 1 rfl (fun w hw hr => (by have h0 := view_k _ _ _ w hr; rw [hv1, mkC_view] at h0; exact h0)) Tryd.call13 rfl rfl (fun v9 => ?_)
 refine tA rfl rfl ?_
 refine tE ?_
 refine At.seq ?_
 apply At.any (t := 6)
 · rfl
 refine KAt.pin (fun w hw => hw) ?_
 refine KAt.take 0 (Val.loadAll (i := 4) Tryd.isAgg28 Tryd.sizeOf28 rfl rfl rfl) rfl rfl rfl rfl (fun w hw => hw) (by decide +kernel) ?_
 refine KAt.take 1 (Val.move rfl) rfl rfl rfl rfl (fun w hw => hw) (by decide +kernel) ?_
 refine KAt.two 2 4 rfl rfl (by decide +kernel) ?_ ?_
 ·skip
  refine At.callN (fun w hw => copySp_n _ L w (row_rd (hw.row (i := 3) rfl) (by decide)) (by omega)) Tryd.call17 rfl rfl (fun v10 => ?_)
  refine At.rowIs (i := 0) rfl (fun A11 c12 hv => ?_)
  subst hv
  refine At.nil ?_
  refine KAt.go (fun w hw => hw.drop (List.Sublist.cons _ (List.Sublist.cons_cons _ (List.Sublist.cons_cons _ (List.Sublist.cons_cons _ (List.Sublist.cons_cons _ (List.Sublist.cons_cons _ (List.Sublist.cons_cons _ (List.Sublist.refl _))))))))) ?_
  refine KAt.take 3 (Val.build (fun a ha => by simp only [List.map_toArray, List.map_cons, List.map_nil, ha.eval (x := (.tmp 41)) rfl, ha.eval (x := (.tmp 43)) rfl] <;> rfl) (bld_45_0_2 _ _ _ _ _ _ _ )) rfl rfl rfl rfl (fun w hw => hw.drop (List.Sublist.cons _ (List.Sublist.cons_cons _ (List.Sublist.cons_cons _ (List.Sublist.cons_cons _ (List.Sublist.cons_cons _ (List.Sublist.cons_cons _ (List.Sublist.cons_cons _ (List.Sublist.refl _))))))))) (by decide +kernel) ?_
  refine KAt.only 4 rfl (by decide +kernel) ?_
  refine At.alloc Tryd.zeroValue45 rfl rfl (fun b13 => ?_)
  refine At.nil ?_
  refine KAt.go (fun w hw => hw.drop (List.Sublist.cons _ (List.Sublist.cons _ (List.Sublist.cons_cons _ (List.Sublist.cons_cons _ (List.Sublist.cons_cons _ (List.Sublist.cons_cons _ (List.Sublist.cons_cons _ (List.Sublist.cons_cons _ (List.Sublist.refl _)))))))))) ?_
  refine KAt.only 5 rfl (by decide +kernel) ?_
  refine At.rowOne (i := 1) rfl (fun ho14 => ?_)
  refine At.storeAll (i := 0) Tryd.sizeOf45 rfl rfl rfl (by intro u hu; simp only [List.mem_cons, List.not_mem_nil, or_false] at hu; rcases hu with rfl | rfl | rfl | rfl | rfl | rfl <;> first | rfl | assumption) rfl rfl ?_
  simp only [sc0, scS]
  refine At.nil ?_
  refine KAt.go (fun w hw => hw.drop (List.Sublist.cons _ (List.Sublist.cons _ (List.Sublist.cons_cons _ (List.Sublist.cons_cons _ (List.Sublist.cons_cons _ (List.Sublist.cons_cons _ (List.Sublist.cons_cons _ (List.Sublist.cons_cons _ (List.Sublist.refl _)))))))))) ?_
  refine KAt.done (by decide +kernel) ?_
  refine At.thenN ?_
  refine tR ?_
  refine tM rfl rfl ?_
  refine At.val (Val.loadAll (i := 0) Tryd.isAgg45 Tryd.sizeOf45 rfl rfl rfl) rfl rfl rfl ?_
  refine At.callNT (g := (fun v => .tuple #[v, .int .i64 0])) (fun w hw => (by have h0 := restore_n _ _ (wbytes vs1) P I' C' (4 + I' / 8) L w (ht.mod hw.mod) (row_rd (hw.row (i := 3) rfl) (by decide)) (row_rd (hw.row (i := 1) rfl) (by decide)) (by rw [wbytes_length]; omega) (by first | omega | (simp only [List.length_take, List.length_drop]; omega) | (have h9 := growS_le L; omega)); rw [restL_yes ((hR1 L).trans (if_pos rfl)), (hR1 L).trans (if_pos rfl)] at h0; exact h0)) Tryd.call14 rfl rfl (fun v15 => ?_)
  refine tM rfl rfl ?_
  refine At.val (Val.extract rfl rfl) rfl rfl rfl ?_
  refine At.val (Val.extract rfl rfl) rfl rfl rfl ?_
  refine tA rfl rfl ?_
  refine tA rfl rfl ?_
  refine tE ?_
  refine At.seq ?_
  refine tR ?_
  refine tM rfl rfl ?_
  refine At.val (Val.not rfl) rfl rfl rfl ?_
  refine tM rfl rfl ?_
  refine At.yes rfl rfl ?_
  refine tM rfl rfl ?_
  refine At.yes rfl rfl ?_
  refine At.val (Val.bin rfl rfl rfl) rfl rfl rfl ?_
  refine At.val (Val.pickF rfl rfl) rfl rfl rfl ?_
  refine tM rfl rfl ?_
  refine At.yes rfl rfl ?_
  refine tM rfl rfl ?_
  refine At.yes rfl rfl ?_
  refine At.val (Val.bin rfl rfl rfl) rfl rfl rfl ?_
  refine At.val (Val.pickF rfl rfl) rfl rfl rfl ?_
  refine tM rfl rfl ?_
  refine At.yes rfl rfl ?_
  refine tM rfl rfl ?_
  refine At.yes rfl rfl ?_
  refine tM rfl rfl ?_
  refine At.yes rfl rfl ?_
  refine At.callP (fun w hw => (by have h0 := sameSpL_p _ _ L L w (row_rd (hw.row (i := 0) rfl) (by decide)) (row_rd (hw.row (i := 6) rfl) (by decide)) (by first | omega | (simp only [List.length_take, List.length_drop]; omega) | (have h9 := growS_le L; omega)) (by first | omega | (simp only [List.length_take, List.length_drop]; omega) | (have h9 := growS_le L; omega)); rwa [decide_eq_true rfl] at h0)) Tryd.call16 rfl rfl ?_
  refine At.yes rfl rfl ?_
  refine At.val (Val.not rfl) rfl rfl rfl ?_
  refine At.val (Val.pickF rfl rfl) rfl rfl rfl ?_
  refine tE ?_
  refine At.condF rfl ?_
  refine At.skipC ?_
  refine At.thenN ?_
  refine At.seq ?_
  refine tR ?_
  refine tA rfl rfl ?_
  refine tE ?_
  refine At.block ?_
  skip
  refine At.loop (σ := Nat) (fun k => k ≤ L.length) (fun k => [(1, .pointer (some ⟨b1, 0, none⟩)), (4, (.slice A3 ((L).length) c4)), (9, v8), (10, v9), (11, .pointer (some ⟨b13, 0, none⟩)), (12, v15), (14, .int .i64 (k : Int))]) (fun k => [rowR v15 51 2 (((scr k L)).length) (prS ((scr k L))), blk b13 45 ([.int .i64 P, .int .i64 I', .int .i64 C', .int .i64 (4 + I' / 8), .slice none 0 0, (.slice A11 ((L).length) c12)]), rowR (.slice A11 ((L).length) c12) 51 2 ((L).length) (prS (L)), rowR v9 5 1 ((wbytes vs1).length) ((wbytes vs1).map bv), rowR v8 5 1 ((wbytes vs1).length) ((wbytes vs1).map bv), Dev p5 y7 (σ1), rowR (.slice A3 ((L).length) c4) 51 2 ((L).length) (prS (L)), blk b2 28 ([.int .i64 P, .int .i64 I', .int .i64 C', .int .i64 (4 + I' / 8)]), blk b1 26 ([.int .i64 pg, .int .i64 ino, .int .i64 co, vM, vW, .int .i64 lf, vL])]) (fun k => L.length - k) 0 (Nat.zero_le _) (Sub.cons rfl (Sub.cons rfl (Sub.cons rfl (Sub.cons rfl (Sub.cons rfl (Sub.cons rfl (Sub.cons rfl Sub.nil))))))) (by rw [scr_0]) ?_
  intro k hs
  have hsl := scr_length k L
  refine At.seq ?_
  refine tR ?_
  refine tM rfl rfl ?_
  refine tM rfl rfl ?_
  refine At.val (Val.lenRow (i := 0) Tryd.underlying30 rfl rfl) rfl rfl rfl ?_
  refine At.val (Val.bin rfl rfl rfl) rfl rfl rfl ?_
  refine tE ?_
  refine At.cond rfl (fun h16 => ?_) (fun h16 => ?_)
  ·skip
   try simp only [hasB, isSizeB, Bool.not_eq_true', Bool.not_eq_false', bne_iff_ne, ne_eq, bne_eq_false_iff_eq, beq_iff_eq, beq_eq_false_iff_ne, decide_eq_true_eq, decide_eq_false_iff_not, gt_iff_lt, ge_iff_le] at h16
   refine At.skipC ?_
   refine At.thenN ?_
   refine At.seq ?_
   refine At.block ?_
   refine At.region ?_
   refine tM rfl rfl ?_
   refine tM rfl rfl ?_
   refine tM rfl rfl ?_
   refine At.val (Val.neg rfl) rfl rfl rfl ?_
   rw [wrap_i64 (by omega) (by omega)]
   first | refine At.val (Val.subI rfl rfl (by omega) (by omega)) rfl rfl rfl ?_ | refine At.val (Val.bin rfl rfl rfl) rfl rfl rfl ?_
   refine tM rfl rfl ?_
   refine At.val (Val.build (fun a ha => by simp only [List.map_toArray, List.map_cons, List.map_nil, ha.eval (x := (.tmp 77)) rfl, ha.eval (x := (.tmp 78)) rfl] <;> rfl) (bld_51_0_1 _ _ )) rfl rfl rfl ?_
   refine At.val (Val.indexRow (i := 0) (k * 2) (by omega) Tryd.underlying30 Tryd.sizeOf51 rfl rfl rfl (by omega) (by omega)) rfl rfl rfl ?_
   refine At.storeSpanRow (i := 0) (k := k) Tryd.sizeOf51 rfl rfl rfl (by omega) ?_
   simp only [sc0, scS]
   rw [scr_set (by omega)]
   refine At.nil ?_
   refine At.blkN ?_
   refine At.thenN ?_
   refine At.region ?_
   refine tM rfl rfl ?_
   first | refine At.val (Val.addI rfl rfl (by omega) (by omega)) rfl rfl rfl ?_ | refine At.val (Val.bin rfl rfl rfl) rfl rfl rfl ?_
   refine tA rfl rfl ?_
   refine tE ?_
   exact At.again (k + 1) (show k + 1 ≤ _ by omega) (by omega) (Sub.cons rfl (Sub.cons rfl (Sub.cons rfl (Sub.cons rfl (Sub.cons rfl (Sub.cons rfl (Sub.cons (congrArg (fun z => some (Value.int IntKind.i64 z)) (by omega)) Sub.nil))))))) (List.Perm.refl _)
  ·skip
   try simp only [hasB, isSizeB, Bool.not_eq_true', Bool.not_eq_false', bne_iff_ne, ne_eq, bne_eq_false_iff_eq, beq_iff_eq, beq_eq_false_iff_ne, decide_eq_true_eq, decide_eq_false_iff_not, gt_iff_lt, ge_iff_le] at h16
   refine At.exitC ?_
   refine At.thenX ?_
   refine At.thenX ?_
   refine At.blkX ?_
   refine At.thenN ?_
   refine At.seq ?_
   obtain rfl : k = L.length := by omega
   obtain ⟨D, hD⟩ : ∃ D, D = scr L.length L := ⟨_, rfl⟩
   have hDl : D.length = L.length := by rw [hD]; exact hsl
   have hDa : ∀ j : Nat, j < L.length → D[j]? = some (0 - (j : Int) - 1, (j : Int)) := fun j hj => by rw [hD, scr_get hj, if_pos hj]
   have hDb : ∀ j : Nat, j < L.length → (D ++ [(70, 0), (71, 0)])[j]? = some (0 - (j : Int) - 1, (j : Int)) := fun j hj => by rw [List.getElem?_append_left (by omega)]; exact hDa j hj
   have hDbl : (D ++ [(70, 0), (71, 0)]).length = L.length + 2 := by rw [List.length_append, hDl]; rfl
   rw [← hD]
   refine At.rowIs (i := 0) rfl (fun A17 c18 hv => ?_)
   subst hv
   refine At.region ?_
   refine tM rfl rfl ?_
   refine At.val (Val.build (fun a ha => by simp only [List.map_toArray, List.map_cons, List.map_nil, ha.eval (x := (.const (.int .i64 (70)))) rfl] <;> rfl) (bld_51_0 _ )) rfl rfl rfl ?_
   refine At.val (Val.build (fun a ha => by simp only [List.map_toArray, List.map_cons, List.map_nil, ha.eval (x := (.const (.int .i64 (71)))) rfl] <;> rfl) (bld_51_0 _ )) rfl rfl rfl ?_
   refine At.buildSl (fun a ha => by simp only [List.map_toArray, List.map_cons, List.map_nil, ha.eval (x := (.tmp 82)) rfl, ha.eval (x := (.tmp 83)) rfl]; try rfl) (bs_30_2 _ _ _ _ ) rfl (fun b19 => ?_)
   refine At.append2S (i := 1) (j := 0) (by_ := 16) Tryd.underlying30 info_51 rfl rfl rfl rfl rfl rfl rfl rfl (by omega) (by omega) rfl (fun v20 H21 hor22 => ?_)
   rcases hor22 with ⟨rfl, rfl⟩ | rfl
   ·skip
    simp only [sc0, scS]
    refine At.drop 0 ?_
    simp only [ec0, ecS]
    refine tA rfl rfl ?_
    refine tE ?_
    refine tR ?_
    refine tM rfl rfl ?_
    refine At.val (Val.loadAll (i := 1) Tryd.isAgg45 Tryd.sizeOf45 rfl rfl rfl) rfl rfl rfl ?_
    refine At.callNT (g := (fun v => .tuple #[v, .int .i64 0])) (fun w hw => (by have h0 := restore_n _ _ (wbytes vs1) P I' C' (4 + I' / 8) L w (ht.mod hw.mod) (row_rd (hw.row (i := 4) rfl) (by decide)) (row_rd (hw.row (i := 2) rfl) (by decide)) (by rw [wbytes_length]; omega) (by first | omega | (simp only [List.length_take, List.length_drop]; omega) | (have h9 := growS_le L; omega)); rw [restL_yes ((hR1 L).trans (if_pos rfl)), (hR1 L).trans (if_pos rfl)] at h0; exact h0)) Tryd.call14 rfl rfl (fun v23 => ?_)
    refine tM rfl rfl ?_
    refine At.val (Val.extract rfl rfl) rfl rfl rfl ?_
    refine At.val (Val.extract rfl rfl) rfl rfl rfl ?_
    refine tA rfl rfl ?_
    refine tA rfl rfl ?_
    refine tE ?_
    refine At.seq ?_
    refine tR ?_
    refine tM rfl rfl ?_
    refine At.val (Val.bin rfl rfl rfl) rfl rfl rfl ?_
    refine tM rfl rfl ?_
    refine At.yes rfl rfl ?_
    refine tM rfl rfl ?_
    refine At.yes rfl rfl ?_
    refine tM rfl rfl ?_
    refine At.yes rfl rfl ?_
    refine At.callP (fun w hw => (by have h0 := sameSpL_p _ _ L L w (row_rd (hw.row (i := 0) rfl) (by decide)) (row_rd (hw.row (i := 7) rfl) (by decide)) (by first | omega | (simp only [List.length_take, List.length_drop]; omega) | (have h9 := growS_le L; omega)) (by first | omega | (simp only [List.length_take, List.length_drop]; omega) | (have h9 := growS_le L; omega)); rwa [decide_eq_true rfl] at h0)) Tryd.call16 rfl rfl ?_
    refine At.yes rfl rfl ?_
    refine At.val (Val.not rfl) rfl rfl rfl ?_
    refine At.val (Val.pickF rfl rfl) rfl rfl rfl ?_
    refine tM rfl rfl ?_
    refine At.yes rfl rfl ?_
    refine At.val (Val.field 5 rfl fo_45_2 rfl) rfl rfl rfl ?_
    refine At.yes rfl rfl ?_
    refine At.val (Val.load (i := 2) Tryd.isAgg30 rfl rfl rfl) rfl rfl rfl ?_
    refine At.yes rfl rfl ?_
    refine tM rfl rfl ?_
    refine At.yes rfl rfl ?_
    refine At.callP (fun w hw => (by have h0 := sameSpL_p _ _ L L w (row_rd (hw.row (i := 3) rfl) (by decide)) (row_rd (hw.row (i := 7) rfl) (by decide)) (by first | omega | (simp only [List.length_take, List.length_drop]; omega) | (have h9 := growS_le L; omega)) (by first | omega | (simp only [List.length_take, List.length_drop]; omega) | (have h9 := growS_le L; omega)); rwa [decide_eq_true rfl] at h0)) Tryd.call16 rfl rfl ?_
    refine At.yes rfl rfl ?_
    refine At.val (Val.not rfl) rfl rfl rfl ?_
    refine At.val (Val.pickF rfl rfl) rfl rfl rfl ?_
    refine tM rfl rfl ?_
    refine At.yes rfl rfl ?_
    refine tM rfl rfl ?_
    refine At.yes rfl rfl ?_
    refine tM rfl rfl ?_
    refine At.yes rfl rfl ?_
    refine At.callP (fun w hw => (by have h0 := sameBytes_p _ _ (wbytes vs1) (wbytes vs1) w (row_rd (hw.row (i := 5) rfl) (by decide)) (row_rd (hw.row (i := 4) rfl) (by decide)) (by rw [wbytes_length]; omega) (by rw [wbytes_length]; omega); rwa [decide_eq_true rfl] at h0)) Tryd.call18 rfl rfl ?_
    refine At.yes rfl rfl ?_
    refine At.val (Val.not rfl) rfl rfl rfl ?_
    refine At.val (Val.pickF rfl rfl) rfl rfl rfl ?_
    refine tE ?_
    refine At.condF rfl ?_
    refine At.skipC ?_
    refine At.thenN ?_
    refine At.seq ?_
    refine tR ?_
    refine tA rfl rfl ?_
    refine tE ?_
    refine At.block ?_
    skip
    refine At.loop (σ := Nat × List (Int × Int)) (fun s => s.1 ≤ L.length ∧ s.2.length = L.length) (fun s => [(1, .pointer (some ⟨b1, 0, none⟩)), (4, (.slice A3 ((L).length) c4)), (9, v8), (11, .pointer (some ⟨b13, 0, none⟩)), (12, (.slice A17 D.length c18)), (15, (.slice A17 (D ++ [(70, 0), (71, 0)]).length c18)), (16, v23), (17, .int .i64 (s.1 : Int))]) (fun s => [rowR v23 51 2 ((s.2).length) (prS (s.2)), rowR (.slice A17 (D ++ [(70, 0), (71, 0)]).length c18) 51 2 (((D ++ [(70, 0), (71, 0)])).length) (prS ((D ++ [(70, 0), (71, 0)]))), blk b13 45 ([.int .i64 P, .int .i64 I', .int .i64 C', .int .i64 (4 + I' / 8), .slice none 0 0, (.slice A11 ((L).length) c12)]), rowR (.slice A11 ((L).length) c12) 51 2 ((L).length) (prS (L)), rowR v9 5 1 ((wbytes vs1).length) ((wbytes vs1).map bv), rowR v8 5 1 ((wbytes vs1).length) ((wbytes vs1).map bv), Dev p5 y7 (σ1), rowR (.slice A3 ((L).length) c4) 51 2 ((L).length) (prS (L)), blk b2 28 ([.int .i64 P, .int .i64 I', .int .i64 C', .int .i64 (4 + I' / 8)]), blk b1 26 ([.int .i64 pg, .int .i64 ino, .int .i64 co, vM, vW, .int .i64 lf, vL])]) (fun s => L.length - s.1) (0, L) ⟨Nat.zero_le _, rfl⟩ (Sub.cons rfl (Sub.cons rfl (Sub.cons rfl (Sub.cons rfl (Sub.cons rfl (Sub.cons rfl (Sub.cons rfl (Sub.cons rfl Sub.nil)))))))) (List.Perm.refl _) ?_
    intro s hs
    obtain ⟨k, M⟩ := s
    dsimp only at hs ⊢
    obtain ⟨hk, hMl⟩ := hs
    refine At.seq ?_
    refine tR ?_
    refine tM rfl rfl ?_
    refine tM rfl rfl ?_
    refine At.val (Val.lenRow (i := 0) Tryd.underlying30 rfl rfl) rfl rfl rfl ?_
    refine At.val (Val.bin rfl rfl rfl) rfl rfl rfl ?_
    refine tE ?_
    refine At.cond rfl (fun h24 => ?_) (fun h24 => ?_)
    ·skip
     try simp only [hasB, isSizeB, Bool.not_eq_true', Bool.not_eq_false', bne_iff_ne, ne_eq, bne_eq_false_iff_eq, beq_iff_eq, beq_eq_false_iff_ne, decide_eq_true_eq, decide_eq_false_iff_not, gt_iff_lt, ge_iff_le] at h24
     refine At.skipC ?_
     refine At.thenN ?_
     refine At.seq ?_
     refine At.block ?_
     refine At.region ?_
     refine tM rfl rfl ?_
     refine tM rfl rfl ?_
     refine At.val (Val.build (fun a ha => by simp only [List.map_toArray, List.map_cons, List.map_nil, ha.eval (x := (.const (.int .i64 (9)))) rfl, ha.eval (x := (.const (.int .i64 (9)))) rfl] <;> rfl) (bld_51_0_1 _ _ )) rfl rfl rfl ?_
     refine At.val (Val.indexRow (i := 0) (k * 2) (by omega) Tryd.underlying30 Tryd.sizeOf51 rfl rfl rfl (by omega) (by omega)) rfl rfl rfl ?_
     refine At.storeSpanRow (i := 0) (k := k) Tryd.sizeOf51 rfl rfl rfl (by omega) ?_
     simp only [sc0, scS]
     refine At.nil ?_
     refine At.blkN ?_
     refine At.thenN ?_
     refine At.region ?_
     refine tM rfl rfl ?_
     first | refine At.val (Val.addI rfl rfl (by omega) (by omega)) rfl rfl rfl ?_ | refine At.val (Val.bin rfl rfl rfl) rfl rfl rfl ?_
     refine tA rfl rfl ?_
     refine tE ?_
     exact At.again (k + 1, M.set k (9, 9)) ⟨(show k + 1 ≤ _ by omega), (by dsimp only; rw [List.length_set]; exact hMl)⟩ (by dsimp only; omega) (Sub.cons rfl (Sub.cons rfl (Sub.cons rfl (Sub.cons rfl (Sub.cons rfl (Sub.cons rfl (Sub.cons rfl (Sub.cons (congrArg (fun z => some (Value.int IntKind.i64 z)) (by dsimp only; omega)) Sub.nil)))))))) (List.Perm.refl _)
    ·skip
     try simp only [hasB, isSizeB, Bool.not_eq_true', Bool.not_eq_false', bne_iff_ne, ne_eq, bne_eq_false_iff_eq, beq_iff_eq, beq_eq_false_iff_ne, decide_eq_true_eq, decide_eq_false_iff_not, gt_iff_lt, ge_iff_le] at h24
     refine At.exitC ?_
     refine At.thenX ?_
     refine At.thenX ?_
     refine At.blkX ?_
     refine At.thenN ?_
     refine At.seq ?_
     refine tR ?_
     refine tA rfl rfl ?_
     refine tE ?_
     refine At.block ?_
     skip
     refine At.loop (σ := Nat) (fun k => k ≤ L.length) (fun k => [(1, .pointer (some ⟨b1, 0, none⟩)), (4, (.slice A3 ((L).length) c4)), (9, v8), (11, .pointer (some ⟨b13, 0, none⟩)), (12, (.slice A17 D.length c18)), (15, (.slice A17 (D ++ [(70, 0), (71, 0)]).length c18)), (18, .int .i64 (k : Int))]) (fun k => [rowR v23 51 2 ((M).length) (prS (M)), rowR (.slice A17 (D ++ [(70, 0), (71, 0)]).length c18) 51 2 (((D ++ [(70, 0), (71, 0)])).length) (prS ((D ++ [(70, 0), (71, 0)]))), blk b13 45 ([.int .i64 P, .int .i64 I', .int .i64 C', .int .i64 (4 + I' / 8), .slice none 0 0, (.slice A11 ((L).length) c12)]), rowR (.slice A11 ((L).length) c12) 51 2 ((L).length) (prS (L)), rowR v9 5 1 ((wbytes vs1).length) ((wbytes vs1).map bv), rowR v8 5 1 ((wbytes vs1).length) ((wbytes vs1).map bv), Dev p5 y7 (σ1), rowR (.slice A3 ((L).length) c4) 51 2 ((L).length) (prS (L)), blk b2 28 ([.int .i64 P, .int .i64 I', .int .i64 C', .int .i64 (4 + I' / 8)]), blk b1 26 ([.int .i64 pg, .int .i64 ino, .int .i64 co, vM, vW, .int .i64 lf, vL])]) (fun k => L.length - k) 0 (Nat.zero_le _) (Sub.cons rfl (Sub.cons rfl (Sub.cons rfl (Sub.cons rfl (Sub.cons rfl (Sub.cons rfl (Sub.cons rfl Sub.nil))))))) (List.Perm.refl _) ?_
     intro k hk
     refine At.seq ?_
     refine tR ?_
     refine tM rfl rfl ?_
     refine tM rfl rfl ?_
     refine At.val (Val.len (bt := #[]) Tryd.underlying30 rfl) rfl rfl rfl ?_
     refine At.val (Val.bin rfl rfl rfl) rfl rfl rfl ?_
     refine tE ?_
     refine At.cond rfl (fun h25 => ?_) (fun h25 => ?_)
     ·skip
      try simp only [hasB, isSizeB, Bool.not_eq_true', Bool.not_eq_false', bne_iff_ne, ne_eq, bne_eq_false_iff_eq, beq_iff_eq, beq_eq_false_iff_ne, decide_eq_true_eq, decide_eq_false_iff_not, gt_iff_lt, ge_iff_le] at h25
      refine At.skipC ?_
      refine At.thenN ?_
      refine At.seq ?_
      refine At.block ?_
      refine tR ?_
      refine tM rfl rfl ?_
      refine tM rfl rfl ?_
      refine At.val (Val.indexRowP (i := 1) (k * 2) (by omega) Tryd.underlying30 Tryd.sizeOf51 rfl rfl rfl (by omega) (by omega) (by omega)) rfl rfl rfl ?_
      refine At.val (Val.field ((k * 2 + 0)) rfl fo_51_0 rfl) rfl rfl rfl ?_
      refine At.val (Val.loadRow (u := .int .i64 (0 - (k : Int) - 1)) (i := 1) Tryd.isAgg3 rfl rfl (prS_at (hDb k (by omega))).1) rfl rfl rfl ?_
      refine tM rfl rfl ?_
      refine At.val (Val.neg rfl) rfl rfl rfl ?_
      rw [wrap_i64 (by omega) (by omega)]
      first | refine At.val (Val.subI rfl rfl (by omega) (by omega)) rfl rfl rfl ?_ | refine At.val (Val.bin rfl rfl rfl) rfl rfl rfl ?_
      refine At.val (Val.bin rfl rfl rfl) rfl rfl rfl ?_
      rw [bne_self_eq_false]
      refine tM rfl rfl ?_
      refine At.yes rfl rfl ?_
      refine tM rfl rfl ?_
      refine At.yes rfl rfl ?_
      refine tM rfl rfl ?_
      refine At.yes rfl rfl ?_
      refine At.val (Val.indexRowP (i := 1) (k * 2) (by omega) Tryd.underlying30 Tryd.sizeOf51 rfl rfl rfl (by omega) (by omega) (by omega)) rfl rfl rfl ?_
      refine At.yes rfl rfl ?_
      refine At.val (Val.field ((k * 2 + 1)) rfl fo_51_1 rfl) rfl rfl rfl ?_
      refine At.yes rfl rfl ?_
      refine At.val (Val.loadRow (u := .int .i64 (k : Int)) (i := 1) Tryd.isAgg3 rfl rfl (prS_at (hDb k (by omega))).2) rfl rfl rfl ?_
      refine At.yes rfl rfl ?_
      refine tM rfl rfl ?_
      refine At.yes rfl rfl ?_
      refine At.val (Val.bin rfl rfl rfl) rfl rfl rfl ?_
      rw [bne_self_eq_false]
      refine At.val (Val.pickF rfl rfl) rfl rfl rfl ?_
      refine tM rfl rfl ?_
      refine At.yes rfl rfl ?_
      refine tM rfl rfl ?_
      refine At.yes rfl rfl ?_
      refine tM rfl rfl ?_
      refine At.yes rfl rfl ?_
      refine At.val (Val.indexRow (i := 1) (k * 2) (by omega) Tryd.underlying30 Tryd.sizeOf51 rfl rfl rfl (by omega) (by omega)) rfl rfl rfl ?_
      refine At.yes rfl rfl ?_
      refine At.val (Val.field ((k * 2 + 0)) rfl fo_51_0 rfl) rfl rfl rfl ?_
      refine At.yes rfl rfl ?_
      refine At.val (Val.loadRow (u := .int .i64 (0 - (k : Int) - 1)) (i := 1) Tryd.isAgg3 rfl rfl (prS_at (hDb k (by omega))).1) rfl rfl rfl ?_
      refine At.yes rfl rfl ?_
      refine tM rfl rfl ?_
      refine At.yes rfl rfl ?_
      refine At.val (Val.neg rfl) rfl rfl rfl ?_
      rw [wrap_i64 (by omega) (by omega)]
      refine At.yes rfl rfl ?_
      first | refine At.val (Val.subI rfl rfl (by omega) (by omega)) rfl rfl rfl ?_ | refine At.val (Val.bin rfl rfl rfl) rfl rfl rfl ?_
      refine At.yes rfl rfl ?_
      refine At.val (Val.bin rfl rfl rfl) rfl rfl rfl ?_
      rw [bne_self_eq_false]
      refine At.val (Val.pickF rfl rfl) rfl rfl rfl ?_
      refine tE ?_
      refine At.condF rfl ?_
      refine At.skipC ?_
      refine At.blkN ?_
      refine At.thenN ?_
      refine At.region ?_
      refine tM rfl rfl ?_
      first | refine At.val (Val.addI rfl rfl (by omega) (by omega)) rfl rfl rfl ?_ | refine At.val (Val.bin rfl rfl rfl) rfl rfl rfl ?_
      refine tA rfl rfl ?_
      refine tE ?_
      exact At.again (k + 1) (show k + 1 ≤ _ by omega) (by omega) (Sub.cons rfl (Sub.cons rfl (Sub.cons rfl (Sub.cons rfl (Sub.cons rfl (Sub.cons rfl (Sub.cons (congrArg (fun z => some (Value.int IntKind.i64 z)) (by omega)) Sub.nil))))))) (List.Perm.refl _)
     ·skip
      try simp only [hasB, isSizeB, Bool.not_eq_true', Bool.not_eq_false', bne_iff_ne, ne_eq, bne_eq_false_iff_eq, beq_iff_eq, beq_eq_false_iff_ne, decide_eq_true_eq, decide_eq_false_iff_not, gt_iff_lt, ge_iff_le] at h25
      refine At.exitC ?_
      refine At.thenX ?_
      refine At.thenX ?_
      refine At.blkX ?_
      refine At.thenN ?_
      refine tR ?_
      refine tM rfl rfl ?_
      refine At.val (Val.loadAll (i := 2) Tryd.isAgg45 Tryd.sizeOf45 rfl rfl rfl) rfl rfl rfl ?_
      refine At.callNT (g := (fun v => .tuple #[v, .int .i64 0])) (fun w hw => (by have h0 := restore_n _ _ (wbytes vs1) P I' C' (4 + I' / 8) L w (ht.mod hw.mod) (row_rd (hw.row (i := 5) rfl) (by decide)) (row_rd (hw.row (i := 3) rfl) (by decide)) (by rw [wbytes_length]; omega) (by first | omega | (simp only [List.length_take, List.length_drop]; omega) | (have h9 := growS_le L; omega)); rw [restL_yes ((hR1 L).trans (if_pos rfl)), (hR1 L).trans (if_pos rfl)] at h0; exact h0)) Tryd.call14 rfl rfl (fun v26 => ?_)
      refine tM rfl rfl ?_
      refine At.val (Val.extract rfl rfl) rfl rfl rfl ?_
      refine At.val (Val.extract rfl rfl) rfl rfl rfl ?_
      refine tA rfl rfl ?_
      refine tA rfl rfl ?_
      refine tE ?_
      refine tR ?_
      refine tM rfl rfl ?_
      refine At.val (Val.bin rfl rfl rfl) rfl rfl rfl ?_
      refine tM rfl rfl ?_
      refine At.yes rfl rfl ?_
      refine tM rfl rfl ?_
      refine At.yes rfl rfl ?_
      refine tM rfl rfl ?_
      refine At.yes rfl rfl ?_
      refine At.callP (fun w hw => (by have h0 := sameSpL_p _ _ L L w (row_rd (hw.row (i := 0) rfl) (by decide)) (row_rd (hw.row (i := 8) rfl) (by decide)) (by first | omega | (simp only [List.length_take, List.length_drop]; omega) | (have h9 := growS_le L; omega)) (by first | omega | (simp only [List.length_take, List.length_drop]; omega) | (have h9 := growS_le L; omega)); rwa [decide_eq_true rfl] at h0)) Tryd.call16 rfl rfl ?_
      refine At.val (Val.pickT rfl rfl) rfl rfl rfl ?_
      refine tM rfl rfl ?_
      refine At.yes rfl rfl ?_
      refine At.val (Val.loadAll (i := 10) Tryd.isAgg26 Tryd.sizeOf26 rfl rfl rfl) rfl rfl rfl ?_
      refine At.yes rfl rfl ?_
      refine At.callP (fun w hw => lentIn_p pg ino co lf vM vW vL MS WS cs w (ht.mod hw.mod) (hvM.mod hw.mod) hmM (hvW.mod hw.mod) hmW (hvL.mod hw.mod) hmL hlf) Tryd.call19 rfl rfl ?_
      refine At.val (Val.pickT rfl rfl) rfl rfl rfl ?_
      refine tA rfl rfl ?_
      refine tE ?_
      refine At.retC ?_
      refine At.ret1 (.inl rfl) rfl rfl rfl (fun w hw => ?_)
      exact ⟨rfl, hw.mod⟩
   ·skip
    refine At.drop 1 ?_
    simp only [ec0, ecS]
    refine tA rfl rfl ?_
    refine tE ?_
    refine tR ?_
    refine tM rfl rfl ?_
    refine At.val (Val.loadAll (i := 2) Tryd.isAgg45 Tryd.sizeOf45 rfl rfl rfl) rfl rfl rfl ?_
    refine At.callNT (g := (fun v => .tuple #[v, .int .i64 0])) (fun w hw => (by have h0 := restore_n _ _ (wbytes vs1) P I' C' (4 + I' / 8) L w (ht.mod hw.mod) (row_rd (hw.row (i := 5) rfl) (by decide)) (row_rd (hw.row (i := 3) rfl) (by decide)) (by rw [wbytes_length]; omega) (by first | omega | (simp only [List.length_take, List.length_drop]; omega) | (have h9 := growS_le L; omega)); rw [restL_yes ((hR1 L).trans (if_pos rfl)), (hR1 L).trans (if_pos rfl)] at h0; exact h0)) Tryd.call14 rfl rfl (fun v27 => ?_)
    refine tM rfl rfl ?_
    refine At.val (Val.extract rfl rfl) rfl rfl rfl ?_
    refine At.val (Val.extract rfl rfl) rfl rfl rfl ?_
    refine tA rfl rfl ?_
    refine tA rfl rfl ?_
    refine tE ?_
    refine At.seq ?_
    refine tR ?_
    refine tM rfl rfl ?_
    refine At.val (Val.bin rfl rfl rfl) rfl rfl rfl ?_
    refine tM rfl rfl ?_
    refine At.yes rfl rfl ?_
    refine tM rfl rfl ?_
    refine At.yes rfl rfl ?_
    refine tM rfl rfl ?_
    refine At.yes rfl rfl ?_
    refine At.callP (fun w hw => (by have h0 := sameSpL_p _ _ L L w (row_rd (hw.row (i := 0) rfl) (by decide)) (row_rd (hw.row (i := 8) rfl) (by decide)) (by first | omega | (simp only [List.length_take, List.length_drop]; omega) | (have h9 := growS_le L; omega)) (by first | omega | (simp only [List.length_take, List.length_drop]; omega) | (have h9 := growS_le L; omega)); rwa [decide_eq_true rfl] at h0)) Tryd.call16 rfl rfl ?_
    refine At.yes rfl rfl ?_
    refine At.val (Val.not rfl) rfl rfl rfl ?_
    refine At.val (Val.pickF rfl rfl) rfl rfl rfl ?_
    refine tM rfl rfl ?_
    refine At.yes rfl rfl ?_
    refine At.val (Val.field 5 rfl fo_45_2 rfl) rfl rfl rfl ?_
    refine At.yes rfl rfl ?_
    refine At.val (Val.load (i := 3) Tryd.isAgg30 rfl rfl rfl) rfl rfl rfl ?_
    refine At.yes rfl rfl ?_
    refine tM rfl rfl ?_
    refine At.yes rfl rfl ?_
    refine At.callP (fun w hw => (by have h0 := sameSpL_p _ _ L L w (row_rd (hw.row (i := 4) rfl) (by decide)) (row_rd (hw.row (i := 8) rfl) (by decide)) (by first | omega | (simp only [List.length_take, List.length_drop]; omega) | (have h9 := growS_le L; omega)) (by first | omega | (simp only [List.length_take, List.length_drop]; omega) | (have h9 := growS_le L; omega)); rwa [decide_eq_true rfl] at h0)) Tryd.call16 rfl rfl ?_
    refine At.yes rfl rfl ?_
    refine At.val (Val.not rfl) rfl rfl rfl ?_
    refine At.val (Val.pickF rfl rfl) rfl rfl rfl ?_
    refine tM rfl rfl ?_
    refine At.yes rfl rfl ?_
    refine tM rfl rfl ?_
    refine At.yes rfl rfl ?_
    refine tM rfl rfl ?_
    refine At.yes rfl rfl ?_
    refine At.callP (fun w hw => (by have h0 := sameBytes_p _ _ (wbytes vs1) (wbytes vs1) w (row_rd (hw.row (i := 6) rfl) (by decide)) (row_rd (hw.row (i := 5) rfl) (by decide)) (by rw [wbytes_length]; omega) (by rw [wbytes_length]; omega); rwa [decide_eq_true rfl] at h0)) Tryd.call18 rfl rfl ?_
    refine At.yes rfl rfl ?_
    refine At.val (Val.not rfl) rfl rfl rfl ?_
    refine At.val (Val.pickF rfl rfl) rfl rfl rfl ?_
    refine tE ?_
    refine At.condF rfl ?_
    refine At.skipC ?_
    refine At.thenN ?_
    refine At.seq ?_
    refine tR ?_
    refine tA rfl rfl ?_
    refine tE ?_
    refine At.block ?_
    skip
    refine At.loop (σ := Nat × List (Int × Int)) (fun s => s.1 ≤ L.length ∧ s.2.length = L.length) (fun s => [(1, .pointer (some ⟨b1, 0, none⟩)), (4, (.slice A3 ((L).length) c4)), (9, v8), (11, .pointer (some ⟨b13, 0, none⟩)), (12, (.slice A17 ((D).length) c18)), (15, v20), (16, v27), (17, .int .i64 (s.1 : Int))]) (fun s => [rowR v27 51 2 ((s.2).length) (prS (s.2)), rowR v20 51 2 (((D ++ [(70, 0), (71, 0)])).length) (prS ((D ++ [(70, 0), (71, 0)]))), rowR (.slice A17 ((D).length) c18) 51 2 ((D).length) (prS (D)), blk b13 45 ([.int .i64 P, .int .i64 I', .int .i64 C', .int .i64 (4 + I' / 8), .slice none 0 0, (.slice A11 ((L).length) c12)]), rowR (.slice A11 ((L).length) c12) 51 2 ((L).length) (prS (L)), rowR v9 5 1 ((wbytes vs1).length) ((wbytes vs1).map bv), rowR v8 5 1 ((wbytes vs1).length) ((wbytes vs1).map bv), Dev p5 y7 (σ1), rowR (.slice A3 ((L).length) c4) 51 2 ((L).length) (prS (L)), blk b2 28 ([.int .i64 P, .int .i64 I', .int .i64 C', .int .i64 (4 + I' / 8)]), blk b1 26 ([.int .i64 pg, .int .i64 ino, .int .i64 co, vM, vW, .int .i64 lf, vL])]) (fun s => L.length - s.1) (0, L) ⟨Nat.zero_le _, rfl⟩ (Sub.cons rfl (Sub.cons rfl (Sub.cons rfl (Sub.cons rfl (Sub.cons rfl (Sub.cons rfl (Sub.cons rfl (Sub.cons rfl Sub.nil)))))))) (List.Perm.refl _) ?_
    intro s hs
    obtain ⟨k, M⟩ := s
    dsimp only at hs ⊢
    obtain ⟨hk, hMl⟩ := hs
    refine At.seq ?_
    refine tR ?_
    refine tM rfl rfl ?_
    refine tM rfl rfl ?_
    refine At.val (Val.lenRow (i := 0) Tryd.underlying30 rfl rfl) rfl rfl rfl ?_
    refine At.val (Val.bin rfl rfl rfl) rfl rfl rfl ?_
    refine tE ?_
    refine At.cond rfl (fun h28 => ?_) (fun h28 => ?_)
    ·skip
     try simp only [hasB, isSizeB, Bool.not_eq_true', Bool.not_eq_false', bne_iff_ne, ne_eq, bne_eq_false_iff_eq, beq_iff_eq, beq_eq_false_iff_ne, decide_eq_true_eq, decide_eq_false_iff_not, gt_iff_lt, ge_iff_le] at h28
     refine At.skipC ?_
     refine At.thenN ?_
     refine At.seq ?_
     refine At.block ?_
     refine At.region ?_
     refine tM rfl rfl ?_
     refine tM rfl rfl ?_
     refine At.val (Val.build (fun a ha => by simp only [List.map_toArray, List.map_cons, List.map_nil, ha.eval (x := (.const (.int .i64 (9)))) rfl, ha.eval (x := (.const (.int .i64 (9)))) rfl] <;> rfl) (bld_51_0_1 _ _ )) rfl rfl rfl ?_
     refine At.val (Val.indexRow (i := 0) (k * 2) (by omega) Tryd.underlying30 Tryd.sizeOf51 rfl rfl rfl (by omega) (by omega)) rfl rfl rfl ?_
     refine At.storeSpanRow (i := 0) (k := k) Tryd.sizeOf51 rfl rfl rfl (by omega) ?_
     simp only [sc0, scS]
     refine At.nil ?_
     refine At.blkN ?_
     refine At.thenN ?_
     refine At.region ?_
     refine tM rfl rfl ?_
     first | refine At.val (Val.addI rfl rfl (by omega) (by omega)) rfl rfl rfl ?_ | refine At.val (Val.bin rfl rfl rfl) rfl rfl rfl ?_
     refine tA rfl rfl ?_
     refine tE ?_
     exact At.again (k + 1, M.set k (9, 9)) ⟨(show k + 1 ≤ _ by omega), (by dsimp only; rw [List.length_set]; exact hMl)⟩ (by dsimp only; omega) (Sub.cons rfl (Sub.cons rfl (Sub.cons rfl (Sub.cons rfl (Sub.cons rfl (Sub.cons rfl (Sub.cons rfl (Sub.cons (congrArg (fun z => some (Value.int IntKind.i64 z)) (by dsimp only; omega)) Sub.nil)))))))) (List.Perm.refl _)
    ·skip
     try simp only [hasB, isSizeB, Bool.not_eq_true', Bool.not_eq_false', bne_iff_ne, ne_eq, bne_eq_false_iff_eq, beq_iff_eq, beq_eq_false_iff_ne, decide_eq_true_eq, decide_eq_false_iff_not, gt_iff_lt, ge_iff_le] at h28
     refine At.exitC ?_
     refine At.thenX ?_
     refine At.thenX ?_
     refine At.blkX ?_
     refine At.thenN ?_
     refine At.seq ?_
     refine tR ?_
     refine tA rfl rfl ?_
     refine tE ?_
     refine At.block ?_
     skip
     refine At.loop (σ := Nat) (fun k => k ≤ L.length) (fun k => [(1, .pointer (some ⟨b1, 0, none⟩)), (4, (.slice A3 ((L).length) c4)), (9, v8), (11, .pointer (some ⟨b13, 0, none⟩)), (12, (.slice A17 ((D).length) c18)), (15, v20), (18, .int .i64 (k : Int))]) (fun k => [rowR v27 51 2 ((M).length) (prS (M)), rowR v20 51 2 (((D ++ [(70, 0), (71, 0)])).length) (prS ((D ++ [(70, 0), (71, 0)]))), rowR (.slice A17 ((D).length) c18) 51 2 ((D).length) (prS (D)), blk b13 45 ([.int .i64 P, .int .i64 I', .int .i64 C', .int .i64 (4 + I' / 8), .slice none 0 0, (.slice A11 ((L).length) c12)]), rowR (.slice A11 ((L).length) c12) 51 2 ((L).length) (prS (L)), rowR v9 5 1 ((wbytes vs1).length) ((wbytes vs1).map bv), rowR v8 5 1 ((wbytes vs1).length) ((wbytes vs1).map bv), Dev p5 y7 (σ1), rowR (.slice A3 ((L).length) c4) 51 2 ((L).length) (prS (L)), blk b2 28 ([.int .i64 P, .int .i64 I', .int .i64 C', .int .i64 (4 + I' / 8)]), blk b1 26 ([.int .i64 pg, .int .i64 ino, .int .i64 co, vM, vW, .int .i64 lf, vL])]) (fun k => L.length - k) 0 (Nat.zero_le _) (Sub.cons rfl (Sub.cons rfl (Sub.cons rfl (Sub.cons rfl (Sub.cons rfl (Sub.cons rfl (Sub.cons rfl Sub.nil))))))) (List.Perm.refl _) ?_
     intro k hk
     refine At.seq ?_
     refine tR ?_
     refine tM rfl rfl ?_
     refine tM rfl rfl ?_
     refine At.val (Val.lenRow (i := 2) Tryd.underlying30 rfl rfl) rfl rfl rfl ?_
     refine At.val (Val.bin rfl rfl rfl) rfl rfl rfl ?_
     refine tE ?_
     refine At.cond rfl (fun h29 => ?_) (fun h29 => ?_)
     ·skip
      try simp only [hasB, isSizeB, Bool.not_eq_true', Bool.not_eq_false', bne_iff_ne, ne_eq, bne_eq_false_iff_eq, beq_iff_eq, beq_eq_false_iff_ne, decide_eq_true_eq, decide_eq_false_iff_not, gt_iff_lt, ge_iff_le] at h29
      refine At.skipC ?_
      refine At.thenN ?_
      refine At.seq ?_
      refine At.block ?_
      refine tR ?_
      refine tM rfl rfl ?_
      refine tM rfl rfl ?_
      refine At.val (Val.indexRow (i := 2) (k * 2) (by omega) Tryd.underlying30 Tryd.sizeOf51 rfl rfl rfl (by omega) (by omega)) rfl rfl rfl ?_
      refine At.val (Val.field ((k * 2 + 0)) rfl fo_51_0 rfl) rfl rfl rfl ?_
      refine At.val (Val.loadRow (u := .int .i64 (0 - (k : Int) - 1)) (i := 2) Tryd.isAgg3 rfl rfl (prS_at (hDa k (by omega))).1) rfl rfl rfl ?_
      refine tM rfl rfl ?_
      refine At.val (Val.neg rfl) rfl rfl rfl ?_
      rw [wrap_i64 (by omega) (by omega)]
      first | refine At.val (Val.subI rfl rfl (by omega) (by omega)) rfl rfl rfl ?_ | refine At.val (Val.bin rfl rfl rfl) rfl rfl rfl ?_
      refine At.val (Val.bin rfl rfl rfl) rfl rfl rfl ?_
      rw [bne_self_eq_false]
      refine tM rfl rfl ?_
      refine At.yes rfl rfl ?_
      refine tM rfl rfl ?_
      refine At.yes rfl rfl ?_
      refine tM rfl rfl ?_
      refine At.yes rfl rfl ?_
      refine At.val (Val.indexRow (i := 2) (k * 2) (by omega) Tryd.underlying30 Tryd.sizeOf51 rfl rfl rfl (by omega) (by omega)) rfl rfl rfl ?_
      refine At.yes rfl rfl ?_
      refine At.val (Val.field ((k * 2 + 1)) rfl fo_51_1 rfl) rfl rfl rfl ?_
      refine At.yes rfl rfl ?_
      refine At.val (Val.loadRow (u := .int .i64 (k : Int)) (i := 2) Tryd.isAgg3 rfl rfl (prS_at (hDa k (by omega))).2) rfl rfl rfl ?_
      refine At.yes rfl rfl ?_
      refine tM rfl rfl ?_
      refine At.yes rfl rfl ?_
      refine At.val (Val.bin rfl rfl rfl) rfl rfl rfl ?_
      rw [bne_self_eq_false]
      refine At.val (Val.pickF rfl rfl) rfl rfl rfl ?_
      refine tM rfl rfl ?_
      refine At.yes rfl rfl ?_
      refine tM rfl rfl ?_
      refine At.yes rfl rfl ?_
      refine tM rfl rfl ?_
      refine At.yes rfl rfl ?_
      refine At.val (Val.indexRow (i := 1) (k * 2) (by omega) Tryd.underlying30 Tryd.sizeOf51 rfl rfl rfl (by omega) (by omega)) rfl rfl rfl ?_
      refine At.yes rfl rfl ?_
      refine At.val (Val.field ((k * 2 + 0)) rfl fo_51_0 rfl) rfl rfl rfl ?_
      refine At.yes rfl rfl ?_
      refine At.val (Val.loadRow (u := .int .i64 (0 - (k : Int) - 1)) (i := 1) Tryd.isAgg3 rfl rfl (prS_at (hDb k (by omega))).1) rfl rfl rfl ?_
      refine At.yes rfl rfl ?_
      refine tM rfl rfl ?_
      refine At.yes rfl rfl ?_
      refine At.val (Val.neg rfl) rfl rfl rfl ?_
      rw [wrap_i64 (by omega) (by omega)]
      refine At.yes rfl rfl ?_
      first | refine At.val (Val.subI rfl rfl (by omega) (by omega)) rfl rfl rfl ?_ | refine At.val (Val.bin rfl rfl rfl) rfl rfl rfl ?_
      refine At.yes rfl rfl ?_
      refine At.val (Val.bin rfl rfl rfl) rfl rfl rfl ?_
      rw [bne_self_eq_false]
      refine At.val (Val.pickF rfl rfl) rfl rfl rfl ?_
      refine tE ?_
      refine At.condF rfl ?_
      refine At.skipC ?_
      refine At.blkN ?_
      refine At.thenN ?_
      refine At.region ?_
      refine tM rfl rfl ?_
      first | refine At.val (Val.addI rfl rfl (by omega) (by omega)) rfl rfl rfl ?_ | refine At.val (Val.bin rfl rfl rfl) rfl rfl rfl ?_
      refine tA rfl rfl ?_
      refine tE ?_
      exact At.again (k + 1) (show k + 1 ≤ _ by omega) (by omega) (Sub.cons rfl (Sub.cons rfl (Sub.cons rfl (Sub.cons rfl (Sub.cons rfl (Sub.cons rfl (Sub.cons (congrArg (fun z => some (Value.int IntKind.i64 z)) (by omega)) Sub.nil))))))) (List.Perm.refl _)
     ·skip
      try simp only [hasB, isSizeB, Bool.not_eq_true', Bool.not_eq_false', bne_iff_ne, ne_eq, bne_eq_false_iff_eq, beq_iff_eq, beq_eq_false_iff_ne, decide_eq_true_eq, decide_eq_false_iff_not, gt_iff_lt, ge_iff_le] at h29
      refine At.exitC ?_
      refine At.thenX ?_
      refine At.thenX ?_
      refine At.blkX ?_
      refine At.thenN ?_
      refine tR ?_
      refine tM rfl rfl ?_
      refine At.val (Val.loadAll (i := 3) Tryd.isAgg45 Tryd.sizeOf45 rfl rfl rfl) rfl rfl rfl ?_
      refine At.callNT (g := (fun v => .tuple #[v, .int .i64 0])) (fun w hw => (by have h0 := restore_n _ _ (wbytes vs1) P I' C' (4 + I' / 8) L w (ht.mod hw.mod) (row_rd (hw.row (i := 6) rfl) (by decide)) (row_rd (hw.row (i := 4) rfl) (by decide)) (by rw [wbytes_length]; omega) (by first | omega | (simp only [List.length_take, List.length_drop]; omega) | (have h9 := growS_le L; omega)); rw [restL_yes ((hR1 L).trans (if_pos rfl)), (hR1 L).trans (if_pos rfl)] at h0; exact h0)) Tryd.call14 rfl rfl (fun v30 => ?_)
      refine tM rfl rfl ?_
      refine At.val (Val.extract rfl rfl) rfl rfl rfl ?_
      refine At.val (Val.extract rfl rfl) rfl rfl rfl ?_
      refine tA rfl rfl ?_
      refine tA rfl rfl ?_
      refine tE ?_
      refine tR ?_
      refine tM rfl rfl ?_
      refine At.val (Val.bin rfl rfl rfl) rfl rfl rfl ?_
      refine tM rfl rfl ?_
      refine At.yes rfl rfl ?_
      refine tM rfl rfl ?_
      refine At.yes rfl rfl ?_
      refine tM rfl rfl ?_
      refine At.yes rfl rfl ?_
      refine At.callP (fun w hw => (by have h0 := sameSpL_p _ _ L L w (row_rd (hw.row (i := 0) rfl) (by decide)) (row_rd (hw.row (i := 9) rfl) (by decide)) (by first | omega | (simp only [List.length_take, List.length_drop]; omega) | (have h9 := growS_le L; omega)) (by first | omega | (simp only [List.length_take, List.length_drop]; omega) | (have h9 := growS_le L; omega)); rwa [decide_eq_true rfl] at h0)) Tryd.call16 rfl rfl ?_
      refine At.val (Val.pickT rfl rfl) rfl rfl rfl ?_
      refine tM rfl rfl ?_
      refine At.yes rfl rfl ?_
      refine At.val (Val.loadAll (i := 11) Tryd.isAgg26 Tryd.sizeOf26 rfl rfl rfl) rfl rfl rfl ?_
      refine At.yes rfl rfl ?_
      refine At.callP (fun w hw => lentIn_p pg ino co lf vM vW vL MS WS cs w (ht.mod hw.mod) (hvM.mod hw.mod) hmM (hvW.mod hw.mod) hmW (hvL.mod hw.mod) hmL hlf) Tryd.call19 rfl rfl ?_
      refine At.val (Val.pickT rfl rfl) rfl rfl rfl ?_
      refine tA rfl rfl ?_
      refine tE ?_
      refine At.retC ?_
      refine At.ret1 (.inl rfl) rfl rfl rfl (fun w hw => ?_)
      exact ⟨rfl, hw.mod⟩
 ·skip
  refine At.alloc Tryd.zeroValue45 rfl rfl (fun b31 => ?_)
  refine At.nil ?_
  refine KAt.go (fun w hw => hw.drop (List.Sublist.cons _ (List.Sublist.cons_cons _ (List.Sublist.cons_cons _ (List.Sublist.cons_cons _ (List.Sublist.cons_cons _ (List.Sublist.cons_cons _ (List.Sublist.cons_cons _ (List.Sublist.refl _))))))))) ?_
  refine KAt.only 2 rfl (by decide +kernel) ?_
  refine At.callN (fun w hw => copySp_n _ L w (row_rd (hw.row (i := 4) rfl) (by decide)) (by omega)) Tryd.call17 rfl rfl (fun v32 => ?_)
  refine At.rowIs (i := 0) rfl (fun A33 c34 hv => ?_)
  subst hv
  refine At.nil ?_
  refine KAt.go (fun w hw => hw.drop (List.Sublist.cons _ (List.Sublist.cons _ (List.Sublist.cons_cons _ (List.Sublist.cons_cons _ (List.Sublist.cons_cons _ (List.Sublist.cons_cons _ (List.Sublist.cons_cons _ (List.Sublist.cons_cons _ (List.Sublist.refl _)))))))))) ?_
  refine KAt.take 3 (Val.build (fun a ha => by simp only [List.map_toArray, List.map_cons, List.map_nil, ha.eval (x := (.tmp 41)) rfl, ha.eval (x := (.tmp 43)) rfl] <;> rfl) (bld_45_0_2 _ _ _ _ _ _ _ )) rfl rfl rfl rfl (fun w hw => hw.drop (List.Sublist.cons _ (List.Sublist.cons _ (List.Sublist.cons_cons _ (List.Sublist.cons_cons _ (List.Sublist.cons_cons _ (List.Sublist.cons_cons _ (List.Sublist.cons_cons _ (List.Sublist.cons_cons _ (List.Sublist.refl _)))))))))) (by decide +kernel) ?_
  refine KAt.only 5 rfl (by decide +kernel) ?_
  refine At.rowOne (i := 0) rfl (fun ho35 => ?_)
  refine At.storeAll (i := 1) Tryd.sizeOf45 rfl rfl rfl (by intro u hu; simp only [List.mem_cons, List.not_mem_nil, or_false] at hu; rcases hu with rfl | rfl | rfl | rfl | rfl | rfl <;> first | rfl | assumption) rfl rfl ?_
  simp only [sc0, scS]
  refine At.nil ?_
  refine KAt.go (fun w hw => hw.drop (List.Sublist.cons _ (List.Sublist.cons _ (List.Sublist.cons_cons _ (List.Sublist.cons_cons _ (List.Sublist.cons_cons _ (List.Sublist.cons_cons _ (List.Sublist.cons_cons _ (List.Sublist.cons_cons _ (List.Sublist.refl _)))))))))) ?_
  refine KAt.done (by decide +kernel) ?_
  refine At.thenN ?_
  refine tR ?_
  refine tM rfl rfl ?_
  refine At.val (Val.loadAll (i := 1) Tryd.isAgg45 Tryd.sizeOf45 rfl rfl rfl) rfl rfl rfl ?_
  refine At.callNT (g := (fun v => .tuple #[v, .int .i64 0])) (fun w hw => (by have h0 := restore_n _ _ (wbytes vs1) P I' C' (4 + I' / 8) L w (ht.mod hw.mod) (row_rd (hw.row (i := 3) rfl) (by decide)) (row_rd (hw.row (i := 0) rfl) (by decide)) (by rw [wbytes_length]; omega) (by first | omega | (simp only [List.length_take, List.length_drop]; omega) | (have h9 := growS_le L; omega)); rw [restL_yes ((hR1 L).trans (if_pos rfl)), (hR1 L).trans (if_pos rfl)] at h0; exact h0)) Tryd.call14 rfl rfl (fun v36 => ?_)
  refine tM rfl rfl ?_
  refine At.val (Val.extract rfl rfl) rfl rfl rfl ?_
  refine At.val (Val.extract rfl rfl) rfl rfl rfl ?_
  refine tA rfl rfl ?_
  refine tA rfl rfl ?_
  refine tE ?_
  refine At.seq ?_
  refine tR ?_
  refine tM rfl rfl ?_
  refine At.val (Val.not rfl) rfl rfl rfl ?_
  refine tM rfl rfl ?_
  refine At.yes rfl rfl ?_
  refine tM rfl rfl ?_
  refine At.yes rfl rfl ?_
  refine At.val (Val.bin rfl rfl rfl) rfl rfl rfl ?_
  refine At.val (Val.pickF rfl rfl) rfl rfl rfl ?_
  refine tM rfl rfl ?_
  refine At.yes rfl rfl ?_
  refine tM rfl rfl ?_
  refine At.yes rfl rfl ?_
  refine At.val (Val.bin rfl rfl rfl) rfl rfl rfl ?_
  refine At.val (Val.pickF rfl rfl) rfl rfl rfl ?_
  refine tM rfl rfl ?_
  refine At.yes rfl rfl ?_
  refine tM rfl rfl ?_
  refine At.yes rfl rfl ?_
  refine tM rfl rfl ?_
  refine At.yes rfl rfl ?_
  refine At.callP (fun w hw => (by have h0 := sameSpL_p _ _ L L w (row_rd (hw.row (i := 0) rfl) (by decide)) (row_rd (hw.row (i := 6) rfl) (by decide)) (by first | omega | (simp only [List.length_take, List.length_drop]; omega) | (have h9 := growS_le L; omega)) (by first | omega | (simp only [List.length_take, List.length_drop]; omega) | (have h9 := growS_le L; omega)); rwa [decide_eq_true rfl] at h0)) Tryd.call16 rfl rfl ?_
  refine At.yes rfl rfl ?_
  refine At.val (Val.not rfl) rfl rfl rfl ?_
  refine At.val (Val.pickF rfl rfl) rfl rfl rfl ?_
  refine tE ?_
  refine At.condF rfl ?_
  refine At.skipC ?_
  refine At.thenN ?_
  refine At.seq ?_
  refine tR ?_
  refine tA rfl rfl ?_
  refine tE ?_
  refine At.block ?_
  skip
  refine At.loop (σ := Nat) (fun k => k ≤ L.length) (fun k => [(1, .pointer (some ⟨b1, 0, none⟩)), (4, (.slice A3 ((L).length) c4)), (9, v8), (10, v9), (11, .pointer (some ⟨b31, 0, none⟩)), (12, v36), (14, .int .i64 (k : Int))]) (fun k => [rowR v36 51 2 (((scr k L)).length) (prS ((scr k L))), rowR (.slice A33 ((L).length) c34) 51 2 ((L).length) (prS (L)), blk b31 45 ([.int .i64 P, .int .i64 I', .int .i64 C', .int .i64 (4 + I' / 8), .slice none 0 0, (.slice A33 ((L).length) c34)]), rowR v9 5 1 ((wbytes vs1).length) ((wbytes vs1).map bv), rowR v8 5 1 ((wbytes vs1).length) ((wbytes vs1).map bv), Dev p5 y7 (σ1), rowR (.slice A3 ((L).length) c4) 51 2 ((L).length) (prS (L)), blk b2 28 ([.int .i64 P, .int .i64 I', .int .i64 C', .int .i64 (4 + I' / 8)]), blk b1 26 ([.int .i64 pg, .int .i64 ino, .int .i64 co, vM, vW, .int .i64 lf, vL])]) (fun k => L.length - k) 0 (Nat.zero_le _) (Sub.cons rfl (Sub.cons rfl (Sub.cons rfl (Sub.cons rfl (Sub.cons rfl (Sub.cons rfl (Sub.cons rfl Sub.nil))))))) (by rw [scr_0]) ?_
  intro k hs
  have hsl := scr_length k L
  refine At.seq ?_
  refine tR ?_
  refine tM rfl rfl ?_
  refine tM rfl rfl ?_
  refine At.val (Val.lenRow (i := 0) Tryd.underlying30 rfl rfl) rfl rfl rfl ?_
  refine At.val (Val.bin rfl rfl rfl) rfl rfl rfl ?_
  refine tE ?_
  refine At.cond rfl (fun h37 => ?_) (fun h37 => ?_)
  ·skip
   try simp only [hasB, isSizeB, Bool.not_eq_true', Bool.not_eq_false', bne_iff_ne, ne_eq, bne_eq_false_iff_eq, beq_iff_eq, beq_eq_false_iff_ne, decide_eq_true_eq, decide_eq_false_iff_not, gt_iff_lt, ge_iff_le] at h37
   refine At.skipC ?_
   refine At.thenN ?_
   refine At.seq ?_
   refine At.block ?_
   refine At.region ?_
   refine tM rfl rfl ?_
   refine tM rfl rfl ?_
   refine tM rfl rfl ?_
   refine At.val (Val.neg rfl) rfl rfl rfl ?_
   rw [wrap_i64 (by omega) (by omega)]
   first | refine At.val (Val.subI rfl rfl (by omega) (by omega)) rfl rfl rfl ?_ | refine At.val (Val.bin rfl rfl rfl) rfl rfl rfl ?_
   refine tM rfl rfl ?_
   refine At.val (Val.build (fun a ha => by simp only [List.map_toArray, List.map_cons, List.map_nil, ha.eval (x := (.tmp 77)) rfl, ha.eval (x := (.tmp 78)) rfl] <;> rfl) (bld_51_0_1 _ _ )) rfl rfl rfl ?_
   refine At.val (Val.indexRow (i := 0) (k * 2) (by omega) Tryd.underlying30 Tryd.sizeOf51 rfl rfl rfl (by omega) (by omega)) rfl rfl rfl ?_
   refine At.storeSpanRow (i := 0) (k := k) Tryd.sizeOf51 rfl rfl rfl (by omega) ?_
   simp only [sc0, scS]
   rw [scr_set (by omega)]
   refine At.nil ?_
   refine At.blkN ?_
   refine At.thenN ?_
   refine At.region ?_
   refine tM rfl rfl ?_
   first | refine At.val (Val.addI rfl rfl (by omega) (by omega)) rfl rfl rfl ?_ | refine At.val (Val.bin rfl rfl rfl) rfl rfl rfl ?_
   refine tA rfl rfl ?_
   refine tE ?_
   exact At.again (k + 1) (show k + 1 ≤ _ by omega) (by omega) (Sub.cons rfl (Sub.cons rfl (Sub.cons rfl (Sub.cons rfl (Sub.cons rfl (Sub.cons rfl (Sub.cons (congrArg (fun z => some (Value.int IntKind.i64 z)) (by omega)) Sub.nil))))))) (List.Perm.refl _)
  ·skip
   try simp only [hasB, isSizeB, Bool.not_eq_true', Bool.not_eq_false', bne_iff_ne, ne_eq, bne_eq_false_iff_eq, beq_iff_eq, beq_eq_false_iff_ne, decide_eq_true_eq, decide_eq_false_iff_not, gt_iff_lt, ge_iff_le] at h37
   refine At.exitC ?_
   refine At.thenX ?_
   refine At.thenX ?_
   refine At.blkX ?_
   refine At.thenN ?_
   refine At.seq ?_
   obtain rfl : k = L.length := by omega
   obtain ⟨D, hD⟩ : ∃ D, D = scr L.length L := ⟨_, rfl⟩
   have hDl : D.length = L.length := by rw [hD]; exact hsl
   have hDa : ∀ j : Nat, j < L.length → D[j]? = some (0 - (j : Int) - 1, (j : Int)) := fun j hj => by rw [hD, scr_get hj, if_pos hj]
   have hDb : ∀ j : Nat, j < L.length → (D ++ [(70, 0), (71, 0)])[j]? = some (0 - (j : Int) - 1, (j : Int)) := fun j hj => by rw [List.getElem?_append_left (by omega)]; exact hDa j hj
   have hDbl : (D ++ [(70, 0), (71, 0)]).length = L.length + 2 := by rw [List.length_append, hDl]; rfl
   rw [← hD]
   refine At.rowIs (i := 0) rfl (fun A38 c39 hv => ?_)
   subst hv
   refine At.region ?_
   refine tM rfl rfl ?_
   refine At.val (Val.build (fun a ha => by simp only [List.map_toArray, List.map_cons, List.map_nil, ha.eval (x := (.const (.int .i64 (70)))) rfl] <;> rfl) (bld_51_0 _ )) rfl rfl rfl ?_
   refine At.val (Val.build (fun a ha => by simp only [List.map_toArray, List.map_cons, List.map_nil, ha.eval (x := (.const (.int .i64 (71)))) rfl] <;> rfl) (bld_51_0 _ )) rfl rfl rfl ?_
   refine At.buildSl (fun a ha => by simp only [List.map_toArray, List.map_cons, List.map_nil, ha.eval (x := (.tmp 82)) rfl, ha.eval (x := (.tmp 83)) rfl]; try rfl) (bs_30_2 _ _ _ _ ) rfl (fun b40 => ?_)
   refine At.append2S (i := 1) (j := 0) (by_ := 16) Tryd.underlying30 info_51 rfl rfl rfl rfl rfl rfl rfl rfl (by omega) (by omega) rfl (fun v41 H42 hor43 => ?_)
   rcases hor43 with ⟨rfl, rfl⟩ | rfl
   ·skip
    simp only [sc0, scS]
    refine At.drop 0 ?_
    simp only [ec0, ecS]
    refine tA rfl rfl ?_
    refine tE ?_
    refine tR ?_
    refine tM rfl rfl ?_
    refine At.val (Val.loadAll (i := 2) Tryd.isAgg45 Tryd.sizeOf45 rfl rfl rfl) rfl rfl rfl ?_
    refine At.callNT (g := (fun v => .tuple #[v, .int .i64 0])) (fun w hw => (by have h0 := restore_n _ _ (wbytes vs1) P I' C' (4 + I' / 8) L w (ht.mod hw.mod) (row_rd (hw.row (i := 4) rfl) (by decide)) (row_rd (hw.row (i := 1) rfl) (by decide)) (by rw [wbytes_length]; omega) (by first | omega | (simp only [List.length_take, List.length_drop]; omega) | (have h9 := growS_le L; omega)); rw [restL_yes ((hR1 L).trans (if_pos rfl)), (hR1 L).trans (if_pos rfl)] at h0; exact h0)) Tryd.call14 rfl rfl (fun v44 => ?_)
    refine tM rfl rfl ?_
    refine At.val (Val.extract rfl rfl) rfl rfl rfl ?_
    refine At.val (Val.extract rfl rfl) rfl rfl rfl ?_
    refine tA rfl rfl ?_
    refine tA rfl rfl ?_
    refine tE ?_
    refine At.seq ?_
    refine tR ?_
    refine tM rfl rfl ?_
    refine At.val (Val.bin rfl rfl rfl) rfl rfl rfl ?_
    refine tM rfl rfl ?_
    refine At.yes rfl rfl ?_
    refine tM rfl rfl ?_
    refine At.yes rfl rfl ?_
    refine tM rfl rfl ?_
    refine At.yes rfl rfl ?_
    refine At.callP (fun w hw => (by have h0 := sameSpL_p _ _ L L w (row_rd (hw.row (i := 0) rfl) (by decide)) (row_rd (hw.row (i := 7) rfl) (by decide)) (by first | omega | (simp only [List.length_take, List.length_drop]; omega) | (have h9 := growS_le L; omega)) (by first | omega | (simp only [List.length_take, List.length_drop]; omega) | (have h9 := growS_le L; omega)); rwa [decide_eq_true rfl] at h0)) Tryd.call16 rfl rfl ?_
    refine At.yes rfl rfl ?_
    refine At.val (Val.not rfl) rfl rfl rfl ?_
    refine At.val (Val.pickF rfl rfl) rfl rfl rfl ?_
    refine tM rfl rfl ?_
    refine At.yes rfl rfl ?_
    refine At.val (Val.field 5 rfl fo_45_2 rfl) rfl rfl rfl ?_
    refine At.yes rfl rfl ?_
    refine At.val (Val.load (i := 3) Tryd.isAgg30 rfl rfl rfl) rfl rfl rfl ?_
    refine At.yes rfl rfl ?_
    refine tM rfl rfl ?_
    refine At.yes rfl rfl ?_
    refine At.callP (fun w hw => (by have h0 := sameSpL_p _ _ L L w (row_rd (hw.row (i := 2) rfl) (by decide)) (row_rd (hw.row (i := 7) rfl) (by decide)) (by first | omega | (simp only [List.length_take, List.length_drop]; omega) | (have h9 := growS_le L; omega)) (by first | omega | (simp only [List.length_take, List.length_drop]; omega) | (have h9 := growS_le L; omega)); rwa [decide_eq_true rfl] at h0)) Tryd.call16 rfl rfl ?_
    refine At.yes rfl rfl ?_
    refine At.val (Val.not rfl) rfl rfl rfl ?_
    refine At.val (Val.pickF rfl rfl) rfl rfl rfl ?_
    refine tM rfl rfl ?_
    refine At.yes rfl rfl ?_
    refine tM rfl rfl ?_
    refine At.yes rfl rfl ?_
    refine tM rfl rfl ?_
    refine At.yes rfl rfl ?_
    refine At.callP (fun w hw => (by have h0 := sameBytes_p _ _ (wbytes vs1) (wbytes vs1) w (row_rd (hw.row (i := 5) rfl) (by decide)) (row_rd (hw.row (i := 4) rfl) (by decide)) (by rw [wbytes_length]; omega) (by rw [wbytes_length]; omega); rwa [decide_eq_true rfl] at h0)) Tryd.call18 rfl rfl ?_
    refine At.yes rfl rfl ?_
    refine At.val (Val.not rfl) rfl rfl rfl ?_
    refine At.val (Val.pickF rfl rfl) rfl rfl rfl ?_
    refine tE ?_
    refine At.condF rfl ?_
    refine At.skipC ?_
    refine At.thenN ?_
    refine At.seq ?_
    refine tR ?_
    refine tA rfl rfl ?_
    refine tE ?_
    refine At.block ?_
    skip
    refine At.loop (σ := Nat × List (Int × Int)) (fun s => s.1 ≤ L.length ∧ s.2.length = L.length) (fun s => [(1, .pointer (some ⟨b1, 0, none⟩)), (4, (.slice A3 ((L).length) c4)), (9, v8), (11, .pointer (some ⟨b31, 0, none⟩)), (12, (.slice A38 D.length c39)), (15, (.slice A38 (D ++ [(70, 0), (71, 0)]).length c39)), (16, v44), (17, .int .i64 (s.1 : Int))]) (fun s => [rowR v44 51 2 ((s.2).length) (prS (s.2)), rowR (.slice A38 (D ++ [(70, 0), (71, 0)]).length c39) 51 2 (((D ++ [(70, 0), (71, 0)])).length) (prS ((D ++ [(70, 0), (71, 0)]))), rowR (.slice A33 ((L).length) c34) 51 2 ((L).length) (prS (L)), blk b31 45 ([.int .i64 P, .int .i64 I', .int .i64 C', .int .i64 (4 + I' / 8), .slice none 0 0, (.slice A33 ((L).length) c34)]), rowR v9 5 1 ((wbytes vs1).length) ((wbytes vs1).map bv), rowR v8 5 1 ((wbytes vs1).length) ((wbytes vs1).map bv), Dev p5 y7 (σ1), rowR (.slice A3 ((L).length) c4) 51 2 ((L).length) (prS (L)), blk b2 28 ([.int .i64 P, .int .i64 I', .int .i64 C', .int .i64 (4 + I' / 8)]), blk b1 26 ([.int .i64 pg, .int .i64 ino, .int .i64 co, vM, vW, .int .i64 lf, vL])]) (fun s => L.length - s.1) (0, L) ⟨Nat.zero_le _, rfl⟩ (Sub.cons rfl (Sub.cons rfl (Sub.cons rfl (Sub.cons rfl (Sub.cons rfl (Sub.cons rfl (Sub.cons rfl (Sub.cons rfl Sub.nil)))))))) (List.Perm.refl _) ?_
    intro s hs
    obtain ⟨k, M⟩ := s
    dsimp only at hs ⊢
    obtain ⟨hk, hMl⟩ := hs
    refine At.seq ?_
    refine tR ?_
    refine tM rfl rfl ?_
    refine tM rfl rfl ?_
    refine At.val (Val.lenRow (i := 0) Tryd.underlying30 rfl rfl) rfl rfl rfl ?_
    refine At.val (Val.bin rfl rfl rfl) rfl rfl rfl ?_
    refine tE ?_
    refine At.cond rfl (fun h45 => ?_) (fun h45 => ?_)
    ·skip
     try simp only [hasB, isSizeB, Bool.not_eq_true', Bool.not_eq_false', bne_iff_ne, ne_eq, bne_eq_false_iff_eq, beq_iff_eq, beq_eq_false_iff_ne, decide_eq_true_eq, decide_eq_false_iff_not, gt_iff_lt, ge_iff_le] at h45
     refine At.skipC ?_
     refine At.thenN ?_
     refine At.seq ?_
     refine At.block ?_
     refine At.region ?_
     refine tM rfl rfl ?_
     refine tM rfl rfl ?_
     refine At.val (Val.build (fun a ha => by simp only [List.map_toArray, List.map_cons, List.map_nil, ha.eval (x := (.const (.int .i64 (9)))) rfl, ha.eval (x := (.const (.int .i64 (9)))) rfl] <;> rfl) (bld_51_0_1 _ _ )) rfl rfl rfl ?_
     refine At.val (Val.indexRow (i := 0) (k * 2) (by omega) Tryd.underlying30 Tryd.sizeOf51 rfl rfl rfl (by omega) (by omega)) rfl rfl rfl ?_
     refine At.storeSpanRow (i := 0) (k := k) Tryd.sizeOf51 rfl rfl rfl (by omega) ?_
     simp only [sc0, scS]
     refine At.nil ?_
     refine At.blkN ?_
     refine At.thenN ?_
     refine At.region ?_
     refine tM rfl rfl ?_
     first | refine At.val (Val.addI rfl rfl (by omega) (by omega)) rfl rfl rfl ?_ | refine At.val (Val.bin rfl rfl rfl) rfl rfl rfl ?_
     refine tA rfl rfl ?_
     refine tE ?_
     exact At.again (k + 1, M.set k (9, 9)) ⟨(show k + 1 ≤ _ by omega), (by dsimp only; rw [List.length_set]; exact hMl)⟩ (by dsimp only; omega) (Sub.cons rfl (Sub.cons rfl (Sub.cons rfl (Sub.cons rfl (Sub.cons rfl (Sub.cons rfl (Sub.cons rfl (Sub.cons (congrArg (fun z => some (Value.int IntKind.i64 z)) (by dsimp only; omega)) Sub.nil)))))))) (List.Perm.refl _)
    ·skip
     try simp only [hasB, isSizeB, Bool.not_eq_true', Bool.not_eq_false', bne_iff_ne, ne_eq, bne_eq_false_iff_eq, beq_iff_eq, beq_eq_false_iff_ne, decide_eq_true_eq, decide_eq_false_iff_not, gt_iff_lt, ge_iff_le] at h45
     refine At.exitC ?_
     refine At.thenX ?_
     refine At.thenX ?_
     refine At.blkX ?_
     refine At.thenN ?_
     refine At.seq ?_
     refine tR ?_
     refine tA rfl rfl ?_
     refine tE ?_
     refine At.block ?_
     skip
     refine At.loop (σ := Nat) (fun k => k ≤ L.length) (fun k => [(1, .pointer (some ⟨b1, 0, none⟩)), (4, (.slice A3 ((L).length) c4)), (9, v8), (11, .pointer (some ⟨b31, 0, none⟩)), (12, (.slice A38 D.length c39)), (15, (.slice A38 (D ++ [(70, 0), (71, 0)]).length c39)), (18, .int .i64 (k : Int))]) (fun k => [rowR v44 51 2 ((M).length) (prS (M)), rowR (.slice A38 (D ++ [(70, 0), (71, 0)]).length c39) 51 2 (((D ++ [(70, 0), (71, 0)])).length) (prS ((D ++ [(70, 0), (71, 0)]))), rowR (.slice A33 ((L).length) c34) 51 2 ((L).length) (prS (L)), blk b31 45 ([.int .i64 P, .int .i64 I', .int .i64 C', .int .i64 (4 + I' / 8), .slice none 0 0, (.slice A33 ((L).length) c34)]), rowR v9 5 1 ((wbytes vs1).length) ((wbytes vs1).map bv), rowR v8 5 1 ((wbytes vs1).length) ((wbytes vs1).map bv), Dev p5 y7 (σ1), rowR (.slice A3 ((L).length) c4) 51 2 ((L).length) (prS (L)), blk b2 28 ([.int .i64 P, .int .i64 I', .int .i64 C', .int .i64 (4 + I' / 8)]), blk b1 26 ([.int .i64 pg, .int .i64 ino, .int .i64 co, vM, vW, .int .i64 lf, vL])]) (fun k => L.length - k) 0 (Nat.zero_le _) (Sub.cons rfl (Sub.cons rfl (Sub.cons rfl (Sub.cons rfl (Sub.cons rfl (Sub.cons rfl (Sub.cons rfl Sub.nil))))))) (List.Perm.refl _) ?_
     intro k hk
     refine At.seq ?_
     refine tR ?_
     refine tM rfl rfl ?_
     refine tM rfl rfl ?_
     refine At.val (Val.len (bt := #[]) Tryd.underlying30 rfl) rfl rfl rfl ?_
     refine At.val (Val.bin rfl rfl rfl) rfl rfl rfl ?_
     refine tE ?_
     refine At.cond rfl (fun h46 => ?_) (fun h46 => ?_)
     ·skip
      try simp only [hasB, isSizeB, Bool.not_eq_true', Bool.not_eq_false', bne_iff_ne, ne_eq, bne_eq_false_iff_eq, beq_iff_eq, beq_eq_false_iff_ne, decide_eq_true_eq, decide_eq_false_iff_not, gt_iff_lt, ge_iff_le] at h46
      refine At.skipC ?_
      refine At.thenN ?_
      refine At.seq ?_
      refine At.block ?_
      refine tR ?_
      refine tM rfl rfl ?_
      refine tM rfl rfl ?_
      refine At.val (Val.indexRowP (i := 1) (k * 2) (by omega) Tryd.underlying30 Tryd.sizeOf51 rfl rfl rfl (by omega) (by omega) (by omega)) rfl rfl rfl ?_
      refine At.val (Val.field ((k * 2 + 0)) rfl fo_51_0 rfl) rfl rfl rfl ?_
      refine At.val (Val.loadRow (u := .int .i64 (0 - (k : Int) - 1)) (i := 1) Tryd.isAgg3 rfl rfl (prS_at (hDb k (by omega))).1) rfl rfl rfl ?_
      refine tM rfl rfl ?_
      refine At.val (Val.neg rfl) rfl rfl rfl ?_
      rw [wrap_i64 (by omega) (by omega)]
      first | refine At.val (Val.subI rfl rfl (by omega) (by omega)) rfl rfl rfl ?_ | refine At.val (Val.bin rfl rfl rfl) rfl rfl rfl ?_
      refine At.val (Val.bin rfl rfl rfl) rfl rfl rfl ?_
      rw [bne_self_eq_false]
      refine tM rfl rfl ?_
      refine At.yes rfl rfl ?_
      refine tM rfl rfl ?_
      refine At.yes rfl rfl ?_
      refine tM rfl rfl ?_
      refine At.yes rfl rfl ?_
      refine At.val (Val.indexRowP (i := 1) (k * 2) (by omega) Tryd.underlying30 Tryd.sizeOf51 rfl rfl rfl (by omega) (by omega) (by omega)) rfl rfl rfl ?_
      refine At.yes rfl rfl ?_
      refine At.val (Val.field ((k * 2 + 1)) rfl fo_51_1 rfl) rfl rfl rfl ?_
      refine At.yes rfl rfl ?_
      refine At.val (Val.loadRow (u := .int .i64 (k : Int)) (i := 1) Tryd.isAgg3 rfl rfl (prS_at (hDb k (by omega))).2) rfl rfl rfl ?_
      refine At.yes rfl rfl ?_
      refine tM rfl rfl ?_
      refine At.yes rfl rfl ?_
      refine At.val (Val.bin rfl rfl rfl) rfl rfl rfl ?_
      rw [bne_self_eq_false]
      refine At.val (Val.pickF rfl rfl) rfl rfl rfl ?_
      refine tM rfl rfl ?_
      refine At.yes rfl rfl ?_
      refine tM rfl rfl ?_
      refine At.yes rfl rfl ?_
      refine tM rfl rfl ?_
      refine At.yes rfl rfl ?_
      refine At.val (Val.indexRow (i := 1) (k * 2) (by omega) Tryd.underlying30 Tryd.sizeOf51 rfl rfl rfl (by omega) (by omega)) rfl rfl rfl ?_
      refine At.yes rfl rfl ?_
      refine At.val (Val.field ((k * 2 + 0)) rfl fo_51_0 rfl) rfl rfl rfl ?_
      refine At.yes rfl rfl ?_
      refine At.val (Val.loadRow (u := .int .i64 (0 - (k : Int) - 1)) (i := 1) Tryd.isAgg3 rfl rfl (prS_at (hDb k (by omega))).1) rfl rfl rfl ?_
      refine At.yes rfl rfl ?_
      refine tM rfl rfl ?_
      refine At.yes rfl rfl ?_
      refine At.val (Val.neg rfl) rfl rfl rfl ?_
      rw [wrap_i64 (by omega) (by omega)]
      refine At.yes rfl rfl ?_
      first | refine At.val (Val.subI rfl rfl (by omega) (by omega)) rfl rfl rfl ?_ | refine At.val (Val.bin rfl rfl rfl) rfl rfl rfl ?_
      refine At.yes rfl rfl ?_
      refine At.val (Val.bin rfl rfl rfl) rfl rfl rfl ?_
      rw [bne_self_eq_false]
      refine At.val (Val.pickF rfl rfl) rfl rfl rfl ?_
      refine tE ?_
      refine At.condF rfl ?_
      refine At.skipC ?_
      refine At.blkN ?_
      refine At.thenN ?_
      refine At.region ?_
      refine tM rfl rfl ?_
      first | refine At.val (Val.addI rfl rfl (by omega) (by omega)) rfl rfl rfl ?_ | refine At.val (Val.bin rfl rfl rfl) rfl rfl rfl ?_
      refine tA rfl rfl ?_
      refine tE ?_
      exact At.again (k + 1) (show k + 1 ≤ _ by omega) (by omega) (Sub.cons rfl (Sub.cons rfl (Sub.cons rfl (Sub.cons rfl (Sub.cons rfl (Sub.cons rfl (Sub.cons (congrArg (fun z => some (Value.int IntKind.i64 z)) (by omega)) Sub.nil))))))) (List.Perm.refl _)
     ·skip
      try simp only [hasB, isSizeB, Bool.not_eq_true', Bool.not_eq_false', bne_iff_ne, ne_eq, bne_eq_false_iff_eq, beq_iff_eq, beq_eq_false_iff_ne, decide_eq_true_eq, decide_eq_false_iff_not, gt_iff_lt, ge_iff_le] at h46
      refine At.exitC ?_
      refine At.thenX ?_
      refine At.thenX ?_
      refine At.blkX ?_
      refine At.thenN ?_
      refine tR ?_
      refine tM rfl rfl ?_
      refine At.val (Val.loadAll (i := 3) Tryd.isAgg45 Tryd.sizeOf45 rfl rfl rfl) rfl rfl rfl ?_
      refine At.callNT (g := (fun v => .tuple #[v, .int .i64 0])) (fun w hw => (by have h0 := restore_n _ _ (wbytes vs1) P I' C' (4 + I' / 8) L w (ht.mod hw.mod) (row_rd (hw.row (i := 5) rfl) (by decide)) (row_rd (hw.row (i := 2) rfl) (by decide)) (by rw [wbytes_length]; omega) (by first | omega | (simp only [List.length_take, List.length_drop]; omega) | (have h9 := growS_le L; omega)); rw [restL_yes ((hR1 L).trans (if_pos rfl)), (hR1 L).trans (if_pos rfl)] at h0; exact h0)) Tryd.call14 rfl rfl (fun v47 => ?_)
      refine tM rfl rfl ?_
      refine At.val (Val.extract rfl rfl) rfl rfl rfl ?_
      refine At.val (Val.extract rfl rfl) rfl rfl rfl ?_
      refine tA rfl rfl ?_
      refine tA rfl rfl ?_
      refine tE ?_
      refine tR ?_
      refine tM rfl rfl ?_
      refine At.val (Val.bin rfl rfl rfl) rfl rfl rfl ?_
      refine tM rfl rfl ?_
      refine At.yes rfl rfl ?_
      refine tM rfl rfl ?_
      refine At.yes rfl rfl ?_
      refine tM rfl rfl ?_
      refine At.yes rfl rfl ?_
      refine At.callP (fun w hw => (by have h0 := sameSpL_p _ _ L L w (row_rd (hw.row (i := 0) rfl) (by decide)) (row_rd (hw.row (i := 8) rfl) (by decide)) (by first | omega | (simp only [List.length_take, List.length_drop]; omega) | (have h9 := growS_le L; omega)) (by first | omega | (simp only [List.length_take, List.length_drop]; omega) | (have h9 := growS_le L; omega)); rwa [decide_eq_true rfl] at h0)) Tryd.call16 rfl rfl ?_
      refine At.val (Val.pickT rfl rfl) rfl rfl rfl ?_
      refine tM rfl rfl ?_
      refine At.yes rfl rfl ?_
      refine At.val (Val.loadAll (i := 10) Tryd.isAgg26 Tryd.sizeOf26 rfl rfl rfl) rfl rfl rfl ?_
      refine At.yes rfl rfl ?_
      refine At.callP (fun w hw => lentIn_p pg ino co lf vM vW vL MS WS cs w (ht.mod hw.mod) (hvM.mod hw.mod) hmM (hvW.mod hw.mod) hmW (hvL.mod hw.mod) hmL hlf) Tryd.call19 rfl rfl ?_
      refine At.val (Val.pickT rfl rfl) rfl rfl rfl ?_
      refine tA rfl rfl ?_
      refine tE ?_
      refine At.retC ?_
      refine At.ret1 (.inl rfl) rfl rfl rfl (fun w hw => ?_)
      exact ⟨rfl, hw.mod⟩
   ·skip
    refine At.drop 1 ?_
    simp only [ec0, ecS]
    refine tA rfl rfl ?_
    refine tE ?_
    refine tR ?_
    refine tM rfl rfl ?_
    refine At.val (Val.loadAll (i := 3) Tryd.isAgg45 Tryd.sizeOf45 rfl rfl rfl) rfl rfl rfl ?_
    refine At.callNT (g := (fun v => .tuple #[v, .int .i64 0])) (fun w hw => (by have h0 := restore_n _ _ (wbytes vs1) P I' C' (4 + I' / 8) L w (ht.mod hw.mod) (row_rd (hw.row (i := 5) rfl) (by decide)) (row_rd (hw.row (i := 2) rfl) (by decide)) (by rw [wbytes_length]; omega) (by first | omega | (simp only [List.length_take, List.length_drop]; omega) | (have h9 := growS_le L; omega)); rw [restL_yes ((hR1 L).trans (if_pos rfl)), (hR1 L).trans (if_pos rfl)] at h0; exact h0)) Tryd.call14 rfl rfl (fun v48 => ?_)
    refine tM rfl rfl ?_
    refine At.val (Val.extract rfl rfl) rfl rfl rfl ?_
    refine At.val (Val.extract rfl rfl) rfl rfl rfl ?_
    refine tA rfl rfl ?_
    refine tA rfl rfl ?_
    refine tE ?_
    refine At.seq ?_
    refine tR ?_
    refine tM rfl rfl ?_
    refine At.val (Val.bin rfl rfl rfl) rfl rfl rfl ?_
    refine tM rfl rfl ?_
    refine At.yes rfl rfl ?_
    refine tM rfl rfl ?_
    refine At.yes rfl rfl ?_
    refine tM rfl rfl ?_
    refine At.yes rfl rfl ?_
    refine At.callP (fun w hw => (by have h0 := sameSpL_p _ _ L L w (row_rd (hw.row (i := 0) rfl) (by decide)) (row_rd (hw.row (i := 8) rfl) (by decide)) (by first | omega | (simp only [List.length_take, List.length_drop]; omega) | (have h9 := growS_le L; omega)) (by first | omega | (simp only [List.length_take, List.length_drop]; omega) | (have h9 := growS_le L; omega)); rwa [decide_eq_true rfl] at h0)) Tryd.call16 rfl rfl ?_
    refine At.yes rfl rfl ?_
    refine At.val (Val.not rfl) rfl rfl rfl ?_
    refine At.val (Val.pickF rfl rfl) rfl rfl rfl ?_
    refine tM rfl rfl ?_
    refine At.yes rfl rfl ?_
    refine At.val (Val.field 5 rfl fo_45_2 rfl) rfl rfl rfl ?_
    refine At.yes rfl rfl ?_
    refine At.val (Val.load (i := 4) Tryd.isAgg30 rfl rfl rfl) rfl rfl rfl ?_
    refine At.yes rfl rfl ?_
    refine tM rfl rfl ?_
    refine At.yes rfl rfl ?_
    refine At.callP (fun w hw => (by have h0 := sameSpL_p _ _ L L w (row_rd (hw.row (i := 3) rfl) (by decide)) (row_rd (hw.row (i := 8) rfl) (by decide)) (by first | omega | (simp only [List.length_take, List.length_drop]; omega) | (have h9 := growS_le L; omega)) (by first | omega | (simp only [List.length_take, List.length_drop]; omega) | (have h9 := growS_le L; omega)); rwa [decide_eq_true rfl] at h0)) Tryd.call16 rfl rfl ?_
    refine At.yes rfl rfl ?_
    refine At.val (Val.not rfl) rfl rfl rfl ?_
    refine At.val (Val.pickF rfl rfl) rfl rfl rfl ?_
    refine tM rfl rfl ?_
    refine At.yes rfl rfl ?_
    refine tM rfl rfl ?_
    refine At.yes rfl rfl ?_
    refine tM rfl rfl ?_
    refine At.yes rfl rfl ?_
    refine At.callP (fun w hw => (by have h0 := sameBytes_p _ _ (wbytes vs1) (wbytes vs1) w (row_rd (hw.row (i := 6) rfl) (by decide)) (row_rd (hw.row (i := 5) rfl) (by decide)) (by rw [wbytes_length]; omega) (by rw [wbytes_length]; omega); rwa [decide_eq_true rfl] at h0)) Tryd.call18 rfl rfl ?_
    refine At.yes rfl rfl ?_
    refine At.val (Val.not rfl) rfl rfl rfl ?_
    refine At.val (Val.pickF rfl rfl) rfl rfl rfl ?_
    refine tE ?_
    refine At.condF rfl ?_
    refine At.skipC ?_
    refine At.thenN ?_
    refine At.seq ?_
    refine tR ?_
    refine tA rfl rfl ?_
    refine tE ?_
    refine At.block ?_
    skip
    refine At.loop (σ := Nat × List (Int × Int)) (fun s => s.1 ≤ L.length ∧ s.2.length = L.length) (fun s => [(1, .pointer (some ⟨b1, 0, none⟩)), (4, (.slice A3 ((L).length) c4)), (9, v8), (11, .pointer (some ⟨b31, 0, none⟩)), (12, (.slice A38 ((D).length) c39)), (15, v41), (16, v48), (17, .int .i64 (s.1 : Int))]) (fun s => [rowR v48 51 2 ((s.2).length) (prS (s.2)), rowR v41 51 2 (((D ++ [(70, 0), (71, 0)])).length) (prS ((D ++ [(70, 0), (71, 0)]))), rowR (.slice A38 ((D).length) c39) 51 2 ((D).length) (prS (D)), rowR (.slice A33 ((L).length) c34) 51 2 ((L).length) (prS (L)), blk b31 45 ([.int .i64 P, .int .i64 I', .int .i64 C', .int .i64 (4 + I' / 8), .slice none 0 0, (.slice A33 ((L).length) c34)]), rowR v9 5 1 ((wbytes vs1).length) ((wbytes vs1).map bv), rowR v8 5 1 ((wbytes vs1).length) ((wbytes vs1).map bv), Dev p5 y7 (σ1), rowR (.slice A3 ((L).length) c4) 51 2 ((L).length) (prS (L)), blk b2 28 ([.int .i64 P, .int .i64 I', .int .i64 C', .int .i64 (4 + I' / 8)]), blk b1 26 ([.int .i64 pg, .int .i64 ino, .int .i64 co, vM, vW, .int .i64 lf, vL])]) (fun s => L.length - s.1) (0, L) ⟨Nat.zero_le _, rfl⟩ (Sub.cons rfl (Sub.cons rfl (Sub.cons rfl (Sub.cons rfl (Sub.cons rfl (Sub.cons rfl (Sub.cons rfl (Sub.cons rfl Sub.nil)))))))) (List.Perm.refl _) ?_
    intro s hs
    obtain ⟨k, M⟩ := s
    dsimp only at hs ⊢
    obtain ⟨hk, hMl⟩ := hs
    refine At.seq ?_
    refine tR ?_
    refine tM rfl rfl ?_
    refine tM rfl rfl ?_
    refine At.val (Val.lenRow (i := 0) Tryd.underlying30 rfl rfl) rfl rfl rfl ?_
    refine At.val (Val.bin rfl rfl rfl) rfl rfl rfl ?_
    refine tE ?_
    refine At.cond rfl (fun h49 => ?_) (fun h49 => ?_)
    ·skip
     try simp only [hasB, isSizeB, Bool.not_eq_true', Bool.not_eq_false', bne_iff_ne, ne_eq, bne_eq_false_iff_eq, beq_iff_eq, beq_eq_false_iff_ne, decide_eq_true_eq, decide_eq_false_iff_not, gt_iff_lt, ge_iff_le] at h49
     refine At.skipC ?_
     refine At.thenN ?_
     refine At.seq ?_
     refine At.block ?_
     refine At.region ?_
     refine tM rfl rfl ?_
     refine tM rfl rfl ?_
     refine At.val (Val.build (fun a ha => by simp only [List.map_toArray, List.map_cons, List.map_nil, ha.eval (x := (.const (.int .i64 (9)))) rfl, ha.eval (x := (.const (.int .i64 (9)))) rfl] <;> rfl) (bld_51_0_1 _ _ )) rfl rfl rfl ?_
     refine At.val (Val.indexRow (i := 0) (k * 2) (by omega) Tryd.underlying30 Tryd.sizeOf51 rfl rfl rfl (by omega) (by omega)) rfl rfl rfl ?_
     refine At.storeSpanRow (i := 0) (k := k) Tryd.sizeOf51 rfl rfl rfl (by omega) ?_
     simp only [sc0, scS]
     refine At.nil ?_
     refine At.blkN ?_
     refine At.thenN ?_
     refine At.region ?_
     refine tM rfl rfl ?_
     first | refine At.val (Val.addI rfl rfl (by omega) (by omega)) rfl rfl rfl ?_ | refine At.val (Val.bin rfl rfl rfl) rfl rfl rfl ?_
     refine tA rfl rfl ?_
     refine tE ?_
     exact At.again (k + 1, M.set k (9, 9)) ⟨(show k + 1 ≤ _ by omega), (by dsimp only; rw [List.length_set]; exact hMl)⟩ (by dsimp only; omega) (Sub.cons rfl (Sub.cons rfl (Sub.cons rfl (Sub.cons rfl (Sub.cons rfl (Sub.cons rfl (Sub.cons rfl (Sub.cons (congrArg (fun z => some (Value.int IntKind.i64 z)) (by dsimp only; omega)) Sub.nil)))))))) (List.Perm.refl _)
    ·skip
     try simp only [hasB, isSizeB, Bool.not_eq_true', Bool.not_eq_false', bne_iff_ne, ne_eq, bne_eq_false_iff_eq, beq_iff_eq, beq_eq_false_iff_ne, decide_eq_true_eq, decide_eq_false_iff_not, gt_iff_lt, ge_iff_le] at h49
     refine At.exitC ?_
     refine At.thenX ?_
     refine At.thenX ?_
     refine At.blkX ?_
     refine At.thenN ?_
     refine At.seq ?_
     refine tR ?_
     refine tA rfl rfl ?_
     refine tE ?_
     refine At.block ?_
     skip
     refine At.loop (σ := Nat) (fun k => k ≤ L.length) (fun k => [(1, .pointer (some ⟨b1, 0, none⟩)), (4, (.slice A3 ((L).length) c4)), (9, v8), (11, .pointer (some ⟨b31, 0, none⟩)), (12, (.slice A38 ((D).length) c39)), (15, v41), (18, .int .i64 (k : Int))]) (fun k => [rowR v48 51 2 ((M).length) (prS (M)), rowR v41 51 2 (((D ++ [(70, 0), (71, 0)])).length) (prS ((D ++ [(70, 0), (71, 0)]))), rowR (.slice A38 ((D).length) c39) 51 2 ((D).length) (prS (D)), rowR (.slice A33 ((L).length) c34) 51 2 ((L).length) (prS (L)), blk b31 45 ([.int .i64 P, .int .i64 I', .int .i64 C', .int .i64 (4 + I' / 8), .slice none 0 0, (.slice A33 ((L).length) c34)]), rowR v9 5 1 ((wbytes vs1).length) ((wbytes vs1).map bv), rowR v8 5 1 ((wbytes vs1).length) ((wbytes vs1).map bv), Dev p5 y7 (σ1), rowR (.slice A3 ((L).length) c4) 51 2 ((L).length) (prS (L)), blk b2 28 ([.int .i64 P, .int .i64 I', .int .i64 C', .int .i64 (4 + I' / 8)]), blk b1 26 ([.int .i64 pg, .int .i64 ino, .int .i64 co, vM, vW, .int .i64 lf, vL])]) (fun k => L.length - k) 0 (Nat.zero_le _) (Sub.cons rfl (Sub.cons rfl (Sub.cons rfl (Sub.cons rfl (Sub.cons rfl (Sub.cons rfl (Sub.cons rfl Sub.nil))))))) (List.Perm.refl _) ?_
     intro k hk
     refine At.seq ?_
     refine tR ?_
     refine tM rfl rfl ?_
     refine tM rfl rfl ?_
     refine At.val (Val.lenRow (i := 2) Tryd.underlying30 rfl rfl) rfl rfl rfl ?_
     refine At.val (Val.bin rfl rfl rfl) rfl rfl rfl ?_
     refine tE ?_
     refine At.cond rfl (fun h50 => ?_) (fun h50 => ?_)
     ·skip
      try simp only [hasB, isSizeB, Bool.not_eq_true', Bool.not_eq_false', bne_iff_ne, ne_eq, bne_eq_false_iff_eq, beq_iff_eq, beq_eq_false_iff_ne, decide_eq_true_eq, decide_eq_false_iff_not, gt_iff_lt, ge_iff_le] at h50
      refine At.skipC ?_
      refine At.thenN ?_
      refine At.seq ?_
      refine At.block ?_
      refine tR ?_
      refine tM rfl rfl ?_
      refine tM rfl rfl ?_
      refine At.val (Val.indexRow (i := 2) (k * 2) (by omega) Tryd.underlying30 Tryd.sizeOf51 rfl rfl rfl (by omega) (by omega)) rfl rfl rfl ?_
      refine At.val (Val.field ((k * 2 + 0)) rfl fo_51_0 rfl) rfl rfl rfl ?_
      refine At.val (Val.loadRow (u := .int .i64 (0 - (k : Int) - 1)) (i := 2) Tryd.isAgg3 rfl rfl (prS_at (hDa k (by omega))).1) rfl rfl rfl ?_
      refine tM rfl rfl ?_
      refine At.val (Val.neg rfl) rfl rfl rfl ?_
      rw [wrap_i64 (by omega) (by omega)]
      first | refine At.val (Val.subI rfl rfl (by omega) (by omega)) rfl rfl rfl ?_ | refine At.val (Val.bin rfl rfl rfl) rfl rfl rfl ?_
      refine At.val (Val.bin rfl rfl rfl) rfl rfl rfl ?_
      rw [bne_self_eq_false]
      refine tM rfl rfl ?_
      refine At.yes rfl rfl ?_
      refine tM rfl rfl ?_
      refine At.yes rfl rfl ?_
      refine tM rfl rfl ?_
      refine At.yes rfl rfl ?_
      refine At.val (Val.indexRow (i := 2) (k * 2) (by omega) Tryd.underlying30 Tryd.sizeOf51 rfl rfl rfl (by omega) (by omega)) rfl rfl rfl ?_
      refine At.yes rfl rfl ?_
      refine At.val (Val.field ((k * 2 + 1)) rfl fo_51_1 rfl) rfl rfl rfl ?_
      refine At.yes rfl rfl ?_
      refine At.val (Val.loadRow (u := .int .i64 (k : Int)) (i := 2) Tryd.isAgg3 rfl rfl (prS_at (hDa k (by omega))).2) rfl rfl rfl ?_
      refine At.yes rfl rfl ?_
      refine tM rfl rfl ?_
      refine At.yes rfl rfl ?_
      refine At.val (Val.bin rfl rfl rfl) rfl rfl rfl ?_
      rw [bne_self_eq_false]
      refine At.val (Val.pickF rfl rfl) rfl rfl rfl ?_
      refine tM rfl rfl ?_
      refine At.yes rfl rfl ?_
      refine tM rfl rfl ?_
      refine At.yes rfl rfl ?_
      refine tM rfl rfl ?_
      refine At.yes rfl rfl ?_
      refine At.val (Val.indexRow (i := 1) (k * 2) (by omega) Tryd.underlying30 Tryd.sizeOf51 rfl rfl rfl (by omega) (by omega)) rfl rfl rfl ?_
      refine At.yes rfl rfl ?_
      refine At.val (Val.field ((k * 2 + 0)) rfl fo_51_0 rfl) rfl rfl rfl ?_
      refine At.yes rfl rfl ?_
      refine At.val (Val.loadRow (u := .int .i64 (0 - (k : Int) - 1)) (i := 1) Tryd.isAgg3 rfl rfl (prS_at (hDb k (by omega))).1) rfl rfl rfl ?_
      refine At.yes rfl rfl ?_
      refine tM rfl rfl ?_
      refine At.yes rfl rfl ?_
      refine At.val (Val.neg rfl) rfl rfl rfl ?_
      rw [wrap_i64 (by omega) (by omega)]
      refine At.yes rfl rfl ?_
      first | refine At.val (Val.subI rfl rfl (by omega) (by omega)) rfl rfl rfl ?_ | refine At.val (Val.bin rfl rfl rfl) rfl rfl rfl ?_
      refine At.yes rfl rfl ?_
      refine At.val (Val.bin rfl rfl rfl) rfl rfl rfl ?_
      rw [bne_self_eq_false]
      refine At.val (Val.pickF rfl rfl) rfl rfl rfl ?_
      refine tE ?_
      refine At.condF rfl ?_
      refine At.skipC ?_
      refine At.blkN ?_
      refine At.thenN ?_
      refine At.region ?_
      refine tM rfl rfl ?_
      first | refine At.val (Val.addI rfl rfl (by omega) (by omega)) rfl rfl rfl ?_ | refine At.val (Val.bin rfl rfl rfl) rfl rfl rfl ?_
      refine tA rfl rfl ?_
      refine tE ?_
      exact At.again (k + 1) (show k + 1 ≤ _ by omega) (by omega) (Sub.cons rfl (Sub.cons rfl (Sub.cons rfl (Sub.cons rfl (Sub.cons rfl (Sub.cons rfl (Sub.cons (congrArg (fun z => some (Value.int IntKind.i64 z)) (by omega)) Sub.nil))))))) (List.Perm.refl _)
     ·skip
      try simp only [hasB, isSizeB, Bool.not_eq_true', Bool.not_eq_false', bne_iff_ne, ne_eq, bne_eq_false_iff_eq, beq_iff_eq, beq_eq_false_iff_ne, decide_eq_true_eq, decide_eq_false_iff_not, gt_iff_lt, ge_iff_le] at h50
      refine At.exitC ?_
      refine At.thenX ?_
      refine At.thenX ?_
      refine At.blkX ?_
      refine At.thenN ?_
      refine tR ?_
      refine tM rfl rfl ?_
      refine At.val (Val.loadAll (i := 4) Tryd.isAgg45 Tryd.sizeOf45 rfl rfl rfl) rfl rfl rfl ?_
      refine At.callNT (g := (fun v => .tuple #[v, .int .i64 0])) (fun w hw => (by have h0 := restore_n _ _ (wbytes vs1) P I' C' (4 + I' / 8) L w (ht.mod hw.mod) (row_rd (hw.row (i := 6) rfl) (by decide)) (row_rd (hw.row (i := 3) rfl) (by decide)) (by rw [wbytes_length]; omega) (by first | omega | (simp only [List.length_take, List.length_drop]; omega) | (have h9 := growS_le L; omega)); rw [restL_yes ((hR1 L).trans (if_pos rfl)), (hR1 L).trans (if_pos rfl)] at h0; exact h0)) Tryd.call14 rfl rfl (fun v51 => ?_)
      refine tM rfl rfl ?_
      refine At.val (Val.extract rfl rfl) rfl rfl rfl ?_
      refine At.val (Val.extract rfl rfl) rfl rfl rfl ?_
      refine tA rfl rfl ?_
      refine tA rfl rfl ?_
      refine tE ?_
      refine tR ?_
      refine tM rfl rfl ?_
      refine At.val (Val.bin rfl rfl rfl) rfl rfl rfl ?_
      refine tM rfl rfl ?_
      refine At.yes rfl rfl ?_
      refine tM rfl rfl ?_
      refine At.yes rfl rfl ?_
      refine tM rfl rfl ?_
      refine At.yes rfl rfl ?_
      refine At.callP (fun w hw => (by have h0 := sameSpL_p _ _ L L w (row_rd (hw.row (i := 0) rfl) (by decide)) (row_rd (hw.row (i := 9) rfl) (by decide)) (by first | omega | (simp only [List.length_take, List.length_drop]; omega) | (have h9 := growS_le L; omega)) (by first | omega | (simp only [List.length_take, List.length_drop]; omega) | (have h9 := growS_le L; omega)); rwa [decide_eq_true rfl] at h0)) Tryd.call16 rfl rfl ?_
      refine At.val (Val.pickT rfl rfl) rfl rfl rfl ?_
      refine tM rfl rfl ?_
      refine At.yes rfl rfl ?_
      refine At.val (Val.loadAll (i := 11) Tryd.isAgg26 Tryd.sizeOf26 rfl rfl rfl) rfl rfl rfl ?_
      refine At.yes rfl rfl ?_
      refine At.callP (fun w hw => lentIn_p pg ino co lf vM vW vL MS WS cs w (ht.mod hw.mod) (hvM.mod hw.mod) hmM (hvW.mod hw.mod) hmW (hvL.mod hw.mod) hmL hlf) Tryd.call19 rfl rfl ?_
      refine At.val (Val.pickT rfl rfl) rfl rfl rfl ?_
      refine tA rfl rfl ?_
      refine tE ?_
      refine At.retC ?_
      refine At.ret1 (.inl rfl) rfl rfl rfl (fun w hw => ?_)
      exact ⟨rfl, hw.mod⟩
end Go.Proofs.YtpihenmdkoojdaaDoor
set_option linter.unusedVariables false
set_option linter.unusedSimpArgs false
namespace Go.Wk
open Go Go.ChangeShapes Go.WideShapes Go.ChangeAt Go.RowKit
section
variable {H : Type} {enc : TypeId × Value → H} {P : Program} {W : World} {r : Reach} {base b0 : Nat} {sp : Nat → Bool} {held : Bool}
theorem each_of {p : Nat → Bool} : ∀ {ts : List TypeId} {ds : List (DataW H)} {i : Nat} {t : TypeId} {d : DataW H}, (DataW.weightsEach P ts ds).all p = true → ts[i]? = some t → ds[i]? = some d → (DataW.weights P t d).all p = true
  | t' :: ts, d' :: ds, 0, t, d, h, ht, hd => by
    simp only [DataW.weightsEach, List.all_append, Bool.and_eq_true] at h
    have e1 : t' = t := by simpa using ht
    have e2 : d' = d := by simpa using hd
    subst e1 e2; exact h.1
  | t' :: ts, d' :: ds, i + 1, t, d, h, ht, hd => by
    simp only [DataW.weightsEach, List.all_append, Bool.and_eq_true] at h
    exact each_of h.2 (by simpa using ht) (by simpa using hd)
  | [], ds, i, t, d, h, ht, hd => by simp at ht
  | t' :: ts, [], i, t, d, h, ht, hd => by simp at hd
/-- What a field's one cell is. -/
structure Fld (enc : TypeId × Value → H) (P : Program) (W : World) (r : Reach) (base b0 : Nat) (sp : Nat → Bool) (held : Bool) (t : TypeId) (c : Value) : Prop where
  ok : Cell.okWide P W r base t c
  read : ∃ fuel x, DataW.trod enc P W b0 sp held fuel t [c] = some x ∧ (DataW.weights P t x.1).all (· ≤ reachBytes) = true
theorem Fld.int {t : TypeId} {c : Value} (u : P.underlying t = some (.int .i64)) (h : Fld enc P W r base b0 sp held t c) : ∃ n, c = .int .i64 n ∧ Fits n := by
  obtain ⟨fuel, x, hf, _⟩ := h.read
  obtain ⟨n, g, _, w⟩ := DataW.trod_int u hf
  exact ⟨n, by simpa using g, has64 (by simpa [Lit.wf, IntKind.has] using w)⟩
theorem Fld.word {t : TypeId} {c : Value} (u : P.underlying t = some (.int .u64)) (h : Fld enc P W r base b0 sp held t c) : ∃ x, c = b64 x := by
  obtain ⟨fuel, x, hf, _⟩ := h.read
  obtain ⟨n, g, _, w⟩ := DataW.trod_int u hf
  obtain ⟨x, rfl⟩ := hasU64 (n := n) (by simpa [Lit.wf, IntKind.has] using w)
  exact ⟨x, by simpa using g⟩
theorem Fld.ints {t e : TypeId} {c : Value} (hu : P.underlying t = some (.slice e)) (he : P.underlying e = some (.int .i64)) (hc : P.cellsOf e = 1) (hby : P.bytesOf e = 8)
    (h : Fld enc P W r base b0 sp held t c) : ∃ L : List Int, RdI W c L ∧ L.length ≤ 17592186044416 ∧ ∀ z ∈ L, Fits z := by
  obtain ⟨fuel, x, hf, hw⟩ := h.read
  exact ints_of hu he hc hby (cell_slice hu h.ok) hf hw
theorem words_of {t e : TypeId} {v : Value} {fuel : Nat} {x : DataW H × List MemPlace} (hu : P.underlying t = some (.slice e)) (he : P.underlying e = some (.int .u64)) (hc : P.cellsOf e = 1) (hby : P.bytesOf e = 8)
    (hok : v = .slice none 0 0 ∨ ∃ b o n c, v = .slice (some ⟨b, o, none⟩) n c ∧ n ≤ c) (hf : DataW.trod enc P W b0 sp held fuel t [v] = some x) (hw : (DataW.weights P t x.1).all (· ≤ reachBytes) = true) :
    ∃ L : List (BitVec 64), RdW W v L ∧ L.length ≤ 17592186044416 := by
  rcases hok with rfl | ⟨b, o, n, c, rfl, hnc⟩
  · exact ⟨[], Rd.nil W 1, by simp⟩
  · rcases open_ints hu he hc hf with ⟨h0, _⟩ | ⟨a, len, cap, zs, h0, _, hl, _, hz, hx, hcell, hwf⟩
    · simp at h0
    · simp only [List.cons.injEq, Value.slice.injEq, Option.some.injEq, and_true] at h0
      obtain ⟨rfl, rfl, rfl⟩ := h0
      have hlen : n ≤ zs.length := by rw [hz]; split <;> omega
      have hln : (zs.take n).length = n := by rw [List.length_take]; omega
      have hxe : x.1 = _ := congrArg Prod.fst hx
      have hdw : zs.length * 8 ≤ reachBytes := by
        have hall := List.all_eq_true.1 hw
        rw [hxe] at hall
        unfold DataW.weights at hall
        rw [hu] at hall
        have := hall _ (List.mem_cons_self ..)
        simp only [decide_eq_true_eq, hby, lits, List.length_map] at this
        rw [← List.length_append, List.take_append_drop] at this
        exact this
      refine ⟨(zs.take n).map (BitVec.ofInt 64), ⟨some ⟨b, o, none⟩, c, by rw [List.length_map, hln], fun j u hj => ?_, by rw [List.length_map, Nat.mul_one], by rw [List.length_map, hln]; exact hnc, (fun h => by cases h), (fun _ a ha => by cases ha; rfl)⟩, ?_⟩
      · rw [List.getElem?_map, List.getElem?_map, List.getElem?_take] at hj
        split at hj
        · rename_i hlt
          refine ⟨b, o, rfl, ?_⟩
          have h1 := hcell j (by omega)
          rw [Addr.add_off] at h1
          rw [h1]
          have hjl : j < zs.length := by omega
          rw [List.getElem?_eq_getElem hjl] at hj
          have hg : zs.getD j 0 = zs[j] := by simp [List.getD, hjl]
          rw [hg]
          obtain ⟨q, hq⟩ := hasU64 (n := zs[j]) (by simpa [Lit.wf, IntKind.has] using hwf _ (List.getElem_mem hjl))
          rw [← hj, hq]; simp
        · cases hj
      · rw [List.length_map, hln]; unfold reachBytes at hdw; omega
theorem Fld.words {t e : TypeId} {c : Value} (hu : P.underlying t = some (.slice e)) (he : P.underlying e = some (.int .u64)) (hc : P.cellsOf e = 1) (hby : P.bytesOf e = 8)
    (h : Fld enc P W r base b0 sp held t c) : ∃ L : List (BitVec 64), RdW W c L ∧ L.length ≤ 17592186044416 := by
  obtain ⟨fuel, x, hf, hw⟩ := h.read
  exact words_of hu he hc hby (cell_slice hu h.ok) hf hw
theorem Fld.bytes {t e : TypeId} {c : Value} (hu : P.underlying t = some (.slice e)) (he : P.underlying e = some (.int .u8)) (hc : P.cellsOf e = 1) (hby : P.bytesOf e = 1)
    (h : Fld enc P W r base b0 sp held t c) : ∃ L : List UInt8, RdB W c L ∧ L.length ≤ 140737488351232 := by
  obtain ⟨fuel, x, hf, hw⟩ := h.read
  have hok := cell_slice hu h.ok
  have hv : c.cells.toList = [c] := by rcases hok with rfl | ⟨_, _, _, _, rfl, _⟩ <;> rfl
  obtain ⟨A, cc, l, rfl, hb, hcc, hm, hz, hp⟩ := arg_byteslice (r := r) (base := base) hu he hc hby (by unfold Value.okWide; rw [hu]; exact h.ok) (⟨fuel, by rw [hv]; exact hf⟩ : DataW.Trod enc P W b0 sp held t c x.1 x.2) hw
  exact ⟨l, Bytes.rd hb hcc hz hp, hm⟩
end
end Go.Wk
set_option linter.unusedVariables false
set_option linter.unusedSimpArgs false
namespace Go.Proofs.YtpihenmdkoojdaaDoor
open Go Go.Wk
open Go.ChangeShapes Go.WideShapes Go.ChangeAt Go.RowKit
section
variable {H : Type} {enc : TypeId × Value → H} {P : Program} {W : World} {r : Reach} {base b0 : Nat} {held : Bool}
theorem all_of {p : Nat → Bool} {e : TypeId} : ∀ {ds : List (DataW H)} {i : Nat} {d : DataW H}, (DataW.weightsAll P e ds).all p = true → ds[i]? = some d → (DataW.weights P e d).all p = true
  | d' :: ds, 0, d, h, hd => by
    simp only [DataW.weightsAll, List.all_append, Bool.and_eq_true] at h
    obtain rfl : d' = d := by simpa using hd
    exact h.1
  | d' :: ds, i + 1, d, h, hd => by
    simp only [DataW.weightsAll, List.all_append, Bool.and_eq_true] at h
    exact all_of h.2 (by simpa using hd)
  | [], i, d, h, hd => by simp at hd
/-- What a cell reads as, wherever it stands. -/
def Fl (enc : TypeId × Value → H) (P : Program) (W : World) (b0 : Nat) (held : Bool) (t : TypeId) (c : Value) : Prop :=
  ∃ fuel x, DataW.trod enc P W b0 (fun _ => true) held fuel t [c] = some x ∧ (DataW.weights P t x.1).all (· ≤ reachBytes) = true
theorem Fl.int {t : TypeId} {c : Value} (u : P.underlying t = some (.int .i64)) (h : Fl enc P W b0 held t c) : ∃ n, c = .int .i64 n ∧ Fits n := by
  obtain ⟨fuel, x, hf, _⟩ := h
  obtain ⟨n, g, _, w⟩ := DataW.trod_int u hf
  exact ⟨n, by simpa using g, has64 (by simpa [Lit.wf, IntKind.has] using w)⟩
theorem Fl.word {t : TypeId} {c : Value} (u : P.underlying t = some (.int .u64)) (h : Fl enc P W b0 held t c) : ∃ x, c = b64 x := by
  obtain ⟨fuel, x, hf, _⟩ := h
  obtain ⟨n, g, _, w⟩ := DataW.trod_int u hf
  obtain ⟨x, rfl⟩ := hasU64 (n := n) (by simpa [Lit.wf, IntKind.has] using w)
  exact ⟨x, by simpa using g⟩
theorem Fl.nums {t e : TypeId} {k : IntKind} {c : Value} (hu : P.underlying t = some (.slice e)) (he : P.underlying e = some (.int k)) (hc : P.cellsOf e = 1) (h : Fl enc P W b0 held t c) :
    ∃ zs : List Int, Rd W c 1 zs.length (zs.map (Value.int k)) ∧ zs.length * P.bytesOf e ≤ reachBytes ∧ ∀ z ∈ zs, (Lit.int k z).wf = true := by
  obtain ⟨fuel, x, hf, hw⟩ := h
  rcases open_ints hu he hc hf with ⟨h0, _⟩ | ⟨a, len, cap, zs, h0, _, hl, _, hz, hx, hcell, hwf⟩
  · obtain rfl : c = .slice none 0 0 := by simpa using h0
    exact ⟨[], Rd.nil W 1, by simp, by simp⟩
  · obtain rfl : c = .slice (some a) len cap := by simpa using h0
    simp only [if_true] at hz
    have hxe : x.1 = _ := congrArg Prod.fst hx
    have hdw : zs.length * P.bytesOf e ≤ reachBytes := by
      have hall := List.all_eq_true.1 hw
      rw [hxe] at hall
      unfold DataW.weights at hall
      rw [hu] at hall
      have := hall _ (List.mem_cons_self ..)
      simp only [decide_eq_true_eq, lits, List.length_map] at this
      rw [← List.length_append, List.take_append_drop] at this
      exact this
    have hln : (zs.take len).length = len := by rw [List.length_take]; omega
    have hsp : ∀ j, j < zs.length → a.spot = none := fun j hj => by
      have := World.cell?_spot (hcell 0 (by omega))
      simpa [Addr.add] using this
    refine ⟨zs.take len, ⟨some a, cap, by rw [hln], fun j u hj => ?_, by rw [List.length_map, Nat.mul_one], by omega, (fun h => by cases h), (fun hc0 a' ha => by cases ha; exact hsp 0 (by omega))⟩, Nat.le_trans (Nat.mul_le_mul_right _ (by omega)) hdw, fun z hm => hwf z (List.mem_of_mem_take hm)⟩
    rw [List.getElem?_map, List.getElem?_take] at hj
    split at hj
    · rename_i hlt
      have hjl : j < zs.length := by omega
      have hs := hsp j hjl
      obtain ⟨b, o, s⟩ := a
      have hs' : s = none := hs
      subst hs'
      refine ⟨b, o, rfl, ?_⟩
      have h1 := hcell j hjl
      rw [Addr.add_off] at h1
      rw [h1, ← hj, List.getElem?_eq_getElem hjl]
      simp [List.getD, hjl]
    · cases hj
theorem Fl.ints {t e : TypeId} {c : Value} (hu : P.underlying t = some (.slice e)) (he : P.underlying e = some (.int .i64)) (hc : P.cellsOf e = 1) (hby : P.bytesOf e = 8) (h : Fl enc P W b0 held t c) :
    ∃ L : List Int, RdI W c L ∧ L.length ≤ 17592186044416 := by
  obtain ⟨zs, h1, h2, _⟩ := Fl.nums hu he hc h
  rw [hby] at h2
  unfold reachBytes at h2
  exact ⟨zs, h1, by omega⟩
theorem Fl.bytes {t e : TypeId} {c : Value} (hu : P.underlying t = some (.slice e)) (he : P.underlying e = some (.int .u8)) (hc : P.cellsOf e = 1) (hby : P.bytesOf e = 1) (h : Fl enc P W b0 held t c) :
    ∃ L : List UInt8, RdB W c L ∧ L.length ≤ 140737488355328 := by
  obtain ⟨zs, h1, h2, h3⟩ := Fl.nums hu he hc h
  rw [hby] at h2
  unfold reachBytes at h2
  have he : zs.map (Value.int .u8) = (zs.map (fun z => UInt8.ofNat z.toNat)).map bv := by
    rw [List.map_map]
    refine List.map_congr_left fun z hz => ?_
    obtain ⟨q, rfl⟩ := hasU8 (n := z) (by simpa [Lit.wf, IntKind.has] using h3 z hz)
    simp [bv]
  refine ⟨zs.map (fun z => UInt8.ofNat z.toNat), ?_, by rw [List.length_map]; omega⟩
  unfold RdB
  rw [List.length_map, ← he]
  exact h1
/-- What a list of elements holds, element by element. -/
theorem elems_of {t e : TypeId} {v : Value} {fuel n : Nat} {x : DataW H × List MemPlace} (hu : P.underlying t = some (.slice e)) (hc : P.cellsOf e = n)
    (hf : DataW.trod enc P W b0 (fun _ => true) held fuel t [v] = some x) (hw : (DataW.weights P t x.1).all (· ≤ reachBytes) = true) :
    v = .slice none 0 0 ∨ ∃ a len cap, v = .slice (some a) len cap ∧ len ≤ cap ∧ len * P.bytesOf e ≤ reachBytes ∧ ∀ i, i < len → ∃ cs fuel y, cs.length = n ∧ (∀ j, j < n → W.cell? ((a.add (i * n)).add j) = cs[j]?) ∧ DataW.trod enc P W b0 (fun _ => true) held fuel e cs = some y ∧ (DataW.weights P e y.1).all (· ≤ reachBytes) = true := by
  rcases DataW.trod_slice hu hf with ⟨h0, _⟩ | ⟨a, len, cap, elems, rest, m, _, h0, rfl, hb, hl, hm, hlen, hel, hsp, hns⟩
  · left; simpa using h0
  · right
    refine ⟨a, len, cap, by simpa using h0, hl, ?_, fun i hi => ?_⟩
    · have hall := List.all_eq_true.1 hw
      unfold DataW.weights at hall
      rw [hu] at hall
      have := hall _ (List.mem_cons_self ..)
      simp only [decide_eq_true_eq, List.length_map, hlen] at this
      exact Nat.le_trans (Nat.mul_le_mul_right _ (Nat.le_add_right _ _)) this
    · have h1 := hel i hi
      rw [hc, List.getElem?_eq_getElem (by omega), Option.bind_eq_some_iff] at h1
      obtain ⟨cs, h2, h3⟩ := h1
      have h4 := World.cells?_some h2
      refine ⟨cs, m, _, h4.2.1, h4.2.2, h3, ?_⟩
      · unfold DataW.weights at hw
        rw [hu] at hw
        simp only [List.all_cons, List.all_append, Bool.and_eq_true] at hw
        exact all_of (i := i) hw.2.1 (by rw [List.getElem?_map, List.getElem?_eq_getElem (show i < elems.length by omega)]; rfl)
end
section
variable {H : Type} {enc : TypeId × Value → H} {P : Program} {W : World} {base b0 : Nat} {held : Bool}
/-- What cells in a row read as. -/
def FlL (enc : TypeId × Value → H) (P : Program) (W : World) (b0 : Nat) (held : Bool) (t : TypeId) (cs : List Value) : Prop :=
  ∃ fuel x, DataW.trod enc P W b0 (fun _ => true) held fuel t cs = some x ∧ (DataW.weights P t x.1).all (· ≤ reachBytes) = true
theorem flL_field {t u : TypeId} {fs : Array Field} {cs : List Value} {i o n : Nat} {f : Field} (ht : P.underlying t = some (.struct fs)) (h : FlL enc P W b0 held t cs) (hfi : fs[i]? = some f) (ho : f.offset = o) (hu : f.type = u) (hn : P.cellsOf u = n) : FlL enc P W b0 held u ((cs.drop o).take n) := by
  obtain ⟨fuel, x, hf, hw⟩ := h
  obtain ⟨xs, m, rfl, hx, _, hsz, hfl⟩ := DataW.trod_struct ht hf
  have h1 := hfl i f hfi
  rw [ho, hu, hn] at h1
  have hil : i < fs.size := (Array.getElem?_eq_some_iff.1 hfi).1
  have hxl : i < xs.length := by rw [hsz]; exact hil
  rw [List.getElem?_eq_getElem hxl] at h1
  refine ⟨m, _, h1, ?_⟩
  have hxe : x.1 = _ := congrArg Prod.fst hx
  rw [hxe] at hw
  unfold DataW.weights at hw
  rw [ht] at hw
  refine each_of hw (i := i) ?_ (by rw [List.getElem?_map, List.getElem?_eq_getElem hxl]; rfl)
  rw [List.getElem?_map, Array.getElem?_toList, hfi]
  exact congrArg some hu
theorem slice_spot {t e : TypeId} {fuel n len cap : Nat} {a : Addr} {x : DataW H × List MemPlace} (hu : P.underlying t = some (.slice e)) (hc : P.cellsOf e = n) (hn : 0 < n) (hf : DataW.trod enc P W b0 (fun _ => true) held fuel t [.slice (some a) len cap] = some x) (h0 : 0 < cap) : a.spot = none := by
  rcases DataW.trod_slice hu hf with ⟨h, _⟩ | ⟨a', len', cap', elems, rest, m, _, h1, rfl, hb, hl, hm, hlen, hel, hsp, hns⟩
  · simp at h
  · simp only [List.cons.injEq, Value.slice.injEq, Option.some.injEq, and_true] at h1
    obtain ⟨rfl, rfl, rfl⟩ := h1
    have key : ∀ y, (W.cells? b0 (a.add (0 * P.cellsOf e)) (P.cellsOf e)).bind (DataW.trod enc P W b0 (fun _ => true) held m e) = some y → a.spot = none := fun y hy => by
      rw [hc, Option.bind_eq_some_iff] at hy
      obtain ⟨cs, h2, _⟩ := hy
      have h4 := World.cells?_some h2
      have h5 := h4.2.2 0 hn
      rw [List.getElem?_eq_getElem (by rw [h4.2.1]; exact hn)] at h5
      have := World.cell?_spot h5
      simpa [Addr.add] using this
    rcases Nat.eq_zero_or_pos len with h | h
    · obtain ⟨g1, g2⟩ := hsp rfl
      have g3 := g2 0 (by omega)
      obtain ⟨y, hy⟩ : ∃ y, rest[0]? = some y := ⟨_, List.getElem?_eq_getElem (by omega)⟩
      rw [hy, h, Nat.zero_add] at g3
      exact key _ g3
    · have g3 := hel 0 h
      rw [List.getElem?_eq_getElem (by omega)] at g3
      exact key _ g3
theorem Fl.spans {t e ti : TypeId} {fs : Array Field} {f0 f1 : Field} {c : Value} (hu : P.underlying t = some (.slice e)) (he : P.underlying e = some (.struct fs)) (hc : P.cellsOf e = 2) (hby : P.bytesOf e = 16)
    (hf0 : fs[0]? = some f0) (hf1 : fs[1]? = some f1) (o0 : f0.offset = 0) (o1 : f1.offset = 1) (t0 : f0.type = ti) (t1 : f1.type = ti) (ui : P.underlying ti = some (.int .i64)) (ci : P.cellsOf ti = 1) (h : Fl enc P W b0 held t c) :
    ∃ L : List (Int × Int), RdS W c L ∧ L.length ≤ 8796093022144 := by
  obtain ⟨fuel, x, hf, hw⟩ := h
  rcases elems_of (n := 2) hu hc hf hw with rfl | ⟨a, len, cap, rfl, hlc, hb, hel⟩
  · exact ⟨[], Rd.nil W 2, by simp⟩
  · rw [hby] at hb
    unfold reachBytes at hb
    obtain ⟨L, hLl, hL⟩ := choose_list' (Q := fun j (z : Int × Int) => W.cell? ((a.add (j * 2)).add 0) = some (.int .i64 z.1) ∧ W.cell? ((a.add (j * 2)).add 1) = some (.int .i64 z.2)) len (fun j hj => by
      obtain ⟨cs, fu, y, h1, h2, h3, h4⟩ := hel j hj
      obtain ⟨c0, c1, rfl⟩ : ∃ c0 c1, cs = [c0, c1] := by match cs, h1 with | [c0, c1], _ => exact ⟨c0, c1, rfl⟩
      obtain ⟨n0, rfl, _⟩ := Fl.int ui (flL_field he ⟨fu, y, h3, h4⟩ hf0 o0 t0 ci)
      obtain ⟨n1, rfl, _⟩ := Fl.int ui (flL_field he ⟨fu, y, h3, h4⟩ hf1 o1 t1 ci)
      exact ⟨(n0, n1), h2 0 (by decide), h2 1 (by decide)⟩)
    subst hLl
    have hsp : 0 < cap → a.spot = none := slice_spot hu hc (by decide) hf
    refine ⟨L, ⟨some a, cap, rfl, fun j u hj => ?_, prS_length L, hlc, (fun h => by cases h), (fun hc0 a' ha => by cases ha; exact hsp hc0)⟩, by omega⟩
    have hjl : j < L.length * 2 := by rw [← prS_length L]; exact (List.getElem?_eq_some_iff.1 hj).1
    have hq : L[j / 2]? = some (L[j / 2]'(by omega)) := List.getElem?_eq_getElem _
    have hz := hL (j / 2) _ hq
    have hp := prS_at hq
    have hs := hsp (by omega)
    obtain ⟨b, o, s⟩ := a
    have hs' : s = none := hs
    subst hs'
    refine ⟨b, o, rfl, ?_⟩
    rcases Nat.mod_two_eq_zero_or_one j with hm | hm
    · have e : j / 2 * 2 = j := by omega
      rw [e] at hp hz
      rw [hj] at hp
      rw [Option.some.inj hp.1]
      have := hz.1
      rwa [Addr.add_off, Addr.add_off, Nat.add_zero] at this
    · have e : j / 2 * 2 + 1 = j := by omega
      rw [e] at hp
      rw [hj] at hp
      rw [Option.some.inj hp.2]
      have := hz.2
      rwa [Addr.add_off, Addr.add_off, Nat.add_assoc, e] at this
end
section
variable {H : Type} {enc : TypeId × Value → H} {P : Program} {W : World} {base b0 : Nat} {held : Bool}
theorem Fl.bools {t e : TypeId} {c : Value} (hu : P.underlying t = some (.slice e)) (he : P.underlying e = some .bool) (hc : P.cellsOf e = 1) (hby : P.bytesOf e = 1) (h : Fl enc P W b0 held t c) :
    ∃ L : List Bool, Rd W c 1 L.length (L.map Value.bool) ∧ L.length ≤ 140737488355328 := by
  obtain ⟨fuel, x, hf, hw⟩ := h
  rcases elems_of (n := 1) hu hc hf hw with rfl | ⟨a, len, cap, rfl, hlc, hb, hel⟩
  · exact ⟨[], Rd.nil W 1, by simp⟩
  · rw [hby] at hb
    unfold reachBytes at hb
    obtain ⟨L, hLl, hL⟩ := choose_list' (Q := fun j (z : Bool) => W.cell? ((a.add (j * 1)).add 0) = some (.bool z)) len (fun j hj => by
      obtain ⟨cs, fu, y, h1, h2, h3, h4⟩ := hel j hj
      obtain ⟨c0, rfl⟩ : ∃ c0, cs = [c0] := by match cs, h1 with | [c0], _ => exact ⟨c0, rfl⟩
      obtain ⟨b, g, _⟩ := DataW.trod_bool he h3
      obtain rfl : c0 = .bool b := by simpa using g
      exact ⟨b, h2 0 (by decide)⟩)
    subst hLl
    have hsp : 0 < cap → a.spot = none := slice_spot hu hc (by decide) hf
    refine ⟨L, ⟨some a, cap, rfl, fun j u hj => ?_, by rw [List.length_map, Nat.mul_one], hlc, (fun h => by cases h), (fun hc0 a' ha => by cases ha; exact hsp hc0)⟩, by omega⟩
    have hjl : j < L.length := by have := (List.getElem?_eq_some_iff.1 hj).1; rwa [List.length_map] at this
    have hq : L[j]? = some (L[j]'hjl) := List.getElem?_eq_getElem _
    have hz := hL j _ hq
    rw [List.getElem?_map, hq] at hj
    obtain rfl := Option.some.inj hj
    have hs := hsp (by omega)
    obtain ⟨b, o, s⟩ := a
    have hs' : s = none := hs
    subst hs'
    refine ⟨b, o, rfl, ?_⟩
    rwa [Addr.add_off, Addr.add_off, Nat.add_zero, Nat.mul_one] at hz
theorem Fl.pairs {t e ti tu : TypeId} {fs : Array Field} {f0 f1 : Field} {c : Value} (hu : P.underlying t = some (.slice e)) (he : P.underlying e = some (.struct fs)) (hc : P.cellsOf e = 2) (hby : P.bytesOf e = 16)
    (hf0 : fs[0]? = some f0) (hf1 : fs[1]? = some f1) (o0 : f0.offset = 0) (o1 : f1.offset = 1) (t0 : f0.type = ti) (t1 : f1.type = tu) (ui : P.underlying ti = some (.int .i64)) (uu : P.underlying tu = some (.int .u64)) (ci : P.cellsOf ti = 1) (cu : P.cellsOf tu = 1) (h : Fl enc P W b0 held t c) :
    ∃ L : List (Int × BitVec 64), RdP W c L ∧ L.length ≤ 8796093022208 := by
  obtain ⟨fuel, x, hf, hw⟩ := h
  rcases elems_of (n := 2) hu hc hf hw with rfl | ⟨a, len, cap, rfl, hlc, hb, hel⟩
  · exact ⟨[], Rd.nil W 2, by simp⟩
  · rw [hby] at hb
    unfold reachBytes at hb
    obtain ⟨L, hLl, hL⟩ := choose_list' (Q := fun j (z : Int × BitVec 64) => W.cell? ((a.add (j * 2)).add 0) = some (.int .i64 z.1) ∧ W.cell? ((a.add (j * 2)).add 1) = some (b64 z.2)) len (fun j hj => by
      obtain ⟨cs, fu, y, h1, h2, h3, h4⟩ := hel j hj
      obtain ⟨c0, c1, rfl⟩ : ∃ c0 c1, cs = [c0, c1] := by match cs, h1 with | [c0, c1], _ => exact ⟨c0, c1, rfl⟩
      obtain ⟨n0, rfl, _⟩ := Fl.int ui (flL_field he ⟨fu, y, h3, h4⟩ hf0 o0 t0 ci)
      obtain ⟨n1, rfl⟩ := Fl.word uu (flL_field he ⟨fu, y, h3, h4⟩ hf1 o1 t1 cu)
      exact ⟨(n0, n1), h2 0 (by decide), h2 1 (by decide)⟩)
    subst hLl
    have hsp : 0 < cap → a.spot = none := slice_spot hu hc (by decide) hf
    refine ⟨L, ⟨some a, cap, rfl, fun j u hj => ?_, prC_length L, hlc, (fun h => by cases h), (fun hc0 a' ha => by cases ha; exact hsp hc0)⟩, by omega⟩
    have hjl : j < L.length * 2 := by rw [← prC_length L]; exact (List.getElem?_eq_some_iff.1 hj).1
    have hq : L[j / 2]? = some (L[j / 2]'(by omega)) := List.getElem?_eq_getElem _
    have hz := hL (j / 2) _ hq
    have hp := prC_at hq
    have hs := hsp (by omega)
    obtain ⟨b, o, s⟩ := a
    have hs' : s = none := hs
    subst hs'
    refine ⟨b, o, rfl, ?_⟩
    rcases Nat.mod_two_eq_zero_or_one j with hm | hm
    · have e : j / 2 * 2 = j := by omega
      rw [e] at hp hz
      rw [hj] at hp
      rw [Option.some.inj hp.1]
      have := hz.1
      rwa [Addr.add_off, Addr.add_off, Nat.add_zero] at this
    · have e : j / 2 * 2 + 1 = j := by omega
      rw [e] at hp
      rw [hj] at hp
      rw [Option.some.inj hp.2]
      have := hz.2
      rwa [Addr.add_off, Addr.add_off, Nat.add_assoc, e] at this
end
section
variable {H : Type} {enc : TypeId × Value → H} {W : World} {base b0 : Nat} {held : Bool}
set_option maxRecDepth 100000 in
theorem arg_case {r : Reach} {v : Value} {d : DataW H} {ps : List MemPlace} (h : Value.okWide Tryd.prog W r base 26 v) (hd : DataW.Trod enc Tryd.prog W b0 (fun _ => true) held 26 v d ps) (hw : (DataW.weights Tryd.prog 26 d).all (· ≤ reachBytes) = true) :
    ∃ (pg ino co lf : Int) (vM vW vL : Value) (MS : List Bool) (WS : List (Int × BitVec 64)) (cs : List Int), v = .agg #[.int .i64 pg, .int .i64 ino, .int .i64 co, vM, vW, .int .i64 lf, vL] ∧ Rd W vM 1 MS.length (MS.map Value.bool) ∧ MS.length ≤ 140737488355328 ∧ RdP W vW WS ∧ WS.length ≤ 8796093022208 ∧ RdI W vL cs ∧ cs.length ≤ 17592186044416 ∧ (-9223372036854775808 ≤ lf ∧ lf ≤ 9223372036854775807) := by
  obtain ⟨fuel, hf⟩ := hd
  have U := Tryd.underlying26
  obtain ⟨cs, rfl, hl, _⟩ := arg_struct U h
  rw [show Tryd.prog.cellsOf 26 = 7 by kernel_rfl] at hl
  have hcs : (Value.agg cs.toArray).cells.toList = cs := by simp [Value.cells]
  rw [hcs] at hf
  obtain ⟨c0, c1, c2, c3, c4, c5, c6, rfl⟩ : ∃ c0 c1 c2 c3 c4 c5 c6, cs = [c0, c1, c2, c3, c4, c5, c6] := by
    match cs, hl with
    | [c0, c1, c2, c3, c4, c5, c6], _ => exact ⟨c0, c1, c2, c3, c4, c5, c6, rfl⟩
  have hr : FlL enc Tryd.prog W b0 held 26 [c0, c1, c2, c3, c4, c5, c6] := ⟨fuel, _, hf, hw⟩
  obtain ⟨pg, rfl, _⟩ := Fl.int Tryd.underlying3 (flL_field (i := 0) (o := 0) (n := 1) (u := 3) U hr rfl rfl rfl (by kernel_rfl))
  obtain ⟨ino, rfl, _⟩ := Fl.int Tryd.underlying3 (flL_field (i := 1) (o := 1) (n := 1) (u := 3) U hr rfl rfl rfl (by kernel_rfl))
  obtain ⟨co, rfl, _⟩ := Fl.int Tryd.underlying3 (flL_field (i := 2) (o := 2) (n := 1) (u := 3) U hr rfl rfl rfl (by kernel_rfl))
  obtain ⟨lM, hM, hMl⟩ := Fl.bools Tryd.underlying22 Tryd.underlying4 (by kernel_rfl) (by kernel_rfl) (flL_field (i := 3) (o := 3) (n := 1) (u := 22) U hr rfl rfl rfl (by kernel_rfl))
  obtain ⟨lW, hW, hWl⟩ := Fl.pairs (ti := 3) (tu := 65) Tryd.underlying23 Tryd.underlying67 (by kernel_rfl) (by kernel_rfl) rfl rfl rfl rfl rfl rfl Tryd.underlying3 Tryd.underlying65 (by kernel_rfl) (by kernel_rfl) (flL_field (i := 4) (o := 4) (n := 1) (u := 23) U hr rfl rfl rfl (by kernel_rfl))
  obtain ⟨lf, rfl, hlf⟩ := Fl.int Tryd.underlying3 (flL_field (i := 5) (o := 5) (n := 1) (u := 3) U hr rfl rfl rfl (by kernel_rfl))
  obtain ⟨lI, hI, hIl⟩ := Fl.ints Tryd.underlying24 Tryd.underlying3 (by kernel_rfl) (by kernel_rfl) (flL_field (i := 6) (o := 6) (n := 1) (u := 24) U hr rfl rfl rfl (by kernel_rfl))
  exact ⟨pg, ino, co, lf, c3, c4, c6, lM, lW, lI, rfl, hM, hMl, hW, hWl, hI, hIl, hlf⟩
end
end Go.Proofs.YtpihenmdkoojdaaDoor
