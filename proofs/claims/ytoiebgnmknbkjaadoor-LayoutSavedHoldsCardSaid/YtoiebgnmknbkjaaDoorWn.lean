/- The calculus: more copies into rows. -/
import Derived.Test.YtoiebgnmknbkjaaDoorW9
import Derived.Test.YtoiebgnmknbkjaaDoorWv
set_option linter.unusedVariables false
set_option linter.unusedSimpArgs false
namespace Go.Wk
open Go
section
variable {P : Program} {Γ : Ctx} {E E' : Env} {H : List Res} {ops : Array Oper} {Q : Exit → Act → World → Prop} {rest : List Oper}
  {d : Nat} {ty : TypeId} {pos : String} {after : Array Edge} {x y : Operand} {v u : Value}
theorem At.copyStrRow {i dT sT e e' N C m c o b : Nat} {s : ByteArray} {l : List UInt8} (ht : P.underlying dT = some (.slice e)) (hz : ∀ w, (sizeOf e).run P w = .ok 1 w)
    (hx : ev E x = some (.slice (some ⟨b, o, none⟩) m c)) (hy : ev E y = some (.string s)) (hi : H[i]? = some (rowR (.slice (some ⟨b, 0, none⟩) N C) e' 1 N (l.map bv))) (hm : s.size ≤ m) (ho : o + s.size ≤ l.length) (hn : Nat.blt d Γ.n = true)
    (k : At Γ ((d, .int .i64 s.size) :: E) (H.set i (rowR (.slice (some ⟨b, 0, none⟩) N C) e' 1 N ((l.take o ++ s.data.toList ++ l.drop (o + s.data.toList.length)).map bv))) (wpList P ops Q rest)) :
    At Γ E H (wpList P ops Q ({ dst := some d, op := .call { callee := .builtin .copy, args := #[x, y], argTypes := #[dT, sT] }, type := ty, pos, after, guard := none } :: rest)) :=
  At.run rfl rfl hn fun a w ha hw => by
    have hl : (s.data.toList.map bv).length = s.size := by rw [List.length_map]; exact Array.length_toList
    obtain ⟨w', hr, hw'⟩ := storeCells_row (P := P) (s.data.toList.map bv) o 0 (l.map bv) H w hw hi (by rw [hl, List.length_map]; omega) (bv_one _)
    rw [Nat.add_zero, putAt_map] at hw'
    refine ⟨.int .i64 s.size, w', _, ?_, hw', k⟩
    have hmin : Nat.min s.size m = s.size := Nat.min_eq_left hm
    have hr' : (storeCells ⟨b, o, none⟩ (s.data.toList.map bv) 0).run P w = .ok () w' := hr
    have h0 : (Builtin.copy_ #[dT, sT] ty #[.slice (some ⟨b, o, none⟩) m c, .string s]).run P w = .ok (goInt s.size) w' := by
      simp [Builtin.copy_, run_underlying ht, Builtin.lenOf, Builtin.firstCells, hz, hmin]
      rw [List.take_of_length_le (by rw [List.length_map]; exact Nat.le_of_eq Array.length_toList)]
      rw [show (s.data.toList.map fun b : UInt8 => Value.int IntKind.u8 (b.toNat : Int)) = s.data.toList.map bv from rfl, hr']
      rfl
    simp [execOp, resolve, invoke, builtin, ha.eval hx, ha.eval hy, Sem.run_bind, h0, goInt]
theorem At.rowCap {i e sz n c : Nat} {A : Option Addr} {xs : List Value} {φ : Act → World → Prop} (hi : H[i]? = some (rowR (.slice A n c) e sz n xs)) (k : n ≤ c → At Γ E H φ) : At Γ E H φ := fun a w ha hw => by
  rcases (hw.row hi).2 with ⟨_, h⟩ | ⟨b, cap, cur, h, h1⟩
  · exact k (by omega) a w ha hw
  · simp only [Value.slice.injEq] at h
    obtain ⟨_, _, rfl⟩ := h
    exact k (by have := h1; omega) a w ha hw
/-- The first bytes of a row, into a part of a row that holds no more. -/
theorem At.copyCutRow {i j dT sT e e' N C c o b m : Nat} {l s : List UInt8} (ht : P.underlying dT = some (.slice e)) (hz : ∀ w, (sizeOf e).run P w = .ok 1 w)
    (hx : ev E x = some (.slice (some ⟨b, o, none⟩) m c)) (hy : ev E y = some u) (hi : H[i]? = some (rowR (.slice (some ⟨b, 0, none⟩) N C) e' 1 N (l.map bv))) (hj : H[j]? = some (rowR u e' 1 s.length (s.map bv))) (hm : m ≤ s.length) (hm0 : 0 < m) (ho : o + m ≤ l.length) (hn : Nat.blt d Γ.n = true)
    (k : At Γ ((d, .int .i64 m) :: E) (H.set i (rowR (.slice (some ⟨b, 0, none⟩) N C) e' 1 N ((l.take o ++ s.take m ++ l.drop (o + m)).map bv))) (wpList P ops Q rest)) :
    At Γ E H (wpList P ops Q ({ dst := some d, op := .call { callee := .builtin .copy, args := #[x, y], argTypes := #[dT, sT] }, type := ty, pos, after, guard := none } :: rest)) :=
  At.run rfl rfl hn fun a w ha hw => by
    have hsrc := hw.row hj
    have hl : ((s.take m).map bv).length = m := by rw [List.length_map, List.length_take]; omega
    obtain ⟨w', hr, hw'⟩ := storeCells_row (P := P) ((s.take m).map bv) o 0 (l.map bv) H w hw hi (by rw [hl, List.length_map]; omega) (bv_one _)
    rw [Nat.add_zero, putAt_map, List.length_take, Nat.min_eq_left hm] at hw'
    rcases hsrc.2 with ⟨_, h⟩ | ⟨b', cap', cur', rfl, _⟩
    · omega
    have hld := run_loadCells_list (P := P) w ⟨b', 0, none⟩ ((s.take m).map bv) (fun j u hu => by
      rw [Addr.add_off, Nat.zero_add]
      refine row_cell hsrc (q := j) ?_
      rw [List.getElem?_map] at hu ⊢
      rw [List.getElem?_take] at hu
      split at hu
      · exact hu
      · cases hu)
    refine ⟨.int .i64 m, w', _, ?_, hw', k⟩
    rw [hl] at hld
    have hr' : (storeCells ⟨b, o, none⟩ ((s.take m).map bv) 0).run P w = .ok () w' := hr
    have h0 : (Builtin.copy_ #[dT, sT] ty #[.slice (some ⟨b, o, none⟩) m c, .slice (some ⟨b', 0, none⟩) s.length cap']).run P w = .ok (goInt m) w' := by
      have hmin : Nat.min s.length m = m := Nat.min_eq_right hm
      have hmin' : min s.length m = m := Nat.min_eq_right hm
      have hmin2 : min m s.length = m := Nat.min_eq_left hm
      simp [Builtin.copy_, run_underlying ht, Builtin.lenOf, Builtin.firstCells, hz, hmin, hmin', hmin2, hld, hr']
      rw [← List.map_take, hr']
      rfl
    simp [execOp, resolve, invoke, builtin, ha.eval hx, ha.eval hy, Sem.run_bind, h0, goInt]
theorem KAt.three {HS : List Res} {t fuel : Nat} {listed : Array Bool} {Q : Exit → Act → World → Prop} (i j l : Nat) {oi oj ol : Oper} (hi : ops[i]? = some oi) (hj : ops[j]? = some oj) (hl : ops[l]? = some ol) (hr : Region.ready .any ops listed = [i, j, l])
    (ki : At Γ E H (wpList P ops (Exit.then (KMid P Γ ops HS t fuel listed i Q) (NoPanic Q)) [oi])) (kj : At Γ E H (wpList P ops (Exit.then (KMid P Γ ops HS t fuel listed j Q) (NoPanic Q)) [oj])) (kl : At Γ E H (wpList P ops (Exit.then (KMid P Γ ops HS t fuel listed l Q) (NoPanic Q)) [ol])) : KAt P Γ ops HS t (fuel + 1) listed E H Q := fun a w ha hw => by
  have key : ∀ (k : Nat) (ok : Oper), ops[k]? = some ok → wpList P ops (Exit.then (KMid P Γ ops HS t fuel listed k Q) (NoPanic Q)) [ok] a w → wpOp P ops (NoPanic Q) k (fun a' w' => (k < t → Rep Γ.w0 Γ.S HS w') ∧ wpAnyK P .any ops (NoPanic Q) (Rep Γ.w0 Γ.S HS) t fuel (listed.setIfInBounds k true) a' w') a w := fun k ok hk this => by
    unfold wpOp
    simp only [hk]
    unfold wpList at this
    split at this
    · rename_i hw'
      rw [if_pos hw']
      rcases this with h | ⟨h1, h2⟩
      · exact .inl (Oper.wp_then (Mid := KMid P Γ ops HS t fuel listed k Q) (Q := NoPanic Q) (fun a' w' h' => h') h)
      · exact .inr ⟨h1, h2⟩
    · rename_i hw'
      rw [if_neg hw']
      exact this
  refine ⟨(fun h0 => by rw [hr] at h0; cases h0), fun k hk => ?_⟩
  rw [hr] at hk
  rcases List.mem_cons.1 hk with rfl | hk
  · exact key _ _ hi (ki a w ha hw)
  · rcases List.mem_cons.1 hk with rfl | hk
    · exact key _ _ hj (kj a w ha hw)
    · obtain rfl := List.mem_singleton.1 hk
      exact key _ _ hl (kl a w ha hw)
end
end Go.Wk
