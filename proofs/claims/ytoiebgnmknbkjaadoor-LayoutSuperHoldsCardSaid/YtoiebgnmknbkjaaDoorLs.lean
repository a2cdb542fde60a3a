/- What a slice of bytes is that is handed in. -/
import Derived.Test.YtoiebgnmknbkjaaDoorLa
import Derived.Test.YtoiebgnmknbkjaaDoorWz
import Derived.ChangeSlices
set_option linter.unusedVariables false
set_option linter.unusedSimpArgs false
namespace Go.Wk
open Go Go.ChangeShapes Go.WideShapes Go.ChangeAt Go.RowKit
section
variable {H : Type} {enc : TypeId × Value → H} {P : Program} {W : World} {r : Reach} {base b0 : Nat} {sp : Nat → Bool} {held : Bool}
theorem arg_slice {t e : TypeId} {v : Value} (hu : P.underlying t = some (.slice e)) (h : Value.okWide P W r base t v) : v = .slice none 0 0 ∨ ∃ b o n c, v = .slice (some ⟨b, o, none⟩) n c ∧ n ≤ c := by
  unfold Value.okWide at h
  rw [hu] at h
  unfold Cell.okWide at h
  rw [hu] at h
  unfold Cell.ok at h
  rw [hu] at h
  cases v <;> simp at h
  rename_i A n c
  cases A with
  | none =>
    left
    cases n <;> cases c <;> simp at h ⊢
  | some a =>
    right
    obtain ⟨h1, _, h2⟩ := h
    obtain ⟨b, o, s⟩ := a
    have : s = none := h2.2.1
    subst this
    exact ⟨b, o, n, c, rfl, h1⟩
theorem arg_byteslice {t e : TypeId} {v : Value} {d : DataW H} {ps : List MemPlace} (hu : P.underlying t = some (.slice e)) (he : P.underlying e = some (.int .u8)) (hc : P.cellsOf e = 1) (hby : P.bytesOf e = 1)
    (h : Value.okWide P W r base t v) (hd : DataW.Trod enc P W b0 sp held t v d ps) (hw : (DataW.weights P t d).all (· ≤ reachBytes) = true) :
    ∃ A c l, v = .slice A (l : List UInt8).length c ∧ Bytes W A l ∧ l.length ≤ c ∧ l.length ≤ 140737488351232 ∧ (A = none → l.length = 0 ∧ c = 0) ∧ (∀ a, A = some a → a.spot = none) := by
  obtain ⟨fuel, hf⟩ := hd
  rcases arg_slice hu h with rfl | ⟨b, o, n, c, rfl, hnc⟩
  · exact ⟨none, 0, [], rfl, Bytes.nil _ _, Nat.le_refl _, by decide, (fun _ => ⟨rfl, rfl⟩), (fun a ha => by cases ha)⟩
  · rcases open_ints hu he hc hf with ⟨h0, _⟩ | ⟨a, len, cap, zs, h0, _, hl, _, hz, hx, hcell, hwf⟩
    · simp [Value.cells] at h0
    · simp only [Value.cells, List.cons.injEq, Value.slice.injEq, Option.some.injEq, and_true] at h0
      obtain ⟨rfl, rfl, rfl⟩ := h0
      have hlen : n ≤ zs.length := by rw [hz]; split <;> omega
      simp only [Prod.mk.injEq] at hx
      have hdw : (zs.length) * 1 ≤ reachBytes := by
        have hall := List.all_eq_true.1 hw
        rw [hx.1] at hall
        unfold DataW.weights at hall
        rw [hu] at hall
        have := hall _ (List.mem_cons_self ..)
        simp only [decide_eq_true_eq, hby, lits, List.length_map] at this
        rw [← List.length_append, List.take_append_drop] at this
        exact this
      have hb : ∀ x ∈ zs, ∃ q : UInt8, x = (q.toNat : Int) := fun x hx => by
        have := hwf x hx
        exact hasU8 (by simpa [Lit.wf, IntKind.has] using this)
      refine ⟨some ⟨b, o, none⟩, c, (zs.take n).map (fun z => UInt8.ofNat z.toNat), ?_, ?_, ?_, ?_, (fun h => by cases h), (fun a ha => by cases ha; rfl)⟩
      · rw [List.length_map, List.length_take, Nat.min_eq_left hlen]
      · intro k u hk
        have hk' : k < n := by have := (List.getElem?_eq_some_iff.1 hk).1; simp at this; omega
        refine ⟨b, o, rfl, ?_⟩
        have h1 := hcell k (by omega)
        rw [Addr.add_off] at h1
        rw [h1]
        have hkz : k < zs.length := by omega
        rw [List.getElem?_map, List.getElem?_take, if_pos hk', List.getElem?_eq_getElem hkz] at hk
        have hu' : UInt8.ofNat zs[k].toNat = u := by simpa using hk
        have hg : zs.getD k 0 = zs[k] := by simp [List.getD, hkz]
        obtain ⟨q, hq⟩ := hb zs[k] (List.getElem_mem hkz)
        rw [hg, ← hu', hq]
        simp
      · rw [List.length_map, List.length_take]; omega
      · rw [List.length_map, List.length_take]; unfold reachBytes at hdw; omega
end
end Go.Wk
