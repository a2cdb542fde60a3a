/- What an argument is: numbers, texts, structs and arrays, out of what the statement's form says of a value. -/
import Derived.Test.YtoiebgnmknbkjaaDoorLw
import Derived.Test.YtoiebgnmknbkjaaDoorPc
set_option linter.unusedVariables false
set_option linter.unusedSimpArgs false
namespace Go.Wk
open Go Go.ChangeShapes Go.WideShapes Go.ChangeAt Go.RowKit
section
variable {P : Program} {w : World} {r : Reach} {base : Nat}
theorem has64 {n : Int} (h : IntKind.i64.has n) : -9223372036854775808 ≤ n ∧ n ≤ 9223372036854775807 := by
  simpa [IntKind.has, IntKind.min, IntKind.max, IntKind.signed, IntKind.bits] using h
theorem hasU64 {n : Int} (h : IntKind.u64.has n) : ∃ x : BitVec 64, n = (x.toNat : Int) := by
  have h' : 0 ≤ n ∧ n ≤ 18446744073709551615 := by simpa [IntKind.has, IntKind.min, IntKind.max, IntKind.signed, IntKind.bits] using h
  exact ⟨BitVec.ofNat 64 n.toNat, by simp only [BitVec.toNat_ofNat]; omega⟩
theorem hasU32 {n : Int} (h : IntKind.u32.has n) : ∃ x : BitVec 32, n = (x.toNat : Int) := by
  have h' : 0 ≤ n ∧ n ≤ 4294967295 := by simpa [IntKind.has, IntKind.min, IntKind.max, IntKind.signed, IntKind.bits] using h
  exact ⟨BitVec.ofNat 32 n.toNat, by simp only [BitVec.toNat_ofNat]; omega⟩
theorem hasU8 {n : Int} (h : IntKind.u8.has n) : ∃ x : UInt8, n = (x.toNat : Int) := by
  have h' : 0 ≤ n ∧ n ≤ 255 := by simpa [IntKind.has, IntKind.min, IntKind.max, IntKind.signed, IntKind.bits] using h
  exact ⟨UInt8.ofNat n.toNat, by rw [UInt8.toNat_ofNat']; omega⟩
theorem cell_int {u : TypeId} {k : IntKind} {v : Value} (hu : P.underlying u = some (.int k)) (h : Cell.okWide P w r base u v) : ∃ n, v = .int k n ∧ k.has n := by
  unfold Cell.okWide at h
  rw [hu] at h
  unfold Cell.ok at h
  rw [hu] at h
  cases v <;> simp at h
  exact ⟨_, by rw [h.1], h.2⟩
theorem cell_bool {u : TypeId} {v : Value} (hu : P.underlying u = some .bool) (h : Cell.okWide P w r base u v) : ∃ b, v = .bool b := by
  unfold Cell.okWide at h
  rw [hu] at h
  unfold Cell.ok at h
  rw [hu] at h
  cases v <;> simp at h
  exact ⟨_, rfl⟩
theorem cell_string {u : TypeId} {v : Value} (hu : P.underlying u = some .string) (h : Cell.okWide P w r base u v) : ∃ s, v = .string s ∧ s.size ≤ 9223372036854775807 := by
  unfold Cell.okWide at h
  rw [hu] at h
  unfold Cell.ok at h
  rw [hu] at h
  cases v <;> simp at h
  refine ⟨_, rfl, ?_⟩
  first | (simp [IntKind.max, IntKind.signed, IntKind.bits] at h; omega) | omega
theorem arg_struct {t : TypeId} {fs : Array Field} {v : Value} (hu : P.underlying t = some (.struct fs)) (h : Value.okWide P w r base t v) : ∃ cs : List Value, v = .agg cs.toArray ∧ cs.length = P.cellsOf t ∧ Row.okWide P w r base t cs.toArray := by
  unfold Value.okWide at h
  rw [hu] at h
  obtain ⟨cs, rfl, h1, h2⟩ := h
  exact ⟨cs.toList, by simp, by simpa using h1, by simpa using h2⟩
theorem arg_array {t e : TypeId} {n : Nat} {v : Value} (hu : P.underlying t = some (.array n e)) (h : Value.okWide P w r base t v) : ∃ cs : List Value, v = .agg cs.toArray ∧ cs.length = P.cellsOf t ∧ Row.okWide P w r base t cs.toArray := by
  unfold Value.okWide at h
  rw [hu] at h
  obtain ⟨cs, rfl, h1, h2⟩ := h
  exact ⟨cs.toList, by simp, by simpa using h1, by simpa using h2⟩
theorem arg_int {t : TypeId} {k : IntKind} {v : Value} (hu : P.underlying t = some (.int k)) (h : Value.okWide P w r base t v) : ∃ n, v = .int k n ∧ k.has n := by
  unfold Value.okWide at h
  rw [hu] at h
  exact cell_int hu h
theorem arg_bool {t : TypeId} {v : Value} (hu : P.underlying t = some .bool) (h : Value.okWide P w r base t v) : ∃ b, v = .bool b := by
  unfold Value.okWide at h
  rw [hu] at h
  exact cell_bool hu h
theorem arg_string {t : TypeId} {v : Value} (hu : P.underlying t = some .string) (h : Value.okWide P w r base t v) : ∃ s, v = .string s ∧ s.size ≤ 9223372036854775807 := by
  unfold Value.okWide at h
  rw [hu] at h
  exact cell_string hu h
theorem row_at {t : TypeId} {cs : List Value} {ts : List TypeId} (hct : P.cellTypes P.depth t = some ts) (h : Row.okWide P w r base t cs.toArray) (i : Nat) {v : Value} {u : TypeId} (hv : cs[i]? = some v) (hu : ts[i % ts.length]? = some u) : Cell.okWide P w r base u v := by
  obtain ⟨ts', h1, _, h2⟩ := h
  rw [hct] at h1
  obtain rfl := Option.some.inj h1
  obtain ⟨u', h3, h4⟩ := h2 i v (by simpa using hv)
  rw [hu] at h3
  obtain rfl := Option.some.inj h3
  exact h4
/-- An array of bytes. -/
theorem list_bytes : ∀ {cs : List Value}, (∀ v ∈ cs, ∃ n, v = .int .u8 n ∧ IntKind.u8.has n) → ∃ l : List UInt8, cs = l.map bv
  | [], _ => ⟨[], rfl⟩
  | v :: cs, h => by
    obtain ⟨n, rfl, hn⟩ := h v (List.mem_cons_self ..)
    obtain ⟨x, rfl⟩ := hasU8 hn
    obtain ⟨l, rfl⟩ := list_bytes (cs := cs) (fun v hv => h v (List.mem_cons_of_mem _ hv))
    exact ⟨x :: l, rfl⟩
theorem arg_bytes {t e : TypeId} {n : Nat} {v : Value} {ts : List TypeId} (hu : P.underlying t = some (.array n e)) (he : P.underlying e = some (.int .u8)) (hct : P.cellTypes P.depth t = some ts) (hall : ∀ u ∈ ts, u = e) (hcell : P.cellsOf t = n)
    (h : Value.okWide P w r base t v) : ∃ l : List UInt8, v = .agg (l.map bv).toArray ∧ l.length = n := by
  obtain ⟨cs, rfl, hl, hr⟩ := arg_array hu h
  obtain ⟨l, rfl⟩ := list_bytes (cs := cs) (fun v hv => by
    obtain ⟨i, hi, rfl⟩ := List.getElem_of_mem hv
    obtain ⟨ts', h1, _, h2⟩ := hr
    obtain ⟨u', h3, h4⟩ := h2 i cs[i] (by simp [hi])
    rw [hct] at h1
    obtain rfl := Option.some.inj h1
    obtain rfl := hall u' (List.mem_of_getElem? h3)
    exact cell_int he h4)
  exact ⟨l, rfl, by rw [← hcell, ← hl]; simp⟩
/-- An array of words. -/
theorem list_words : ∀ {cs : List Value}, (∀ v ∈ cs, ∃ n, v = .int .u64 n ∧ IntKind.u64.has n) → ∃ l : List (BitVec 64), cs = l.map b64
  | [], _ => ⟨[], rfl⟩
  | v :: cs, h => by
    obtain ⟨n, rfl, hn⟩ := h v (List.mem_cons_self ..)
    obtain ⟨x, rfl⟩ := hasU64 hn
    obtain ⟨l, rfl⟩ := list_words (cs := cs) (fun v hv => h v (List.mem_cons_of_mem _ hv))
    exact ⟨x :: l, rfl⟩
theorem arg_words {t e : TypeId} {n : Nat} {v : Value} {ts : List TypeId} (hu : P.underlying t = some (.array n e)) (he : P.underlying e = some (.int .u64)) (hct : P.cellTypes P.depth t = some ts) (hall : ∀ u ∈ ts, u = e) (hcell : P.cellsOf t = n)
    (h : Value.okWide P w r base t v) : ∃ l : List (BitVec 64), v = .agg (l.map b64).toArray ∧ l.length = n := by
  obtain ⟨cs, rfl, hl, hr⟩ := arg_array hu h
  obtain ⟨l, rfl⟩ := list_words (cs := cs) (fun v hv => by
    obtain ⟨i, hi, rfl⟩ := List.getElem_of_mem hv
    obtain ⟨ts', h1, _, h2⟩ := hr
    obtain ⟨u', h3, h4⟩ := h2 i cs[i] (by simp [hi])
    rw [hct] at h1
    obtain rfl := Option.some.inj h1
    obtain rfl := hall u' (List.mem_of_getElem? h3)
    exact cell_int he h4)
  exact ⟨l, rfl, by rw [← hcell, ← hl]; simp⟩
end
end Go.Wk
