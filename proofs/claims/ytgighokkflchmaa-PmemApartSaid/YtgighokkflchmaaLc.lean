/- From a law's contract to its row: a law that answers true and changes nothing that was there leaves its arguments reading as they read. -/
import Derived.Test.YtgighokkflchmaaWa
import Derived.WalkKit
import Derived.ProofKit
import Derived.OpenShut
import Derived.WideKeyArgs
set_option linter.unusedVariables false
set_option linter.unusedSimpArgs false
namespace Go.Wk
open Go Go.ChangeShapes Go.WideShapes Go.ChangeAt Go.RowKit
theorem Mod.below {w w' : World} (h : Mod (fun _ => False) w w') : Below w.heap.size w w' := ⟨h.os, h.tape, h.output, h.size, fun k hk => h.old k hk (fun h => h)⟩
section
variable {H : Type} {enc : TypeId × Value → H} {P : Program}
theorem trodAll_stays (hl : laidOutB P = true) {W W' : World} {sp' : Nat → Bool} (hm : Mod (fun _ => False) W W') : ∀ {ts : List TypeId} {vs : List Value} {ds : List (DataW H)} {ps : List MemPlace}, (∀ t ∈ ts, P.readableRec t = true ∧ t < P.types.size) →
    DataW.TrodAll enc P W 0 (fun _ => true) true ts vs ds ps → (∀ p ∈ ps, p.block < W.heap.size) → (∀ p ∈ ps, sp' p.block = true) → DataW.TrodAll enc P W' 0 sp' true ts vs ds ps
  | [], vs, ds, ps, _, h, _, _ => by
    obtain ⟨rfl, rfl, rfl⟩ := trodAll_nil h
    exact rfl
  | t :: ts, vs, ds, ps, ht, h, hlt, hs => by
    obtain ⟨v, vs', d, ds', p, q, rfl, rfl, rfl, h1, h2⟩ := trodAll_cons h
    have h0 := ht t (List.mem_cons_self ..)
    exact ⟨p, q, WideElems.Trod_stays hl h0.1 h0.2 h1 (fun x hx => hm.below.same (hlt x (List.mem_append_left _ hx))) (fun x hx => hs x (List.mem_append_left _ hx)),
      trodAll_stays hl hm (fun t ht' => ht t (List.mem_cons_of_mem _ ht')) h2 (fun x hx => hlt x (List.mem_append_right _ hx)) (fun x hx => hs x (List.mem_append_right _ hx)), rfl⟩
theorem law_post (hl : laidOutB P = true) {f : Func} {s : ChangeSpec} {W W' : World} {args : Array Value} {ds gs : List (DataW H)} {before : List MemPlace} {bt : TypeId}
    (hrd : ∀ t ∈ f.params.toList, P.readableRec t = true ∧ t < P.types.size) (hv : s.vars = [])
    (hW : DataW.Whole enc P f.params.toList s.vars false W args.toList ds gs before) (hs : s.fn H (ds ++ gs) = { results := [.lit (.bool true)], args := ds })
    (hr : f.resultTypes = #[bt]) (hb : P.underlying bt = some .bool) (hm : Mod (fun _ => False) W W') : s.post enc P f false true false false W args (.bool true) W' := by
  have hW' := hW
  obtain ⟨p, q, hA, hV, rfl, hfz, hnd⟩ := hW
  have hV' := hV
  rw [hv] at hV'
  obtain ⟨rfl, rfl⟩ := trodVars_none hV'
  have hlt : ∀ x ∈ p, x.block < W.heap.size := fun x hx => hW'.lt x (by simpa using hx)
  have hargs : ∀ sp : Nat → Bool, (∀ x ∈ p, sp x.block = true) → DataW.TrodAll enc P W' 0 sp true f.params.toList args.toList ds p := fun sp hsp => trodAll_stays hl hm hrd hA hlt hsp
  have hres : ∀ (b : Nat) (sp : Nat → Bool) (hd : Bool), DataW.TrodAll enc P W' b sp hd f.resultTypes.toList ((Value.bool true).resultList f.resultTypes.size) [.lit (.bool true)] [] := fun b sp hd => by
    rw [hr]; exact trodAll_mk1 (shut_bool hb _)
  have hold : ∀ x ∈ p, (fun b => decide (b < W.heap.size)) x.block = true := fun x hx => by simpa using hlt x hx
  refine ⟨ds, [], p ++ [], [], p, [], hW', by rw [hs]; exact hres _ _ _, by rw [hs]; exact hargs _ hold, by rw [hs, hv]; rfl, hm.below.frame _, fun _ => ⟨ok_one hr rfl (okWide_bool_mk hb _), _, [], ([] ++ p) ++ [], ⟨[] ++ p, [], trodAll_append (hargs _ (fun _ _ => rfl)) (hres _ _ _), by rw [hv]; exact (show DataW.TrodVars enc P W' (fun _ => true) [] [] [] from rfl), rfl, ?_, fun h => by cases h⟩, ?_⟩⟩
  · intro b off hp
    have hp' : MemPlace.cell b off ∈ p := by simpa using hp
    have h1 := hm.below.frozen (p := ⟨b, off, none⟩) (hlt _ hp')
    rw [h1]
    exact hfz b off (by simpa using hp')
  · intro x hx _
    simpa using hx
end
end Go.Wk

set_option linter.unusedVariables false
set_option linter.unusedSimpArgs false
namespace Go.Wk
open Go Go.ChangeShapes Go.WideShapes Go.ChangeAt Go.RowKit
section
variable {P : Program} {w : World} {r : Reach} {base : Nat}
theorem has64 {n : Int} (h : IntKind.i64.has n) : -9223372036854775808 ≤ n ∧ n ≤ 9223372036854775807 := by
  simpa [IntKind.has, IntKind.min, IntKind.max, IntKind.signed, IntKind.bits] using h
theorem hasU64 {n : Int} (h : IntKind.u64.has n) : ∃ x : BitVec 64, n = (x.toNat : Int) := by
  have h' : 0 ≤ n ∧ n ≤ 18446744073709551615 := by simpa [IntKind.has, IntKind.min, IntKind.max, IntKind.signed, IntKind.bits] using h
  exact ⟨BitVec.ofNat 64 n.toNat, by simp only [BitVec.toNat_ofNat]; omega⟩
theorem hasU32 {n : Int} (h : IntKind.u32.has n) : ∃ x : BitVec 32, n = (x.toNat : Int) := by
  have h' : 0 ≤ n ∧ n ≤ 4294967295 := by simpa [IntKind.has, IntKind.min, IntKind.max, IntKind.signed, IntKind.bits] using h
  exact ⟨BitVec.ofNat 32 n.toNat, by simp only [BitVec.toNat_ofNat]; omega⟩
theorem hasU8 {n : Int} (h : IntKind.u8.has n) : ∃ x : UInt8, n = (x.toNat : Int) := by
  have h' : 0 ≤ n ∧ n ≤ 255 := by simpa [IntKind.has, IntKind.min, IntKind.max, IntKind.signed, IntKind.bits] using h
  exact ⟨UInt8.ofNat n.toNat, by rw [UInt8.toNat_ofNat']; omega⟩
theorem cell_int {u : TypeId} {k : IntKind} {v : Value} (hu : P.underlying u = some (.int k)) (h : Cell.okWide P w r base u v) : ∃ n, v = .int k n ∧ k.has n := by
  unfold Cell.okWide at h
  rw [hu] at h
  unfold Cell.ok at h
  rw [hu] at h
  cases v <;> simp at h
  exact ⟨_, by rw [h.1], h.2⟩
theorem cell_bool {u : TypeId} {v : Value} (hu : P.underlying u = some .bool) (h : Cell.okWide P w r base u v) : ∃ b, v = .bool b := by
  unfold Cell.okWide at h
  rw [hu] at h
  unfold Cell.ok at h
  rw [hu] at h
  cases v <;> simp at h
  exact ⟨_, rfl⟩
theorem cell_string {u : TypeId} {v : Value} (hu : P.underlying u = some .string) (h : Cell.okWide P w r base u v) : ∃ s, v = .string s ∧ s.size ≤ 9223372036854775807 := by
  unfold Cell.okWide at h
  rw [hu] at h
  unfold Cell.ok at h
  rw [hu] at h
  cases v <;> simp at h
  refine ⟨_, rfl, ?_⟩
  first | (simp [IntKind.max, IntKind.signed, IntKind.bits] at h; omega) | omega
theorem arg_struct {t : TypeId} {fs : Array Field} {v : Value} (hu : P.underlying t = some (.struct fs)) (h : Value.okWide P w r base t v) : ∃ cs : List Value, v = .agg cs.toArray ∧ cs.length = P.cellsOf t ∧ Row.okWide P w r base t cs.toArray := by
  unfold Value.okWide at h
  rw [hu] at h
  obtain ⟨cs, rfl, h1, h2⟩ := h
  exact ⟨cs.toList, by simp, by simpa using h1, by simpa using h2⟩
theorem arg_array {t e : TypeId} {n : Nat} {v : Value} (hu : P.underlying t = some (.array n e)) (h : Value.okWide P w r base t v) : ∃ cs : List Value, v = .agg cs.toArray ∧ cs.length = P.cellsOf t ∧ Row.okWide P w r base t cs.toArray := by
  unfold Value.okWide at h
  rw [hu] at h
  obtain ⟨cs, rfl, h1, h2⟩ := h
  exact ⟨cs.toList, by simp, by simpa using h1, by simpa using h2⟩
theorem arg_int {t : TypeId} {k : IntKind} {v : Value} (hu : P.underlying t = some (.int k)) (h : Value.okWide P w r base t v) : ∃ n, v = .int k n ∧ k.has n := by
  unfold Value.okWide at h
  rw [hu] at h
  exact cell_int hu h
theorem arg_bool {t : TypeId} {v : Value} (hu : P.underlying t = some .bool) (h : Value.okWide P w r base t v) : ∃ b, v = .bool b := by
  unfold Value.okWide at h
  rw [hu] at h
  exact cell_bool hu h
theorem arg_string {t : TypeId} {v : Value} (hu : P.underlying t = some .string) (h : Value.okWide P w r base t v) : ∃ s, v = .string s ∧ s.size ≤ 9223372036854775807 := by
  unfold Value.okWide at h
  rw [hu] at h
  exact cell_string hu h
theorem row_at {t : TypeId} {cs : List Value} {ts : List TypeId} (hct : P.cellTypes P.depth t = some ts) (h : Row.okWide P w r base t cs.toArray) (i : Nat) {v : Value} {u : TypeId} (hv : cs[i]? = some v) (hu : ts[i % ts.length]? = some u) : Cell.okWide P w r base u v := by
  obtain ⟨ts', h1, _, h2⟩ := h
  rw [hct] at h1
  obtain rfl := Option.some.inj h1
  obtain ⟨u', h3, h4⟩ := h2 i v (by simpa using hv)
  rw [hu] at h3
  obtain rfl := Option.some.inj h3
  exact h4
/-- An array of bytes. -/
theorem list_bytes : ∀ {cs : List Value}, (∀ v ∈ cs, ∃ n, v = .int .u8 n ∧ IntKind.u8.has n) → ∃ l : List UInt8, cs = l.map bv
  | [], _ => ⟨[], rfl⟩
  | v :: cs, h => by
    obtain ⟨n, rfl, hn⟩ := h v (List.mem_cons_self ..)
    obtain ⟨x, rfl⟩ := hasU8 hn
    obtain ⟨l, rfl⟩ := list_bytes (cs := cs) (fun v hv => h v (List.mem_cons_of_mem _ hv))
    exact ⟨x :: l, rfl⟩
theorem arg_bytes {t e : TypeId} {n : Nat} {v : Value} {ts : List TypeId} (hu : P.underlying t = some (.array n e)) (he : P.underlying e = some (.int .u8)) (hct : P.cellTypes P.depth t = some ts) (hall : ∀ u ∈ ts, u = e) (hcell : P.cellsOf t = n)
    (h : Value.okWide P w r base t v) : ∃ l : List UInt8, v = .agg (l.map bv).toArray ∧ l.length = n := by
  obtain ⟨cs, rfl, hl, hr⟩ := arg_array hu h
  obtain ⟨l, rfl⟩ := list_bytes (cs := cs) (fun v hv => by
    obtain ⟨i, hi, rfl⟩ := List.getElem_of_mem hv
    obtain ⟨ts', h1, _, h2⟩ := hr
    obtain ⟨u', h3, h4⟩ := h2 i cs[i] (by simp [hi])
    rw [hct] at h1
    obtain rfl := Option.some.inj h1
    obtain rfl := hall u' (List.mem_of_getElem? h3)
    exact cell_int he h4)
  exact ⟨l, rfl, by rw [← hcell, ← hl]; simp⟩
/-- An array of words. -/
theorem list_words : ∀ {cs : List Value}, (∀ v ∈ cs, ∃ n, v = .int .u64 n ∧ IntKind.u64.has n) → ∃ l : List (BitVec 64), cs = l.map b64
  | [], _ => ⟨[], rfl⟩
  | v :: cs, h => by
    obtain ⟨n, rfl, hn⟩ := h v (List.mem_cons_self ..)
    obtain ⟨x, rfl⟩ := hasU64 hn
    obtain ⟨l, rfl⟩ := list_words (cs := cs) (fun v hv => h v (List.mem_cons_of_mem _ hv))
    exact ⟨x :: l, rfl⟩
theorem arg_words {t e : TypeId} {n : Nat} {v : Value} {ts : List TypeId} (hu : P.underlying t = some (.array n e)) (he : P.underlying e = some (.int .u64)) (hct : P.cellTypes P.depth t = some ts) (hall : ∀ u ∈ ts, u = e) (hcell : P.cellsOf t = n)
    (h : Value.okWide P w r base t v) : ∃ l : List (BitVec 64), v = .agg (l.map b64).toArray ∧ l.length = n := by
  obtain ⟨cs, rfl, hl, hr⟩ := arg_array hu h
  obtain ⟨l, rfl⟩ := list_words (cs := cs) (fun v hv => by
    obtain ⟨i, hi, rfl⟩ := List.getElem_of_mem hv
    obtain ⟨ts', h1, _, h2⟩ := hr
    obtain ⟨u', h3, h4⟩ := h2 i cs[i] (by simp [hi])
    rw [hct] at h1
    obtain rfl := Option.some.inj h1
    obtain rfl := hall u' (List.mem_of_getElem? h3)
    exact cell_int he h4)
  exact ⟨l, rfl, by rw [← hcell, ← hl]; simp⟩
end
end Go.Wk
