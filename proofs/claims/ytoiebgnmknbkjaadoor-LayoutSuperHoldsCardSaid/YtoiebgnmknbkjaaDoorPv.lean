/- What a good name is. No program in sight. -/
import Derived.Test.YtoiebgnmknbkjaaDoorWp
set_option linter.unusedVariables false
set_option linter.unusedSimpArgs false
namespace Go.Wk
open Go
def okc (c : UInt8) : Bool := !(c == 0) && !(c == 47)
def validB (s : ByteArray) : Bool := !(s.data.toList.isEmpty) && decide (s.size ≤ 28) && !(s.data.toList == [46]) && !(s.data.toList == [46, 46]) && s.data.toList.all okc
theorem size_len (s : ByteArray) : s.data.toList.length = s.size := Array.length_toList
theorem valid_empty {s : ByteArray} (h : ((s.size : Int) == 0) = true) : validB s = false := by
  have h0 : s.size = 0 := by simpa using h
  have : s.data.toList = [] := List.eq_nil_of_length_eq_zero (by rw [size_len]; exact h0)
  simp [validB, this]
theorem valid_emptyL {s : ByteArray} (h : (s.toList == (ByteArray.mk #[]).toList) = true) : validB s = false := by
  rw [ByteArray.toList_eq, ByteArray.toList_eq] at h
  simp at h
  simp [validB, h]
theorem valid_long {s : ByteArray} (h : decide ((s.size : Int) > 28) = true) : validB s = false := by
  have h0 : ¬ s.size ≤ 28 := by simp at h; omega
  simp [validB, h0]
theorem valid_dot {s : ByteArray} (h : (s.toList == (ByteArray.mk #[46]).toList) = true) : validB s = false := by
  rw [ByteArray.toList_eq, ByteArray.toList_eq] at h
  simp at h
  simp [validB, h]
theorem valid_dots {s : ByteArray} (h : (s.toList == (ByteArray.mk #[46, 46]).toList) = true) : validB s = false := by
  rw [ByteArray.toList_eq, ByteArray.toList_eq] at h
  simp at h
  simp [validB, h]
theorem valid_bad {s : ByteArray} {k : Nat} {c : UInt8} (h : s.data.toList[k]? = some c) (hc : okc c = false) : validB s = false := by
  have : s.data.toList.all okc = false := by
    rw [List.all_eq_false]
    exact ⟨c, List.mem_of_getElem? h, by simp [hc]⟩
  simp [validB, this]
theorem valid_all {s : ByteArray} (h1 : ((s.size : Int) == 0) = false) (h2 : decide ((s.size : Int) > 28) = false) (h3 : (s.toList == (ByteArray.mk #[46]).toList) = false) (h4 : (s.toList == (ByteArray.mk #[46, 46]).toList) = false)
    (h5 : s.data.toList.all okc = true) : validB s = true := by
  rw [ByteArray.toList_eq, ByteArray.toList_eq] at h3 h4
  have e1 : s.data.toList.isEmpty = false := by
    rw [Bool.eq_false_iff]
    intro h
    have : s.data.toList = [] := by simpa using h
    have := congrArg List.length this
    rw [size_len] at this
    simp at this
    simp [this] at h1
  have e2 : s.size ≤ 28 := by simp at h2; omega
  have e3 : (s.data.toList == [46]) = false := h3
  have e4 : (s.data.toList == [46, 46]) = false := h4
  simp only [validB, e1, e2, e3, e4, h5]; rfl
theorem notEmpty_of {s : ByteArray} (h : (s.toList == (ByteArray.mk #[]).toList) = false) : ((s.size : Int) == 0) = false := by
  rw [Bool.eq_false_iff] at h ⊢
  intro h0
  apply h
  have h0 : s.size = 0 := by simpa using h0
  have : s.data.toList = [] := List.eq_nil_of_length_eq_zero (by rw [size_len]; exact h0)
  rw [ByteArray.toList_eq, ByteArray.toList_eq, this]; rfl
theorem u8eq (c d : UInt8) : ((c.toNat : Int) == (d.toNat : Int)) = (c == d) := by
  rw [Bool.eq_iff_iff]
  simp only [beq_iff_eq]
  constructor
  · intro h; exact UInt8.toNat_inj.1 (by omega)
  · intro h; rw [h]
theorem okc_0 {c : UInt8} (h : ((c.toNat : Int) == 0) = true) : okc c = false := by
  have := u8eq c 0
  simp only [okc, ← this]
  rw [show (((0 : UInt8).toNat : Nat) : Int) = 0 from rfl, h]; rfl
theorem okc_47 {c : UInt8} (h : ((c.toNat : Int) == 47) = true) : okc c = false := by
  have := u8eq c 47
  simp only [okc, ← this]
  rw [show (((47 : UInt8).toNat : Nat) : Int) = 47 from rfl, h]; simp
theorem okc_yes {c : UInt8} (h : ((c.toNat : Int) == 0) = false) (h' : ((c.toNat : Int) == 47) = false) : okc c = true := by
  have e0 := u8eq c 0
  have e1 := u8eq c 47
  rw [show (((0 : UInt8).toNat : Nat) : Int) = 0 from rfl, h] at e0
  rw [show (((47 : UInt8).toNat : Nat) : Int) = 47 from rfl, h'] at e1
  simp only [okc, ← e0, ← e1]; rfl
theorem all_take_succ {l : List UInt8} {k : Nat} {c : UInt8} (h : l[k]? = some c) (ha : (l.take k).all okc = true) (hc : okc c = true) : (l.take (k + 1)).all okc = true := by
  obtain ⟨hk, rfl⟩ := List.getElem?_eq_some_iff.1 h
  rw [List.take_succ_eq_append_getElem hk, List.all_append, ha]
  simp [hc]
end Go.Wk
