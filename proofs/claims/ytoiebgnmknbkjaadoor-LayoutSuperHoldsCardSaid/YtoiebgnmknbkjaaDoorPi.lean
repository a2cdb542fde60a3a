/- What 64 bytes say as a superblock's line. No program in sight. -/
import Derived.Test.YtoiebgnmknbkjaaDoorPh
set_option linter.unusedVariables false
set_option linter.unusedSimpArgs false
namespace Go.Wk
open Go
theorem num_cons {l : List UInt8} {a m : Nat} {c : UInt8} (h : l[a]? = some c) : num l a (m + 1) = num l (a + 1) m * 256 + c.toNat := by
  have hk : a < l.length := (List.getElem?_eq_some_iff.1 h).1
  have e := List.getElem?_eq_getElem hk
  rw [h] at e
  obtain rfl := Option.some.inj e
  unfold num
  rw [List.drop_eq_getElem_cons hk, List.take_succ_cons, fromLe]
  omega
/-- A number that is read is laid again as it stood. -/
theorem le_num {l : List UInt8} {a n : Nat} (h : a + n ≤ l.length) : le n (num l a n) = (l.drop a).take n := by
  have := le_fromLe ((l.drop a).take n)
  rw [show ((l.drop a).take n).length = n by simp; omega] at this
  exact this
theorem allZero_eq {l : List UInt8} (h : allZero l) : l = zs l.length := List.eq_replicate_iff.2 ⟨rfl, h⟩
theorem zs_allZero (n : Nat) : allZero (zs n) := fun c hc => (List.mem_replicate.1 hc).2
theorem take_add_drop (l : List UInt8) (a b : Nat) : l.take (a + b) = l.take a ++ (l.drop a).take b := List.take_add
theorem wholeB_iff {l : List UInt8} : wholeB l = true ↔ closeL l = l := by unfold wholeB; exact decide_eq_true_iff
/-- A whole line is its first sixty bytes and their sum. -/
theorem whole_line {l b : List UInt8} (hb : b.length ≤ 60) (hl : l.length = 64) : lineL b = l ↔ wholeB l = true ∧ l.take 60 = b ++ zs (60 - b.length) := by
  rw [wholeB_iff, lineL_row hb]
  have e60 : (b ++ zs (60 - b.length)).length = 60 := by simp [zs]; omega
  constructor
  · intro h
    have h60 : l.take 60 = b ++ zs (60 - b.length) := by rw [← h, List.take_append_of_le_length (by omega), List.take_of_length_le (by omega)]
    refine ⟨?_, h60⟩
    unfold closeL
    rw [h60, h]
  · rintro ⟨h1, h2⟩
    unfold closeL at h1
    rw [h2] at h1
    exact h1
theorem line_take {b : List UInt8} (hb : b.length ≤ 60) : (lineL b).take 60 = b ++ zs (60 - b.length) := by
  have e60 : (b ++ zs (60 - b.length)).length = 60 := by simp [zs]; omega
  rw [lineL_row hb, List.take_append_of_le_length (by omega), List.take_of_length_le (by omega)]
def mark1 : List UInt8 := [70, 85, 82, 82, 79, 87, 48, 49]
theorem super_take {l : List UInt8} (hl : l.length = 64) : l.take 60 = superB (num l 8 4) (num l 12 4) (num l 16 4) ++ zs 40 ↔ (l.drop 0).take 8 = mark1 ∧ allZero ((l.drop 20).take 40) := by
  have e : l.take 60 = l.take 8 ++ (l.drop 8).take 4 ++ (l.drop 12).take 4 ++ (l.drop 16).take 4 ++ (l.drop 20).take 40 := by
    rw [show 60 = 20 + 40 from rfl, take_add_drop, show 20 = 16 + 4 from rfl, take_add_drop, show 16 = 12 + 4 from rfl, take_add_drop, show 12 = 8 + 4 from rfl, take_add_drop]
  rw [e, superB, le_num (by omega), le_num (by omega), le_num (by omega)]
  have h8 : (l.take 8).length = 8 := by simp; omega
  have h40 : ((l.drop 20).take 40).length = 40 := by simp; omega
  constructor
  · intro h
    simp only [List.append_assoc] at h
    have h1 := List.append_inj h (by rw [h8]; rfl)
    refine ⟨by rw [List.drop_zero, h1.1]; rfl, ?_⟩
    have h2 := List.append_cancel_left (List.append_cancel_left (List.append_cancel_left h1.2))
    rw [h2]; exact zs_allZero 40
  · rintro ⟨h1, h2⟩
    rw [List.drop_zero] at h1
    have h3 := allZero_eq h2
    rw [h40] at h3
    rw [h1, h3]; rfl
def SupLine (l : List UInt8) : Prop := lineL (superB (num l 8 4) (num l 12 4) (num l 16 4)) = l
instance (l : List UInt8) : Decidable (SupLine l) := by unfold SupLine; infer_instance
theorem supLine_iff {l : List UInt8} (hl : l.length = 64) : SupLine l ↔ wholeB l = true ∧ (l.drop 0).take 8 = mark1 ∧ allZero ((l.drop 20).take 40) := by
  unfold SupLine
  rw [whole_line (by rw [superB_length]; decide) hl, superB_length, show 60 - 20 = 40 from rfl, super_take hl]
end Go.Wk
