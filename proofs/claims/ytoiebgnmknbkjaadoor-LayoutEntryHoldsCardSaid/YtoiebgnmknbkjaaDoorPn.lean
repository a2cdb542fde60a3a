/- Entries: when they are good, their lines, what a line says. -/
import Derived.Test.YtoiebgnmknbkjaaDoorPa
import Derived.Test.YtoiebgnmknbkjaaDoorWv
set_option linter.unusedVariables false
set_option linter.unusedSimpArgs false
namespace Go.Wk
open Go
def GoodE (k q o c p z i : Int) (s : ByteArray) : Prop := 1 ≤ q ∧ q ≤ 4611686018427387904 ∧
  ((k = 1 ∧ 1 ≤ c ∧ c ≤ 16 ∧ 0 ≤ o ∧ o ≤ 512 - c ∧ 5 ≤ p ∧ p ≤ 1024 - c ∧ 0 ≤ z ∧ z ≤ 262144 ∧ i = 0 ∧ s.size = 0) ∨
   (k = 2 ∧ o = 0 ∧ c = 0 ∧ p = 0 ∧ 0 ≤ z ∧ z ≤ 262144 ∧ i = 0 ∧ s.size = 0) ∨
   (k = 3 ∧ o = 0 ∧ c = 0 ∧ p = 0 ∧ z = 0 ∧ 2 ≤ i ∧ i ≤ 256 ∧ vN s = 1) ∨
   (k = 4 ∧ o = 0 ∧ c = 0 ∧ p = 0 ∧ z = 0 ∧ i = 0 ∧ vN s = 1))
instance (k q o c p z i : Int) (s : ByteArray) : Decidable (GoodE k q o c p z i s) := by unfold GoodE; infer_instance
theorem vN_le {s : ByteArray} (h : vN s = 1) : s.size ≤ 28 := by
  have := vN_T.2 h
  unfold validB at this
  simp only [Bool.and_eq_true, decide_eq_true_eq] at this
  exact this.1.1.1.2
theorem GoodE.size {k q o c p z i : Int} {s : ByteArray} (h : GoodE k q o c p z i s) : s.size ≤ 28 := by
  rcases h.2.2 with h | h | h | h
  · omega
  · omega
  · exact vN_le h.2.2.2.2.2.2.2
  · exact vN_le h.2.2.2.2.2.2
def entB (k n q f c p z : Nat) (nm : List UInt8) : List UInt8 := le 1 k ++ le 7 n ++ le 8 q ++ le 4 f ++ le 4 c ++ le 4 p ++ le 4 z ++ nm
theorem entB_length (k n q f c p z : Nat) (nm : List UInt8) : (entB k n q f c p z nm).length = 32 + nm.length := by simp [entB, le_length]; omega
theorem le_7 {n : Nat} (h : n < 256) : le 7 n = le 1 n ++ zs 6 := by
  simp only [le, show n / 256 = 0 by omega]
  rfl
theorem ent_head {k n : Nat} (h : n < 256) : le 1 k ++ le 7 n = [UInt8.ofNat k, UInt8.ofNat n, 0, 0, 0, 0, 0, 0] := by rw [le_7 h]; rfl
def packEntV (k q o c p z i : Int) (s : ByteArray) : Value := if GoodE k q o c p z i s then .tuple #[lineV (entB k.toNat s.size q.toNat (o + i).toNat c.toNat p.toNat z.toNat s.data.toList), .int .i64 0] else .tuple #[zline, .int .i64 34]
theorem packEnt_yes {k q o c p z i : Int} {s : ByteArray} (h : GoodE k q o c p z i s) : packEntV k q o c p z i s = .tuple #[lineV (entB k.toNat s.size q.toNat (o + i).toNat c.toNat p.toNat z.toNat s.data.toList), .int .i64 0] := if_pos h
theorem packEnt_no {k q o c p z i : Int} {s : ByteArray} (h : ¬ GoodE k q o c p z i s) : packEntV k q o c p z i s = .tuple #[zline, .int .i64 34] := if_neg h
def EntL (l : List UInt8) : Prop := lineL (entB (num l 0 1) (num l 1 1) (num l 8 8) (num l 16 4) (num l 20 4) (num l 24 4) (num l 28 4) ((l.drop 32).take (num l 1 1))) = l
instance (l : List UInt8) : Decidable (EntL l) := by unfold EntL; infer_instance
theorem entL_iff {l : List UInt8} (hl : l.length = 64) (hn : num l 1 1 ≤ 28) : EntL l ↔ wholeB l = true ∧ allZero ((l.drop 2).take 6) ∧ allZero ((l.drop (32 + num l 1 1)).take (28 - num l 1 1)) := by
  unfold EntL
  generalize hm : num l 1 1 = n at *
  have hnm : ((l.drop 32).take n).length = n := by simp; omega
  rw [whole_line (by rw [entB_length, hnm]; omega) hl, entB_length, hnm]
  have e : l.take 60 = (l.drop 0).take 1 ++ ((l.drop 1).take 1 ++ (l.drop 2).take 6) ++ (l.drop 8).take 8 ++ (l.drop 16).take 4 ++ (l.drop 20).take 4 ++ (l.drop 24).take 4 ++ (l.drop 28).take 4 ++ (l.drop 32).take n ++ (l.drop (32 + n)).take (28 - n) := by
    rw [show 60 = (32 + n) + (28 - n) by omega, take_add_drop, take_add_drop, show 32 = 28 + 4 from rfl, take_add_drop, show 28 = 24 + 4 from rfl, take_add_drop, show 24 = 20 + 4 from rfl, take_add_drop, show 20 = 16 + 4 from rfl, take_add_drop, show 16 = 8 + 8 from rfl, take_add_drop, show 8 = 1 + 7 from rfl, take_add_drop]
    rw [show (l.drop 1).take 7 = (l.drop 1).take 1 ++ (l.drop 2).take 6 from by rw [show 7 = 1 + 6 from rfl, take_add_drop, List.drop_drop], List.drop_zero]
  have h1 : le 1 n = (l.drop 1).take 1 := by rw [← hm]; exact le_num (by omega)
  rw [e, entB, le_7 (by omega), h1, le_num (by omega), le_num (by omega), le_num (by omega), le_num (by omega), le_num (by omega), le_num (by omega)]
  have h6 : ((l.drop 2).take 6).length = 6 := by simp; omega
  have hz : ((l.drop (32 + n)).take (28 - n)).length = 28 - n := by simp; omega
  simp only [List.append_assoc, List.append_cancel_left_eq, show 60 - (32 + n) = 28 - n by omega]
  constructor
  · rintro ⟨h0, h⟩
    have h2 := List.append_inj h (by rw [h6]; rfl)
    have h3 := h2.2
    simp only [List.append_cancel_left_eq] at h3
    exact ⟨h0, by rw [h2.1]; exact zs_allZero 6, by rw [h3]; exact zs_allZero _⟩
  · rintro ⟨h0, h2, h3⟩
    have h4 := allZero_eq h2
    have h5 := allZero_eq h3
    rw [h6] at h4
    rw [hz] at h5
    exact ⟨h0, by rw [h4, h5]⟩
def entO (l : List UInt8) : Int := if num l 0 1 = 3 then 0 else (num l 16 4 : Nat)
def entI (l : List UInt8) : Int := if num l 0 1 = 3 then (num l 16 4 : Nat) else 0
theorem ent_OI (l : List UInt8) : (entO l + entI l).toNat = num l 16 4 := by unfold entO entI; split <;> simp
theorem entO_3 {l : List UInt8} (h : num l 0 1 = 3) : entO l = 0 := if_pos h
theorem entI_3 {l : List UInt8} (h : num l 0 1 = 3) : entI l = (num l 16 4 : Nat) := if_pos h
theorem entO_n {l : List UInt8} (h : ¬ num l 0 1 = 3) : entO l = (num l 16 4 : Nat) := if_neg h
theorem entI_n {l : List UInt8} (h : ¬ num l 0 1 = 3) : entI l = 0 := if_neg h
def entN (l : List UInt8) : ByteArray := ⟨((l.drop 32).take (num l 1 1)).toArray⟩
theorem entN_size {l : List UInt8} (hl : l.length = 64) (hn : num l 1 1 ≤ 28) : (entN l).size = num l 1 1 := by
  rw [← size_len]; unfold entN; simp; omega
theorem entN_list (l : List UInt8) : (entN l).data.toList = (l.drop 32).take (num l 1 1) := by unfold entN; simp
def OkE (l : List UInt8) : Prop := num l 1 1 ≤ 28 ∧ GoodE (num l 0 1 : Nat) (num l 8 8 : Nat) (entO l) (num l 20 4 : Nat) (num l 24 4 : Nat) (num l 28 4 : Nat) (entI l) (entN l) ∧ EntL l
instance (l : List UInt8) : Decidable (OkE l) := by unfold OkE; infer_instance
def entV (l : List UInt8) : Value := .agg #[.int .i64 (num l 0 1 : Nat), .int .u64 (num l 8 8 : Nat), .int .i64 (entO l), .int .i64 (num l 20 4 : Nat), .int .i64 (num l 24 4 : Nat), .int .i64 (num l 28 4 : Nat), .int .i64 (entI l), .string (entN l)]
def noEntV : Value := .agg #[.int .i64 0, .int .u64 0, .int .i64 0, .int .i64 0, .int .i64 0, .int .i64 0, .int .i64 0, .string ⟨#[]⟩]
def openEntV (l : List UInt8) : Value := if OkE l then .tuple #[entV l, .int .i64 0] else .tuple #[noEntV, .int .i64 34]
theorem openEnt_yes {l : List UInt8} (h : OkE l) : openEntV l = .tuple #[entV l, .int .i64 0] := if_pos h
theorem openEnt_no {l : List UInt8} (h : ¬ OkE l) : openEntV l = .tuple #[noEntV, .int .i64 34] := if_neg h
/-- What the line of an entry with these fields is, if its fields are a line's own. -/
theorem entL_line {l : List UInt8} (hl : l.length = 64) (hn : num l 1 1 ≤ 28) : lineL (entB ((num l 0 1 : Nat) : Int).toNat (entN l).size ((num l 8 8 : Nat) : Int).toNat (entO l + entI l).toNat ((num l 20 4 : Nat) : Int).toNat ((num l 24 4 : Nat) : Int).toNat ((num l 28 4 : Nat) : Int).toNat (entN l).data.toList) = l ↔ EntL l := by
  rw [entN_size hl hn, ent_OI, entN_list]
  simp only [Int.toNat_natCast]
  exact Iff.rfl
end Go.Wk
