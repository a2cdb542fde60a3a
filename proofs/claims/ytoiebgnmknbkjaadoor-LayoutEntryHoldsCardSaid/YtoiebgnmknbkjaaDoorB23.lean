/- Good entries made; a good entry's line says it. -/
import Derived.Test.YtoiebgnmknbkjaaDoorB21
import Derived.Test.YtoiebgnmknbkjaaDoorC9
import Derived.Test.YtoiebgnmknbkjaaDoorWv
set_option linter.unusedVariables false
set_option linter.unusedSimpArgs false
namespace Go.Proofs.YtoiebgnmknbkjaaDoor
open Go Go.Wk

theorem valid_mk {l : List UInt8} (h0 : ¬ (ByteArray.mk l.toArray).size = 0) (h1 : ((ByteArray.mk l.toArray).toList == (ByteArray.mk #[46]).toList) = false) (h2 : ((ByteArray.mk l.toArray).toList == (ByteArray.mk #[46, 46]).toList) = false) (hl : l.length ≤ 28) (ha : l.all okc = true) : validB (ByteArray.mk l.toArray) = true :=
  valid_all (by rw [beqF]; omega) (by rw [decF, ← size_len]; simp; omega) h1 h2 (by simpa using ha)
theorem valid_a : validB (ByteArray.mk #[97]) = true := by decide
theorem okc_ne {c : UInt8} (h0 : ¬ (c.toNat : Int) = 0) (h1 : ¬ (c.toNat : Int) = 47) : okc c = true := by
  unfold okc
  rw [Bool.and_eq_true]
  constructor
  · simp; rintro rfl; exact h0 rfl
  · simp; rintro rfl; exact h1 rfl
def GoodEV (v : Value) : Prop := ∃ (k q o c p z i : Int) (s : ByteArray), v = .agg #[.int .i64 k, .int .u64 q, .int .i64 o, .int .i64 c, .int .i64 p, .int .i64 z, .int .i64 i, .string s] ∧ GoodE k q o c p z i s
theorem goodEV {k q o c p z i : Int} {s : ByteArray} (h : GoodE k q o c p z i s) : GoodEV (.agg #[.int .i64 k, .int .u64 q, .int .i64 o, .int .i64 c, .int .i64 p, .int .i64 z, .int .i64 i, .string s]) := ⟨k, q, o, c, p, z, i, s, rfl, h⟩
theorem num_at {a b m : List UInt8} {n x p : Nat} (e : m = a ++ (le n x ++ b)) (ha : a.length = p) (hx : x < 256 ^ n) : num m p n = x := by subst e; exact num_app ha hx
def goodLine (k q o c p z i : Int) (s : ByteArray) : List UInt8 := lineL (entB k.toNat s.size q.toNat (o + i).toNat c.toNat p.toNat z.toNat s.data.toList)
theorem ent_ok {k q o c p z i : Int} {s : ByteArray} (g : GoodE k q o c p z i s) : (goodLine k q o c p z i s).length = 64 ∧ OkE (goodLine k q o c p z i s) ∧ entV (goodLine k q o c p z i s) = .agg #[.int .i64 k, .int .u64 q, .int .i64 o, .int .i64 c, .int .i64 p, .int .i64 z, .int .i64 i, .string s] := by
  have hs := g.size
  have hss := size_len s
  have g' := g
  unfold GoodE at g'
  have hb : (entB k.toNat s.size q.toNat (o + i).toNat c.toNat p.toNat z.toNat s.data.toList).length ≤ 60 := by rw [entB_length, hss]; omega
  have hL : (goodLine k q o c p z i s).length = 64 := lineL_length hb
  have e : goodLine k q o c p z i s = (entB k.toNat s.size q.toNat (o + i).toNat c.toNat p.toNat z.toNat s.data.toList ++ zs (60 - (entB k.toNat s.size q.toNat (o + i).toNat c.toNat p.toNat z.toNat s.data.toList).length)) ++ le 4 (sumOn 0 (entB k.toNat s.size q.toNat (o + i).toNat c.toNat p.toNat z.toNat s.data.toList ++ zs (60 - (entB k.toNat s.size q.toNat (o + i).toNat c.toNat p.toNat z.toNat s.data.toList).length))).toNat := lineL_row hb
  generalize le 4 (sumOn 0 (entB k.toNat s.size q.toNat (o + i).toNat c.toNat p.toNat z.toNat s.data.toList ++ zs (60 - (entB k.toNat s.size q.toNat (o + i).toNat c.toNat p.toNat z.toNat s.data.toList).length))).toNat = s4 at e
  generalize zs (60 - (entB k.toNat s.size q.toNat (o + i).toNat c.toNat p.toNat z.toNat s.data.toList).length) = zz at e
  rw [entB, le_7 (by omega)] at e
  generalize hG : goodLine k q o c p z i s = L at *
  have n0 : num L 0 1 = k.toNat := num_at (a := []) (b := le 1 s.size ++ (zs 6 ++ (le 8 q.toNat ++ (le 4 (o + i).toNat ++ (le 4 c.toNat ++ (le 4 p.toNat ++ (le 4 z.toNat ++ (s.data.toList ++ (zz ++ s4))))))))) (by rw [e]; simp only [List.append_assoc, List.nil_append]) rfl (by omega)
  have n1 : num L 1 1 = s.size := num_at (a := le 1 k.toNat) (b := zs 6 ++ (le 8 q.toNat ++ (le 4 (o + i).toNat ++ (le 4 c.toNat ++ (le 4 p.toNat ++ (le 4 z.toNat ++ (s.data.toList ++ (zz ++ s4)))))))) (by rw [e]; simp only [List.append_assoc]) (le_length ..) (by omega)
  have n8 : num L 8 8 = q.toNat := num_at (a := le 1 k.toNat ++ (le 1 s.size ++ zs 6)) (b := le 4 (o + i).toNat ++ (le 4 c.toNat ++ (le 4 p.toNat ++ (le 4 z.toNat ++ (s.data.toList ++ (zz ++ s4)))))) (by rw [e]; simp only [List.append_assoc]) (by simp [le_length, zs]) (by omega)
  have n16 : num L 16 4 = (o + i).toNat := num_at (a := le 1 k.toNat ++ (le 1 s.size ++ zs 6) ++ le 8 q.toNat) (b := le 4 c.toNat ++ (le 4 p.toNat ++ (le 4 z.toNat ++ (s.data.toList ++ (zz ++ s4))))) (by rw [e]; simp only [List.append_assoc]) (by simp [le_length, zs]) (by omega)
  have n20 : num L 20 4 = c.toNat := num_at (a := le 1 k.toNat ++ (le 1 s.size ++ zs 6) ++ le 8 q.toNat ++ le 4 (o + i).toNat) (b := le 4 p.toNat ++ (le 4 z.toNat ++ (s.data.toList ++ (zz ++ s4)))) (by rw [e]; simp only [List.append_assoc]) (by simp [le_length, zs]) (by omega)
  have n24 : num L 24 4 = p.toNat := num_at (a := le 1 k.toNat ++ (le 1 s.size ++ zs 6) ++ le 8 q.toNat ++ le 4 (o + i).toNat ++ le 4 c.toNat) (b := le 4 z.toNat ++ (s.data.toList ++ (zz ++ s4))) (by rw [e]; simp only [List.append_assoc]) (by simp [le_length, zs]) (by omega)
  have n28 : num L 28 4 = z.toNat := num_at (a := le 1 k.toNat ++ (le 1 s.size ++ zs 6) ++ le 8 q.toNat ++ le 4 (o + i).toNat ++ le 4 c.toNat ++ le 4 p.toNat) (b := s.data.toList ++ (zz ++ s4)) (by rw [e]; simp only [List.append_assoc]) (by simp [le_length, zs]) (by omega)
  have nm : (L.drop 32).take (num L 1 1) = s.data.toList := by
    have e32 : L = (le 1 k.toNat ++ (le 1 s.size ++ zs 6) ++ le 8 q.toNat ++ le 4 (o + i).toNat ++ le 4 c.toNat ++ le 4 p.toNat ++ le 4 z.toNat) ++ (s.data.toList ++ (zz ++ s4)) := by rw [e]; simp only [List.append_assoc]
    rw [n1, e32, List.drop_left' (by simp [le_length, zs]), List.take_left' hss]
  have hN : entN L = s := by unfold entN; rw [nm]
  have hO : entO L = o := by
    by_cases h3 : num L 0 1 = 3
    · rw [entO_3 h3]; omega
    · rw [entO_n h3, n16]; omega
  have hI : entI L = i := by
    by_cases h3 : num L 0 1 = 3
    · rw [entI_3 h3, n16]; omega
    · rw [entI_n h3]; omega
  have ek : ((num L 0 1 : Nat) : Int) = k := by rw [n0]; omega
  have eq_ : ((num L 8 8 : Nat) : Int) = q := by rw [n8]; omega
  have ec : ((num L 20 4 : Nat) : Int) = c := by rw [n20]; omega
  have ep : ((num L 24 4 : Nat) : Int) = p := by rw [n24]; omega
  have ez : ((num L 28 4 : Nat) : Int) = z := by rw [n28]; omega
  refine ⟨hL, ⟨by omega, by rw [ek, eq_, ec, ep, ez, hO, hI, hN]; exact g, ?_⟩, by unfold entV; rw [ek, eq_, ec, ep, ez, hO, hI, hN]⟩
  unfold EntL
  rw [nm, n0, n1, n8, n16, n20, n24, n28]
  exact hG
theorem ent_whole {l : List UInt8} (hl : l.length = 64) (h : OkE l) : wholeB l = true := ((entL_iff hl h.1).1 h.2.2).1

theorem name_x (s : ByteArray) (w : World) (hlen : s.size ≤ 9223372036854775807) :
    SomeC Tryd.prog 113 [.string s] (fun v => ∃ t, v = .string t ∧ validB t = true) w := by
  refine enter0 Tryd.func113 rfl Tryd.ntmps113 rfl ?_
  have hs : s.size = s.data.toList.length := Array.length_toList.symm
  simp only [envOf]
  refine At.seq ?_
  refine At.region ?_
  refine At.val (Val.assign rfl) rfl rfl rfl ?_
  refine At.nil ?_
  refine At.thenN ?_
  refine At.seq ?_
  refine At.region ?_
  refine At.val (Val.assign rfl) rfl rfl rfl ?_
  refine At.nil ?_
  refine At.rowNilB 5 ?_
  refine At.thenN ?_
  refine At.seq ?_
  refine At.seq ?_
  refine At.region ?_
  refine At.val (Val.assign rfl) rfl rfl rfl ?_
  refine At.nil ?_
  refine At.thenN ?_
  refine At.block ?_
  skip
  refine At.loop (σ := Nat × List UInt8 × Value) (fun s' => s'.1 ≤ s.data.toList.length ∧ s'.2.1.length ≤ 28 ∧ s'.2.1.all okc = true) (fun s' => [(0, .string s), (3, s'.2.2), (4, .int .i64 (s'.1 : Int))]) (fun s' => [brow 5 s'.2.2 s'.2.1]) (fun s' => s.data.toList.length - s'.1) (0, [], .slice none 0 0) ⟨Nat.zero_le _, by decide, rfl⟩ (Sub.cons rfl (Sub.cons rfl (Sub.cons rfl Sub.nil))) (List.Perm.refl _) ?_
  intro s' hs'
  obtain ⟨k, out, vk⟩ := s'
  obtain ⟨hk0, ho28, hall⟩ := hs'
  dsimp only at hk0 ho28 hall ⊢
  refine At.seq ?_
  refine At.seq ?_
  refine At.region ?_
  refine At.val (Val.move rfl) rfl rfl rfl ?_
  refine At.val (Val.move rfl) rfl rfl rfl ?_
  refine At.val (Val.lenStr Tryd.underlying9 rfl) rfl rfl rfl ?_
  refine At.val (Val.bin rfl rfl rfl) rfl rfl rfl ?_
  refine At.val (Val.move rfl) rfl rfl rfl ?_
  refine At.split (t := 10) rfl (fun h1 => ?_) (fun h1 => ?_)
  · skip
    try simp only [vN_T, vN_F, nmE_T, nmE_F, wI_T, wI_F, data_T, data_F, ino_T, ino_F, notT, notF, bneT, bneF, beqT, beqF, decT, decF] at h1
    refine At.yes rfl rfl ?_
    refine At.val (Val.move rfl) rfl rfl rfl ?_
    refine At.yes rfl rfl ?_
    refine At.val (Val.lenRow (i := 0) Tryd.underlying54 rfl rfl) rfl rfl rfl ?_
    refine At.yes rfl rfl ?_
    refine At.val (Val.bin rfl rfl rfl) rfl rfl rfl ?_
    refine At.val (Val.pickT rfl rfl) rfl rfl rfl ?_
    refine At.nil ?_
    refine At.thenN ?_
    refine At.cond rfl (fun h2 => ?_) (fun h2 => ?_)
    · skip
      try simp only [vN_T, vN_F, nmE_T, nmE_F, wI_T, wI_F, data_T, data_F, ino_T, ino_F, notT, notF, bneT, bneF, beqT, beqF, decT, decF] at h2
      have hk : k < s.data.toList.length := by omega
      obtain ⟨c, hc⟩ : ∃ c, s.data.toList[k]? = some c := ⟨_, List.getElem?_eq_getElem hk⟩
      have hout : out.length < 28 := by omega
      refine At.skipC ?_
      refine At.thenN ?_
      refine At.seq ?_
      refine At.block ?_
      refine At.seq ?_
      refine At.region ?_
      refine At.val (Val.move rfl) rfl rfl rfl ?_
      refine At.val (Val.move rfl) rfl rfl rfl ?_
      refine At.val (Val.indexStr Tryd.underlying9 rfl rfl (c := c) (by omega) (str_get hc)) rfl rfl rfl ?_
      refine At.val (Val.bin rfl rfl rfl) rfl rfl rfl ?_
      refine At.val (Val.move rfl) rfl rfl rfl ?_
      refine At.split (t := 21) rfl (fun h3 => ?_) (fun h3 => ?_)
      · skip
        try simp only [vN_T, vN_F, nmE_T, nmE_F, wI_T, wI_F, data_T, data_F, ino_T, ino_F, notT, notF, bneT, bneF, beqT, beqF, decT, decF] at h3
        refine At.yes rfl rfl ?_
        refine At.val (Val.move rfl) rfl rfl rfl ?_
        refine At.yes rfl rfl ?_
        refine At.val (Val.move rfl) rfl rfl rfl ?_
        refine At.yes rfl rfl ?_
        refine At.val (Val.indexStr Tryd.underlying9 rfl rfl (c := c) (by omega) (str_get hc)) rfl rfl rfl ?_
        refine At.yes rfl rfl ?_
        refine At.val (Val.bin rfl rfl rfl) rfl rfl rfl ?_
        refine At.val (Val.pickT rfl rfl) rfl rfl rfl ?_
        refine At.nil ?_
        refine At.thenN ?_
        refine At.cond rfl (fun h4 => ?_) (fun h4 => ?_)
        · skip
          try simp only [vN_T, vN_F, nmE_T, nmE_F, wI_T, wI_F, data_T, data_F, ino_T, ino_F, notT, notF, bneT, bneF, beqT, beqF, decT, decF] at h4
          have hok : okc c = true := okc_ne (by assumption) (by assumption)
          refine At.region ?_
          refine At.val (Val.move rfl) rfl rfl rfl ?_
          refine At.val (Val.move rfl) rfl rfl rfl ?_
          refine At.val (Val.move rfl) rfl rfl rfl ?_
          refine At.val (Val.indexStr Tryd.underlying9 rfl rfl (c := c) (by omega) (str_get hc)) rfl rfl rfl ?_
          refine At.buildSl (fun a ha => by simp only [List.map_toArray, List.map_cons, List.map_nil, ha.eval (x := (.tmp 30)) rfl]; try rfl) (bs_54_1 _ ) rfl (fun b5 => ?_)
          refine At.appendB1 (i := 1) (j := 0) (by_ := 1) Tryd.underlying54 info_5 rfl rfl rfl rfl rfl rfl rfl rfl (by omega) (by omega) rfl (fun v6 => ?_)
          simp only [List.set_cons_zero, List.set_cons_succ]
          refine At.drop 0 ?_
          simp only [List.eraseIdx_cons_zero, List.eraseIdx_cons_succ]
          refine At.val (Val.assign rfl) rfl rfl rfl ?_
          refine At.nil ?_
          refine At.blkN ?_
          refine At.thenN ?_
          refine At.region ?_
          refine At.val (Val.move rfl) rfl rfl rfl ?_
          first | refine At.val (Val.addI rfl rfl (by omega) (by omega)) rfl rfl rfl ?_ | refine At.val (Val.bin rfl rfl rfl) rfl rfl rfl ?_
          refine At.val (Val.assign rfl) rfl rfl rfl ?_
          refine At.nil ?_
          refine At.thenN ?_
          exact At.again (k + 1, out ++ [c], v6) ⟨show k + 1 ≤ _ by omega, show (out ++ [c]).length ≤ 28 by rw [List.length_append]; simp; omega, show (out ++ [c]).all okc = true by rw [List.all_append, hall]; simp [hok]⟩ (by dsimp only; omega) (Sub.cons rfl (Sub.cons rfl (Sub.cons (congrArg (fun z => some (Value.int IntKind.i64 z)) (by omega)) Sub.nil))) (List.Perm.refl _)
        · skip
          try simp only [vN_T, vN_F, nmE_T, nmE_F, wI_T, wI_F, data_T, data_F, ino_T, ino_F, notT, notF, bneT, bneF, beqT, beqF, decT, decF] at h4
          refine At.skipC ?_
          refine At.blkN ?_
          refine At.thenN ?_
          refine At.region ?_
          refine At.val (Val.move rfl) rfl rfl rfl ?_
          first | refine At.val (Val.addI rfl rfl (by omega) (by omega)) rfl rfl rfl ?_ | refine At.val (Val.bin rfl rfl rfl) rfl rfl rfl ?_
          refine At.val (Val.assign rfl) rfl rfl rfl ?_
          refine At.nil ?_
          refine At.thenN ?_
          exact At.again (k + 1, out, vk) ⟨show k + 1 ≤ _ by omega, ho28, hall⟩ (by dsimp only; omega) (Sub.cons rfl (Sub.cons rfl (Sub.cons (congrArg (fun z => some (Value.int IntKind.i64 z)) (by omega)) Sub.nil))) (List.Perm.refl _)
      · skip
        try simp only [vN_T, vN_F, nmE_T, nmE_F, wI_T, wI_F, data_T, data_F, ino_T, ino_F, notT, notF, bneT, bneF, beqT, beqF, decT, decF] at h3
        refine At.no rfl rfl rfl rfl ?_
        refine At.no rfl rfl rfl rfl ?_
        refine At.no rfl rfl rfl rfl ?_
        refine At.no rfl rfl rfl rfl ?_
        refine At.val (Val.pickF rfl rfl) rfl rfl rfl ?_
        refine At.nil ?_
        refine At.thenN ?_
        refine At.condF rfl ?_
        refine At.skipC ?_
        refine At.blkN ?_
        refine At.thenN ?_
        refine At.region ?_
        refine At.val (Val.move rfl) rfl rfl rfl ?_
        first | refine At.val (Val.addI rfl rfl (by omega) (by omega)) rfl rfl rfl ?_ | refine At.val (Val.bin rfl rfl rfl) rfl rfl rfl ?_
        refine At.val (Val.assign rfl) rfl rfl rfl ?_
        refine At.nil ?_
        refine At.thenN ?_
        exact At.again (k + 1, out, vk) ⟨show k + 1 ≤ _ by omega, ho28, hall⟩ (by dsimp only; omega) (Sub.cons rfl (Sub.cons rfl (Sub.cons (congrArg (fun z => some (Value.int IntKind.i64 z)) (by omega)) Sub.nil))) (List.Perm.refl _)
    · skip
      try simp only [vN_T, vN_F, nmE_T, nmE_F, wI_T, wI_F, data_T, data_F, ino_T, ino_F, notT, notF, bneT, bneF, beqT, beqF, decT, decF] at h2
      refine At.exitC ?_
      refine At.thenX ?_
      refine At.thenX ?_
      refine At.blkX ?_
      refine At.thenN ?_
      refine At.seq ?_
      refine At.region ?_
      refine At.val (Val.move rfl) rfl rfl rfl ?_
      refine At.val (Val.strRd (l := out) Tryd.underlying54 Tryd.underlying5 Tryd.underlying9 rfl (fun w hw => row_rd (hw.row (i := 0) rfl) (by decide))) rfl rfl rfl ?_
      refine At.val (Val.assign rfl) rfl rfl rfl ?_
      refine At.nil ?_
      refine At.thenN ?_
      refine At.seq ?_
      refine At.seq ?_
      refine At.region ?_
      refine At.val (Val.move rfl) rfl rfl rfl ?_
      refine At.val (Val.seq_ rfl rfl) rfl rfl rfl ?_
      refine At.val (Val.move rfl) rfl rfl rfl ?_
      refine At.split (t := 37) rfl (fun h7 => ?_) (fun h7 => ?_)
      · skip
        try simp only [vN_T, vN_F, nmE_T, nmE_F, wI_T, wI_F, data_T, data_F, ino_T, ino_F, notT, notF, bneT, bneF, beqT, beqF, decT, decF] at h7
        refine At.no rfl rfl rfl rfl ?_
        refine At.no rfl rfl rfl rfl ?_
        refine At.val (Val.pickT rfl rfl) rfl rfl rfl ?_
        refine At.val (Val.move rfl) rfl rfl rfl ?_
        refine At.no rfl rfl rfl rfl ?_
        refine At.no rfl rfl rfl rfl ?_
        refine At.val (Val.pickT rfl rfl) rfl rfl rfl ?_
        refine At.nil ?_
        refine At.thenN ?_
        refine At.condT rfl ?_
        refine At.seq ?_
        refine At.region ?_
        refine At.val (Val.assign rfl) rfl rfl rfl ?_
        refine At.nil ?_
        refine At.thenN ?_
        refine At.retC ?_
        refine At.thenR ?_
        refine At.ret1 (.inl rfl) rfl rfl rfl (fun w hw => ?_)
        first | exact ⟨_, ⟨_, rfl, valid_a⟩, rfl, hw.mod⟩ | exact ⟨_, ⟨_, rfl, valid_mk (by first | assumption | omega) (by assumption) (by assumption) ho28 hall⟩, rfl, hw.mod⟩
      · skip
        try simp only [vN_T, vN_F, nmE_T, nmE_F, wI_T, wI_F, data_T, data_F, ino_T, ino_F, notT, notF, bneT, bneF, beqT, beqF, decT, decF] at h7
        refine At.yes rfl rfl ?_
        refine At.val (Val.move rfl) rfl rfl rfl ?_
        refine At.yes rfl rfl ?_
        refine At.val (Val.seq_ rfl rfl) rfl rfl rfl ?_
        refine At.val (Val.pickF rfl rfl) rfl rfl rfl ?_
        refine At.val (Val.move rfl) rfl rfl rfl ?_
        refine At.split (t := 41) rfl (fun h8 => ?_) (fun h8 => ?_)
        · skip
          try simp only [vN_T, vN_F, nmE_T, nmE_F, wI_T, wI_F, data_T, data_F, ino_T, ino_F, notT, notF, bneT, bneF, beqT, beqF, decT, decF] at h8
          refine At.no rfl rfl rfl rfl ?_
          refine At.no rfl rfl rfl rfl ?_
          refine At.val (Val.pickT rfl rfl) rfl rfl rfl ?_
          refine At.nil ?_
          refine At.thenN ?_
          refine At.condT rfl ?_
          refine At.seq ?_
          refine At.region ?_
          refine At.val (Val.assign rfl) rfl rfl rfl ?_
          refine At.nil ?_
          refine At.thenN ?_
          refine At.retC ?_
          refine At.thenR ?_
          refine At.ret1 (.inl rfl) rfl rfl rfl (fun w hw => ?_)
          first | exact ⟨_, ⟨_, rfl, valid_a⟩, rfl, hw.mod⟩ | exact ⟨_, ⟨_, rfl, valid_mk (by first | assumption | omega) (by assumption) (by assumption) ho28 hall⟩, rfl, hw.mod⟩
        · skip
          try simp only [vN_T, vN_F, nmE_T, nmE_F, wI_T, wI_F, data_T, data_F, ino_T, ino_F, notT, notF, bneT, bneF, beqT, beqF, decT, decF] at h8
          refine At.yes rfl rfl ?_
          refine At.val (Val.move rfl) rfl rfl rfl ?_
          refine At.yes rfl rfl ?_
          refine At.val (Val.seq_ rfl rfl) rfl rfl rfl ?_
          refine At.val (Val.pickF rfl rfl) rfl rfl rfl ?_
          refine At.nil ?_
          refine At.thenN ?_
          refine At.cond rfl (fun h9 => ?_) (fun h9 => ?_)
          · skip
            try simp only [vN_T, vN_F, nmE_T, nmE_F, wI_T, wI_F, data_T, data_F, ino_T, ino_F, notT, notF, bneT, bneF, beqT, beqF, decT, decF] at h9
            refine At.seq ?_
            refine At.region ?_
            refine At.val (Val.assign rfl) rfl rfl rfl ?_
            refine At.nil ?_
            refine At.thenN ?_
            refine At.retC ?_
            refine At.thenR ?_
            refine At.ret1 (.inl rfl) rfl rfl rfl (fun w hw => ?_)
            first | exact ⟨_, ⟨_, rfl, valid_a⟩, rfl, hw.mod⟩ | exact ⟨_, ⟨_, rfl, valid_mk (by first | assumption | omega) (by assumption) (by assumption) ho28 hall⟩, rfl, hw.mod⟩
          · skip
            try simp only [vN_T, vN_F, nmE_T, nmE_F, wI_T, wI_F, data_T, data_F, ino_T, ino_F, notT, notF, bneT, bneF, beqT, beqF, decT, decF] at h9
            refine At.skipC ?_
            refine At.thenN ?_
            refine At.seq ?_
            refine At.region ?_
            refine At.val (Val.move rfl) rfl rfl rfl ?_
            refine At.val (Val.assign rfl) rfl rfl rfl ?_
            refine At.nil ?_
            refine At.thenN ?_
            refine At.retC ?_
            refine At.ret1 (.inl rfl) rfl rfl rfl (fun w hw => ?_)
            first | exact ⟨_, ⟨_, rfl, valid_a⟩, rfl, hw.mod⟩ | exact ⟨_, ⟨_, rfl, valid_mk (by first | assumption | omega) (by assumption) (by assumption) ho28 hall⟩, rfl, hw.mod⟩
  · skip
    try simp only [vN_T, vN_F, nmE_T, nmE_F, wI_T, wI_F, data_T, data_F, ino_T, ino_F, notT, notF, bneT, bneF, beqT, beqF, decT, decF] at h1
    refine At.no rfl rfl rfl rfl ?_
    refine At.no rfl rfl rfl rfl ?_
    refine At.no rfl rfl rfl rfl ?_
    refine At.val (Val.pickF rfl rfl) rfl rfl rfl ?_
    refine At.nil ?_
    refine At.thenN ?_
    refine At.condF rfl ?_
    refine At.exitC ?_
    refine At.thenX ?_
    refine At.thenX ?_
    refine At.blkX ?_
    refine At.thenN ?_
    refine At.seq ?_
    refine At.region ?_
    refine At.val (Val.move rfl) rfl rfl rfl ?_
    refine At.val (Val.strRd (l := out) Tryd.underlying54 Tryd.underlying5 Tryd.underlying9 rfl (fun w hw => row_rd (hw.row (i := 0) rfl) (by decide))) rfl rfl rfl ?_
    refine At.val (Val.assign rfl) rfl rfl rfl ?_
    refine At.nil ?_
    refine At.thenN ?_
    refine At.seq ?_
    refine At.seq ?_
    refine At.region ?_
    refine At.val (Val.move rfl) rfl rfl rfl ?_
    refine At.val (Val.seq_ rfl rfl) rfl rfl rfl ?_
    refine At.val (Val.move rfl) rfl rfl rfl ?_
    refine At.split (t := 37) rfl (fun h10 => ?_) (fun h10 => ?_)
    · skip
      try simp only [vN_T, vN_F, nmE_T, nmE_F, wI_T, wI_F, data_T, data_F, ino_T, ino_F, notT, notF, bneT, bneF, beqT, beqF, decT, decF] at h10
      refine At.no rfl rfl rfl rfl ?_
      refine At.no rfl rfl rfl rfl ?_
      refine At.val (Val.pickT rfl rfl) rfl rfl rfl ?_
      refine At.val (Val.move rfl) rfl rfl rfl ?_
      refine At.no rfl rfl rfl rfl ?_
      refine At.no rfl rfl rfl rfl ?_
      refine At.val (Val.pickT rfl rfl) rfl rfl rfl ?_
      refine At.nil ?_
      refine At.thenN ?_
      refine At.condT rfl ?_
      refine At.seq ?_
      refine At.region ?_
      refine At.val (Val.assign rfl) rfl rfl rfl ?_
      refine At.nil ?_
      refine At.thenN ?_
      refine At.retC ?_
      refine At.thenR ?_
      refine At.ret1 (.inl rfl) rfl rfl rfl (fun w hw => ?_)
      first | exact ⟨_, ⟨_, rfl, valid_a⟩, rfl, hw.mod⟩ | exact ⟨_, ⟨_, rfl, valid_mk (by first | assumption | omega) (by assumption) (by assumption) ho28 hall⟩, rfl, hw.mod⟩
    · skip
      try simp only [vN_T, vN_F, nmE_T, nmE_F, wI_T, wI_F, data_T, data_F, ino_T, ino_F, notT, notF, bneT, bneF, beqT, beqF, decT, decF] at h10
      refine At.yes rfl rfl ?_
      refine At.val (Val.move rfl) rfl rfl rfl ?_
      refine At.yes rfl rfl ?_
      refine At.val (Val.seq_ rfl rfl) rfl rfl rfl ?_
      refine At.val (Val.pickF rfl rfl) rfl rfl rfl ?_
      refine At.val (Val.move rfl) rfl rfl rfl ?_
      refine At.split (t := 41) rfl (fun h11 => ?_) (fun h11 => ?_)
      · skip
        try simp only [vN_T, vN_F, nmE_T, nmE_F, wI_T, wI_F, data_T, data_F, ino_T, ino_F, notT, notF, bneT, bneF, beqT, beqF, decT, decF] at h11
        refine At.no rfl rfl rfl rfl ?_
        refine At.no rfl rfl rfl rfl ?_
        refine At.val (Val.pickT rfl rfl) rfl rfl rfl ?_
        refine At.nil ?_
        refine At.thenN ?_
        refine At.condT rfl ?_
        refine At.seq ?_
        refine At.region ?_
        refine At.val (Val.assign rfl) rfl rfl rfl ?_
        refine At.nil ?_
        refine At.thenN ?_
        refine At.retC ?_
        refine At.thenR ?_
        refine At.ret1 (.inl rfl) rfl rfl rfl (fun w hw => ?_)
        first | exact ⟨_, ⟨_, rfl, valid_a⟩, rfl, hw.mod⟩ | exact ⟨_, ⟨_, rfl, valid_mk (by first | assumption | omega) (by assumption) (by assumption) ho28 hall⟩, rfl, hw.mod⟩
      · skip
        try simp only [vN_T, vN_F, nmE_T, nmE_F, wI_T, wI_F, data_T, data_F, ino_T, ino_F, notT, notF, bneT, bneF, beqT, beqF, decT, decF] at h11
        refine At.yes rfl rfl ?_
        refine At.val (Val.move rfl) rfl rfl rfl ?_
        refine At.yes rfl rfl ?_
        refine At.val (Val.seq_ rfl rfl) rfl rfl rfl ?_
        refine At.val (Val.pickF rfl rfl) rfl rfl rfl ?_
        refine At.nil ?_
        refine At.thenN ?_
        refine At.cond rfl (fun h12 => ?_) (fun h12 => ?_)
        · skip
          try simp only [vN_T, vN_F, nmE_T, nmE_F, wI_T, wI_F, data_T, data_F, ino_T, ino_F, notT, notF, bneT, bneF, beqT, beqF, decT, decF] at h12
          refine At.seq ?_
          refine At.region ?_
          refine At.val (Val.assign rfl) rfl rfl rfl ?_
          refine At.nil ?_
          refine At.thenN ?_
          refine At.retC ?_
          refine At.thenR ?_
          refine At.ret1 (.inl rfl) rfl rfl rfl (fun w hw => ?_)
          first | exact ⟨_, ⟨_, rfl, valid_a⟩, rfl, hw.mod⟩ | exact ⟨_, ⟨_, rfl, valid_mk (by first | assumption | omega) (by assumption) (by assumption) ho28 hall⟩, rfl, hw.mod⟩
        · skip
          try simp only [vN_T, vN_F, nmE_T, nmE_F, wI_T, wI_F, data_T, data_F, ino_T, ino_F, notT, notF, bneT, bneF, beqT, beqF, decT, decF] at h12
          refine At.skipC ?_
          refine At.thenN ?_
          refine At.seq ?_
          refine At.region ?_
          refine At.val (Val.move rfl) rfl rfl rfl ?_
          refine At.val (Val.assign rfl) rfl rfl rfl ?_
          refine At.nil ?_
          refine At.thenN ?_
          refine At.retC ?_
          refine At.ret1 (.inl rfl) rfl rfl rfl (fun w hw => ?_)
          first | exact ⟨_, ⟨_, rfl, valid_a⟩, rfl, hw.mod⟩ | exact ⟨_, ⟨_, rfl, valid_mk (by first | assumption | omega) (by assumption) (by assumption) ho28 hall⟩, rfl, hw.mod⟩

theorem entry_x (n0 n1 n2 n3 n4 at' : Int) (X : BitVec 64) (s : ByteArray) (F : BitVec 32) (w : World) (hlen : s.size ≤ 9223372036854775807) :
    SomeC Tryd.prog 57 [.agg #[.int .i64 n0, .int .i64 n1, .int .i64 n2, .int .i64 n3, .int .i64 n4, b64 X, .string s, .int .i64 at', b32 F]] GoodEV w := by
  refine enter0 Tryd.func57 rfl Tryd.ntmps57 rfl ?_
  have hX := X.isLt
  have a0 := Int.emod_nonneg n1 (show 512 - (1 + n2 % 16) + 1 ≠ 0 by omega)
  have a1 := Int.emod_lt_of_pos n1 (show 0 < 512 - (1 + n2 % 16) + 1 by omega)
  have c0 := Int.emod_nonneg n3 (show 1019 - (1 + n2 % 16) + 1 ≠ 0 by omega)
  have c1 := Int.emod_lt_of_pos n3 (show 0 < 1019 - (1 + n2 % 16) + 1 by omega)
  obtain ⟨qq, hqq⟩ : ∃ q : Int, q = 1 + (X.toNat : Int) % 4611686018427387904 := ⟨_, rfl⟩
  have hv0 : vN (ByteArray.mk #[]) = 0 := by decide
  have hs0 : (ByteArray.mk #[]).size = 0 := rfl
  simp only [envOf]
  refine At.seq ?_
  refine At.region ?_
  refine At.box rfl rfl rfl (fun b1 => ?_)
  refine At.alloc Tryd.zeroValue92 rfl rfl (fun b2 => ?_)
  refine At.nil ?_
  refine At.thenN ?_
  refine At.seq ?_
  apply At.any (t := 10)
  · rfl
  refine KAt.take 0 (Val.field 0 rfl fo_98_0 rfl) rfl rfl rfl rfl (fun w hw => hw) (by decide +kernel) ?_
  refine KAt.take 1 (Val.load (i := 1) Tryd.isAgg3 rfl rfl rfl) rfl rfl rfl rfl (fun w hw => hw) (by decide +kernel) ?_
  refine KAt.take 4 (Val.field 5 rfl fo_98_5 rfl) rfl rfl rfl rfl (fun w hw => hw) (by decide +kernel) ?_
  refine KAt.take 5 (Val.load (i := 1) Tryd.isAgg40 rfl rfl rfl) rfl rfl rfl rfl (fun w hw => hw) (by decide +kernel) ?_
  first | refine KAt.take 6 (Val.remI rfl rfl (by omega) (by decide)) rfl rfl rfl rfl (fun w hw => hw) (by decide +kernel) ?_ | refine KAt.take 6 (Val.rem rfl rfl (by decide)) rfl rfl rfl rfl (fun w hw => hw) (by decide +kernel) ?_
  refine KAt.take 7 (Val.bin rfl rfl rfl) rfl rfl rfl rfl (fun w hw => hw) (by decide +kernel) ?_
  rw [wrap_u64 (n := 1 + (X.toNat : Int) % 4611686018427387904) (by omega) (by omega), ← hqq]
  refine KAt.two 2 9 rfl rfl (by decide +kernel) ?_ ?_
  · skip
    refine At.callP (fun w hw => mod_p _ _ w (by omega) (by omega)) Tryd.call32 rfl rfl ?_
    refine At.nil ?_
    refine KAt.go (fun w hw => hw) ?_
    first | refine KAt.take 3 (Val.addI rfl rfl (by omega) (by omega)) rfl rfl rfl rfl (fun w hw => hw) (by decide +kernel) ?_ | refine KAt.take 3 (Val.bin rfl rfl rfl) rfl rfl rfl rfl (fun w hw => hw) (by decide +kernel) ?_
    refine KAt.take 8 (Val.build (fun a ha => by simp only [List.map_toArray, List.map_cons, List.map_nil, ha.eval (x := (.tmp 7)) rfl, ha.eval (x := (.tmp 11)) rfl] <;> rfl) (bld_92_0_1 _ _ )) rfl rfl rfl rfl (fun w hw => hw) (by decide +kernel) ?_
    refine KAt.only 9 rfl (by decide +kernel) ?_
    refine At.alloc Tryd.zeroValue92 rfl rfl (fun b3 => ?_)
    refine At.nil ?_
    refine KAt.go (fun w hw => hw.drop (List.Sublist.cons _ (List.Sublist.cons_cons _ (List.Sublist.cons_cons _ (List.Sublist.refl _))))) ?_
    refine KAt.only 10 rfl (by decide +kernel) ?_
    refine At.storeAll (i := 0) Tryd.sizeOf92 rfl rfl rfl (by simp [Value.oneCell']) rfl rfl ?_
    simp only [List.set_cons_zero, List.set_cons_succ]
    refine At.nil ?_
    refine KAt.goT rfl ?_
    refine KAt.done (by decide +kernel) ?_
    refine At.thenN ?_
    refine At.seq ?_
    refine At.seq ?_
    refine At.region ?_
    refine At.val (Val.field 0 rfl fo_92_0 rfl) rfl rfl rfl ?_
    refine At.val (Val.load (i := 0) Tryd.isAgg3 rfl rfl rfl) rfl rfl rfl ?_
    refine At.nil ?_
    refine At.thenN ?_
    refine At.block ?_
    refine At.seq ?_
    refine At.region ?_
    refine At.val (Val.bin rfl rfl rfl) rfl rfl rfl ?_
    refine At.val (Val.assign rfl) rfl rfl rfl ?_
    refine At.nil ?_
    refine At.thenN ?_
    refine At.cond rfl (fun h4 => ?_) (fun h4 => ?_)
    · skip
      try simp only [vN_T, vN_F, nmE_T, nmE_F, wI_T, wI_F, data_T, data_F, ino_T, ino_F, notT, notF, bneT, bneF, beqT, beqF, decT, decF] at h4
      refine At.seq ?_
      refine At.region ?_
      refine At.val (Val.field 2 rfl fo_98_2 rfl) rfl rfl rfl ?_
      refine At.val (Val.load (i := 2) Tryd.isAgg3 rfl rfl rfl) rfl rfl rfl ?_
      refine At.callP (fun w hw => mod_p _ _ w (by omega) (by omega)) Tryd.call32 rfl rfl ?_
      first | refine At.val (Val.addI rfl rfl (by omega) (by omega)) rfl rfl rfl ?_ | refine At.val (Val.bin rfl rfl rfl) rfl rfl rfl ?_
      refine At.val (Val.field 3 rfl fo_92_3 rfl) rfl rfl rfl ?_
      refine At.store (i := 0) Tryd.sizeOf3 rfl rfl rfl rfl (by first | decide | simp) ?_
      simp only [List.set_cons_zero, List.set_cons_succ]
      refine At.nil ?_
      refine At.thenN ?_
      refine At.seq ?_
      refine At.region ?_
      refine At.val (Val.field 1 rfl fo_98_1 rfl) rfl rfl rfl ?_
      refine At.val (Val.load (i := 2) Tryd.isAgg3 rfl rfl rfl) rfl rfl rfl ?_
      refine At.val (Val.field 3 rfl fo_92_3 rfl) rfl rfl rfl ?_
      refine At.val (Val.load (i := 0) Tryd.isAgg3 rfl rfl rfl) rfl rfl rfl ?_
      first | refine At.val (Val.subI rfl rfl (by omega) (by omega)) rfl rfl rfl ?_ | refine At.val (Val.bin rfl rfl rfl) rfl rfl rfl ?_
      first | refine At.val (Val.addI rfl rfl (by omega) (by omega)) rfl rfl rfl ?_ | refine At.val (Val.bin rfl rfl rfl) rfl rfl rfl ?_
      refine At.callP (fun w hw => mod_p _ _ w (by omega) (by omega)) Tryd.call32 rfl rfl ?_
      refine At.val (Val.field 2 rfl fo_92_2 rfl) rfl rfl rfl ?_
      refine At.store (i := 0) Tryd.sizeOf3 rfl rfl rfl rfl (by first | decide | simp) ?_
      simp only [List.set_cons_zero, List.set_cons_succ]
      refine At.nil ?_
      refine At.thenN ?_
      refine At.seq ?_
      refine At.region ?_
      refine At.val (Val.field 3 rfl fo_98_3 rfl) rfl rfl rfl ?_
      refine At.val (Val.load (i := 2) Tryd.isAgg3 rfl rfl rfl) rfl rfl rfl ?_
      refine At.val (Val.field 3 rfl fo_92_3 rfl) rfl rfl rfl ?_
      refine At.val (Val.load (i := 0) Tryd.isAgg3 rfl rfl rfl) rfl rfl rfl ?_
      first | refine At.val (Val.subI rfl rfl (by omega) (by omega)) rfl rfl rfl ?_ | refine At.val (Val.bin rfl rfl rfl) rfl rfl rfl ?_
      first | refine At.val (Val.addI rfl rfl (by omega) (by omega)) rfl rfl rfl ?_ | refine At.val (Val.bin rfl rfl rfl) rfl rfl rfl ?_
      refine At.callP (fun w hw => mod_p _ _ w (by omega) (by omega)) Tryd.call32 rfl rfl ?_
      first | refine At.val (Val.addI rfl rfl (by omega) (by omega)) rfl rfl rfl ?_ | refine At.val (Val.bin rfl rfl rfl) rfl rfl rfl ?_
      refine At.val (Val.field 4 rfl fo_92_4 rfl) rfl rfl rfl ?_
      refine At.store (i := 0) Tryd.sizeOf3 rfl rfl rfl rfl (by first | decide | simp) ?_
      simp only [List.set_cons_zero, List.set_cons_succ]
      refine At.nil ?_
      refine At.thenN ?_
      refine At.region ?_
      refine At.val (Val.field 4 rfl fo_98_4 rfl) rfl rfl rfl ?_
      refine At.val (Val.load (i := 2) Tryd.isAgg3 rfl rfl rfl) rfl rfl rfl ?_
      refine At.callP (fun w hw => mod_p _ _ w (by omega) (by omega)) Tryd.call32 rfl rfl ?_
      refine At.val (Val.field 5 rfl fo_92_5 rfl) rfl rfl rfl ?_
      refine At.store (i := 0) Tryd.sizeOf3 rfl rfl rfl rfl (by first | decide | simp) ?_
      simp only [List.set_cons_zero, List.set_cons_succ]
      refine At.nil ?_
      refine At.blkN ?_
      refine At.thenN ?_
      refine At.seq ?_
      refine At.region ?_
      refine At.val (Val.loadAll (i := 0) Tryd.isAgg92 Tryd.sizeOf92 rfl rfl rfl) rfl rfl rfl ?_
      refine At.storeAll (i := 1) Tryd.sizeOf92 rfl rfl rfl (by simp [Value.oneCell']) rfl rfl ?_
      simp only [List.set_cons_zero, List.set_cons_succ]
      refine At.nil ?_
      refine At.thenN ?_
      refine At.retC ?_
      refine At.ret1 (.inl rfl) rfl rfl (ResOf.all (i := 1) Tryd.isAgg92 Tryd.sizeOf92 rfl rfl rfl) (fun w hw => ?_)
      exact ⟨_, goodEV (by unfold GoodE; omega), rfl, hw.mod⟩
    · skip
      try simp only [vN_T, vN_F, nmE_T, nmE_F, wI_T, wI_F, data_T, data_F, ino_T, ino_F, notT, notF, bneT, bneF, beqT, beqF, decT, decF] at h4
      refine At.seq ?_
      refine At.region ?_
      refine At.val (Val.bin rfl rfl rfl) rfl rfl rfl ?_
      refine At.val (Val.assign rfl) rfl rfl rfl ?_
      refine At.nil ?_
      refine At.thenN ?_
      refine At.cond rfl (fun h5 => ?_) (fun h5 => ?_)
      · skip
        try simp only [vN_T, vN_F, nmE_T, nmE_F, wI_T, wI_F, data_T, data_F, ino_T, ino_F, notT, notF, bneT, bneF, beqT, beqF, decT, decF] at h5
        refine At.region ?_
        refine At.val (Val.field 4 rfl fo_98_4 rfl) rfl rfl rfl ?_
        refine At.val (Val.load (i := 2) Tryd.isAgg3 rfl rfl rfl) rfl rfl rfl ?_
        refine At.callP (fun w hw => mod_p _ _ w (by omega) (by omega)) Tryd.call32 rfl rfl ?_
        refine At.val (Val.field 5 rfl fo_92_5 rfl) rfl rfl rfl ?_
        refine At.store (i := 0) Tryd.sizeOf3 rfl rfl rfl rfl (by first | decide | simp) ?_
        simp only [List.set_cons_zero, List.set_cons_succ]
        refine At.nil ?_
        refine At.blkN ?_
        refine At.thenN ?_
        refine At.seq ?_
        refine At.region ?_
        refine At.val (Val.loadAll (i := 0) Tryd.isAgg92 Tryd.sizeOf92 rfl rfl rfl) rfl rfl rfl ?_
        refine At.storeAll (i := 1) Tryd.sizeOf92 rfl rfl rfl (by simp [Value.oneCell']) rfl rfl ?_
        simp only [List.set_cons_zero, List.set_cons_succ]
        refine At.nil ?_
        refine At.thenN ?_
        refine At.retC ?_
        refine At.ret1 (.inl rfl) rfl rfl (ResOf.all (i := 1) Tryd.isAgg92 Tryd.sizeOf92 rfl rfl rfl) (fun w hw => ?_)
        exact ⟨_, goodEV (by unfold GoodE; omega), rfl, hw.mod⟩
      · skip
        try simp only [vN_T, vN_F, nmE_T, nmE_F, wI_T, wI_F, data_T, data_F, ino_T, ino_F, notT, notF, bneT, bneF, beqT, beqF, decT, decF] at h5
        refine At.seq ?_
        refine At.region ?_
        refine At.val (Val.bin rfl rfl rfl) rfl rfl rfl ?_
        refine At.val (Val.assign rfl) rfl rfl rfl ?_
        refine At.nil ?_
        refine At.thenN ?_
        refine At.cond rfl (fun h6 => ?_) (fun h6 => ?_)
        · skip
          try simp only [vN_T, vN_F, nmE_T, nmE_F, wI_T, wI_F, data_T, data_F, ino_T, ino_F, notT, notF, bneT, bneF, beqT, beqF, decT, decF] at h6
          refine At.seq ?_
          refine At.region ?_
          refine At.val (Val.field 1 rfl fo_98_1 rfl) rfl rfl rfl ?_
          refine At.val (Val.load (i := 2) Tryd.isAgg3 rfl rfl rfl) rfl rfl rfl ?_
          refine At.callP (fun w hw => mod_p _ _ w (by omega) (by omega)) Tryd.call32 rfl rfl ?_
          first | refine At.val (Val.addI rfl rfl (by omega) (by omega)) rfl rfl rfl ?_ | refine At.val (Val.bin rfl rfl rfl) rfl rfl rfl ?_
          refine At.val (Val.field 6 rfl fo_92_6 rfl) rfl rfl rfl ?_
          refine At.store (i := 0) Tryd.sizeOf3 rfl rfl rfl rfl (by first | decide | simp) ?_
          simp only [List.set_cons_zero, List.set_cons_succ]
          refine At.nil ?_
          refine At.thenN ?_
          refine At.region ?_
          refine At.val (Val.field 6 rfl fo_98_6 rfl) rfl rfl rfl ?_
          refine At.val (Val.load (i := 2) Tryd.isAgg9 rfl rfl rfl) rfl rfl rfl ?_
          refine At.callX (fun w hw => name_x s w hlen) Tryd.call113 rfl rfl (fun v7 hv8 => ?_)
          obtain ⟨t, rfl, htv⟩ := hv8
          rw [vN_T] at htv
          refine At.val (Val.field 7 rfl fo_92_7 rfl) rfl rfl rfl ?_
          refine At.store (i := 0) Tryd.sizeOf9 rfl rfl rfl rfl (by first | decide | simp) ?_
          simp only [List.set_cons_zero, List.set_cons_succ]
          refine At.nil ?_
          refine At.blkN ?_
          refine At.thenN ?_
          refine At.seq ?_
          refine At.region ?_
          refine At.val (Val.loadAll (i := 0) Tryd.isAgg92 Tryd.sizeOf92 rfl rfl rfl) rfl rfl rfl ?_
          refine At.storeAll (i := 1) Tryd.sizeOf92 rfl rfl rfl (by simp [Value.oneCell']) rfl rfl ?_
          simp only [List.set_cons_zero, List.set_cons_succ]
          refine At.nil ?_
          refine At.thenN ?_
          refine At.retC ?_
          refine At.ret1 (.inl rfl) rfl rfl (ResOf.all (i := 1) Tryd.isAgg92 Tryd.sizeOf92 rfl rfl rfl) (fun w hw => ?_)
          exact ⟨_, goodEV (by unfold GoodE; omega), rfl, hw.mod⟩
        · skip
          try simp only [vN_T, vN_F, nmE_T, nmE_F, wI_T, wI_F, data_T, data_F, ino_T, ino_F, notT, notF, bneT, bneF, beqT, beqF, decT, decF] at h6
          refine At.seq ?_
          refine At.region ?_
          refine At.val (Val.bin rfl rfl rfl) rfl rfl rfl ?_
          refine At.val (Val.assign rfl) rfl rfl rfl ?_
          refine At.nil ?_
          refine At.thenN ?_
          refine At.cond rfl (fun h9 => ?_) (fun h9 => ?_)
          · skip
            try simp only [vN_T, vN_F, nmE_T, nmE_F, wI_T, wI_F, data_T, data_F, ino_T, ino_F, notT, notF, bneT, bneF, beqT, beqF, decT, decF] at h9
            refine At.region ?_
            refine At.val (Val.field 6 rfl fo_98_6 rfl) rfl rfl rfl ?_
            refine At.val (Val.load (i := 2) Tryd.isAgg9 rfl rfl rfl) rfl rfl rfl ?_
            refine At.callX (fun w hw => name_x s w hlen) Tryd.call113 rfl rfl (fun v10 hv11 => ?_)
            obtain ⟨t, rfl, htv⟩ := hv11
            rw [vN_T] at htv
            refine At.val (Val.field 7 rfl fo_92_7 rfl) rfl rfl rfl ?_
            refine At.store (i := 0) Tryd.sizeOf9 rfl rfl rfl rfl (by first | decide | simp) ?_
            simp only [List.set_cons_zero, List.set_cons_succ]
            refine At.nil ?_
            refine At.blkN ?_
            refine At.thenN ?_
            refine At.seq ?_
            refine At.region ?_
            refine At.val (Val.loadAll (i := 0) Tryd.isAgg92 Tryd.sizeOf92 rfl rfl rfl) rfl rfl rfl ?_
            refine At.storeAll (i := 1) Tryd.sizeOf92 rfl rfl rfl (by simp [Value.oneCell']) rfl rfl ?_
            simp only [List.set_cons_zero, List.set_cons_succ]
            refine At.nil ?_
            refine At.thenN ?_
            refine At.retC ?_
            refine At.ret1 (.inl rfl) rfl rfl (ResOf.all (i := 1) Tryd.isAgg92 Tryd.sizeOf92 rfl rfl rfl) (fun w hw => ?_)
            exact ⟨_, goodEV (by unfold GoodE; omega), rfl, hw.mod⟩
          · skip
            try simp only [vN_T, vN_F, nmE_T, nmE_F, wI_T, wI_F, data_T, data_F, ino_T, ino_F, notT, notF, bneT, bneF, beqT, beqF, decT, decF] at h9
            refine At.skipC ?_
            refine At.blkN ?_
            refine At.thenN ?_
            refine At.seq ?_
            refine At.region ?_
            refine At.val (Val.loadAll (i := 0) Tryd.isAgg92 Tryd.sizeOf92 rfl rfl rfl) rfl rfl rfl ?_
            refine At.storeAll (i := 1) Tryd.sizeOf92 rfl rfl rfl (by simp [Value.oneCell']) rfl rfl ?_
            simp only [List.set_cons_zero, List.set_cons_succ]
            refine At.nil ?_
            refine At.thenN ?_
            refine At.retC ?_
            refine At.ret1 (.inl rfl) rfl rfl (ResOf.all (i := 1) Tryd.isAgg92 Tryd.sizeOf92 rfl rfl rfl) (fun w hw => ?_)
            exact ⟨_, goodEV (by unfold GoodE; omega), rfl, hw.mod⟩
  · skip
    refine At.alloc Tryd.zeroValue92 rfl rfl (fun b12 => ?_)
    refine At.nil ?_
    refine KAt.go (fun w hw => hw.drop (List.Sublist.cons _ (List.Sublist.cons_cons _ (List.Sublist.cons_cons _ (List.Sublist.refl _))))) ?_
    refine KAt.only 2 rfl (by decide +kernel) ?_
    refine At.callP (fun w hw => mod_p _ _ w (by omega) (by omega)) Tryd.call32 rfl rfl ?_
    refine At.nil ?_
    refine KAt.go (fun w hw => hw.drop (List.Sublist.cons _ (List.Sublist.cons_cons _ (List.Sublist.cons_cons _ (List.Sublist.refl _))))) ?_
    first | refine KAt.take 3 (Val.addI rfl rfl (by omega) (by omega)) rfl rfl rfl rfl (fun w hw => hw.drop (List.Sublist.cons _ (List.Sublist.cons_cons _ (List.Sublist.cons_cons _ (List.Sublist.refl _))))) (by decide +kernel) ?_ | refine KAt.take 3 (Val.bin rfl rfl rfl) rfl rfl rfl rfl (fun w hw => hw.drop (List.Sublist.cons _ (List.Sublist.cons_cons _ (List.Sublist.cons_cons _ (List.Sublist.refl _))))) (by decide +kernel) ?_
    refine KAt.take 8 (Val.build (fun a ha => by simp only [List.map_toArray, List.map_cons, List.map_nil, ha.eval (x := (.tmp 7)) rfl, ha.eval (x := (.tmp 11)) rfl] <;> rfl) (bld_92_0_1 _ _ )) rfl rfl rfl rfl (fun w hw => hw.drop (List.Sublist.cons _ (List.Sublist.cons_cons _ (List.Sublist.cons_cons _ (List.Sublist.refl _))))) (by decide +kernel) ?_
    refine KAt.only 10 rfl (by decide +kernel) ?_
    refine At.storeAll (i := 0) Tryd.sizeOf92 rfl rfl rfl (by simp [Value.oneCell']) rfl rfl ?_
    simp only [List.set_cons_zero, List.set_cons_succ]
    refine At.nil ?_
    refine KAt.goT rfl ?_
    refine KAt.done (by decide +kernel) ?_
    refine At.thenN ?_
    refine At.seq ?_
    refine At.seq ?_
    refine At.region ?_
    refine At.val (Val.field 0 rfl fo_92_0 rfl) rfl rfl rfl ?_
    refine At.val (Val.load (i := 0) Tryd.isAgg3 rfl rfl rfl) rfl rfl rfl ?_
    refine At.nil ?_
    refine At.thenN ?_
    refine At.block ?_
    refine At.seq ?_
    refine At.region ?_
    refine At.val (Val.bin rfl rfl rfl) rfl rfl rfl ?_
    refine At.val (Val.assign rfl) rfl rfl rfl ?_
    refine At.nil ?_
    refine At.thenN ?_
    refine At.cond rfl (fun h13 => ?_) (fun h13 => ?_)
    · skip
      try simp only [vN_T, vN_F, nmE_T, nmE_F, wI_T, wI_F, data_T, data_F, ino_T, ino_F, notT, notF, bneT, bneF, beqT, beqF, decT, decF] at h13
      refine At.seq ?_
      refine At.region ?_
      refine At.val (Val.field 2 rfl fo_98_2 rfl) rfl rfl rfl ?_
      refine At.val (Val.load (i := 2) Tryd.isAgg3 rfl rfl rfl) rfl rfl rfl ?_
      refine At.callP (fun w hw => mod_p _ _ w (by omega) (by omega)) Tryd.call32 rfl rfl ?_
      first | refine At.val (Val.addI rfl rfl (by omega) (by omega)) rfl rfl rfl ?_ | refine At.val (Val.bin rfl rfl rfl) rfl rfl rfl ?_
      refine At.val (Val.field 3 rfl fo_92_3 rfl) rfl rfl rfl ?_
      refine At.store (i := 0) Tryd.sizeOf3 rfl rfl rfl rfl (by first | decide | simp) ?_
      simp only [List.set_cons_zero, List.set_cons_succ]
      refine At.nil ?_
      refine At.thenN ?_
      refine At.seq ?_
      refine At.region ?_
      refine At.val (Val.field 1 rfl fo_98_1 rfl) rfl rfl rfl ?_
      refine At.val (Val.load (i := 2) Tryd.isAgg3 rfl rfl rfl) rfl rfl rfl ?_
      refine At.val (Val.field 3 rfl fo_92_3 rfl) rfl rfl rfl ?_
      refine At.val (Val.load (i := 0) Tryd.isAgg3 rfl rfl rfl) rfl rfl rfl ?_
      first | refine At.val (Val.subI rfl rfl (by omega) (by omega)) rfl rfl rfl ?_ | refine At.val (Val.bin rfl rfl rfl) rfl rfl rfl ?_
      first | refine At.val (Val.addI rfl rfl (by omega) (by omega)) rfl rfl rfl ?_ | refine At.val (Val.bin rfl rfl rfl) rfl rfl rfl ?_
      refine At.callP (fun w hw => mod_p _ _ w (by omega) (by omega)) Tryd.call32 rfl rfl ?_
      refine At.val (Val.field 2 rfl fo_92_2 rfl) rfl rfl rfl ?_
      refine At.store (i := 0) Tryd.sizeOf3 rfl rfl rfl rfl (by first | decide | simp) ?_
      simp only [List.set_cons_zero, List.set_cons_succ]
      refine At.nil ?_
      refine At.thenN ?_
      refine At.seq ?_
      refine At.region ?_
      refine At.val (Val.field 3 rfl fo_98_3 rfl) rfl rfl rfl ?_
      refine At.val (Val.load (i := 2) Tryd.isAgg3 rfl rfl rfl) rfl rfl rfl ?_
      refine At.val (Val.field 3 rfl fo_92_3 rfl) rfl rfl rfl ?_
      refine At.val (Val.load (i := 0) Tryd.isAgg3 rfl rfl rfl) rfl rfl rfl ?_
      first | refine At.val (Val.subI rfl rfl (by omega) (by omega)) rfl rfl rfl ?_ | refine At.val (Val.bin rfl rfl rfl) rfl rfl rfl ?_
      first | refine At.val (Val.addI rfl rfl (by omega) (by omega)) rfl rfl rfl ?_ | refine At.val (Val.bin rfl rfl rfl) rfl rfl rfl ?_
      refine At.callP (fun w hw => mod_p _ _ w (by omega) (by omega)) Tryd.call32 rfl rfl ?_
      first | refine At.val (Val.addI rfl rfl (by omega) (by omega)) rfl rfl rfl ?_ | refine At.val (Val.bin rfl rfl rfl) rfl rfl rfl ?_
      refine At.val (Val.field 4 rfl fo_92_4 rfl) rfl rfl rfl ?_
      refine At.store (i := 0) Tryd.sizeOf3 rfl rfl rfl rfl (by first | decide | simp) ?_
      simp only [List.set_cons_zero, List.set_cons_succ]
      refine At.nil ?_
      refine At.thenN ?_
      refine At.region ?_
      refine At.val (Val.field 4 rfl fo_98_4 rfl) rfl rfl rfl ?_
      refine At.val (Val.load (i := 2) Tryd.isAgg3 rfl rfl rfl) rfl rfl rfl ?_
      refine At.callP (fun w hw => mod_p _ _ w (by omega) (by omega)) Tryd.call32 rfl rfl ?_
      refine At.val (Val.field 5 rfl fo_92_5 rfl) rfl rfl rfl ?_
      refine At.store (i := 0) Tryd.sizeOf3 rfl rfl rfl rfl (by first | decide | simp) ?_
      simp only [List.set_cons_zero, List.set_cons_succ]
      refine At.nil ?_
      refine At.blkN ?_
      refine At.thenN ?_
      refine At.seq ?_
      refine At.region ?_
      refine At.val (Val.loadAll (i := 0) Tryd.isAgg92 Tryd.sizeOf92 rfl rfl rfl) rfl rfl rfl ?_
      refine At.storeAll (i := 1) Tryd.sizeOf92 rfl rfl rfl (by simp [Value.oneCell']) rfl rfl ?_
      simp only [List.set_cons_zero, List.set_cons_succ]
      refine At.nil ?_
      refine At.thenN ?_
      refine At.retC ?_
      refine At.ret1 (.inl rfl) rfl rfl (ResOf.all (i := 1) Tryd.isAgg92 Tryd.sizeOf92 rfl rfl rfl) (fun w hw => ?_)
      exact ⟨_, goodEV (by unfold GoodE; omega), rfl, hw.mod⟩
    · skip
      try simp only [vN_T, vN_F, nmE_T, nmE_F, wI_T, wI_F, data_T, data_F, ino_T, ino_F, notT, notF, bneT, bneF, beqT, beqF, decT, decF] at h13
      refine At.seq ?_
      refine At.region ?_
      refine At.val (Val.bin rfl rfl rfl) rfl rfl rfl ?_
      refine At.val (Val.assign rfl) rfl rfl rfl ?_
      refine At.nil ?_
      refine At.thenN ?_
      refine At.cond rfl (fun h14 => ?_) (fun h14 => ?_)
      · skip
        try simp only [vN_T, vN_F, nmE_T, nmE_F, wI_T, wI_F, data_T, data_F, ino_T, ino_F, notT, notF, bneT, bneF, beqT, beqF, decT, decF] at h14
        refine At.region ?_
        refine At.val (Val.field 4 rfl fo_98_4 rfl) rfl rfl rfl ?_
        refine At.val (Val.load (i := 2) Tryd.isAgg3 rfl rfl rfl) rfl rfl rfl ?_
        refine At.callP (fun w hw => mod_p _ _ w (by omega) (by omega)) Tryd.call32 rfl rfl ?_
        refine At.val (Val.field 5 rfl fo_92_5 rfl) rfl rfl rfl ?_
        refine At.store (i := 0) Tryd.sizeOf3 rfl rfl rfl rfl (by first | decide | simp) ?_
        simp only [List.set_cons_zero, List.set_cons_succ]
        refine At.nil ?_
        refine At.blkN ?_
        refine At.thenN ?_
        refine At.seq ?_
        refine At.region ?_
        refine At.val (Val.loadAll (i := 0) Tryd.isAgg92 Tryd.sizeOf92 rfl rfl rfl) rfl rfl rfl ?_
        refine At.storeAll (i := 1) Tryd.sizeOf92 rfl rfl rfl (by simp [Value.oneCell']) rfl rfl ?_
        simp only [List.set_cons_zero, List.set_cons_succ]
        refine At.nil ?_
        refine At.thenN ?_
        refine At.retC ?_
        refine At.ret1 (.inl rfl) rfl rfl (ResOf.all (i := 1) Tryd.isAgg92 Tryd.sizeOf92 rfl rfl rfl) (fun w hw => ?_)
        exact ⟨_, goodEV (by unfold GoodE; omega), rfl, hw.mod⟩
      · skip
        try simp only [vN_T, vN_F, nmE_T, nmE_F, wI_T, wI_F, data_T, data_F, ino_T, ino_F, notT, notF, bneT, bneF, beqT, beqF, decT, decF] at h14
        refine At.seq ?_
        refine At.region ?_
        refine At.val (Val.bin rfl rfl rfl) rfl rfl rfl ?_
        refine At.val (Val.assign rfl) rfl rfl rfl ?_
        refine At.nil ?_
        refine At.thenN ?_
        refine At.cond rfl (fun h15 => ?_) (fun h15 => ?_)
        · skip
          try simp only [vN_T, vN_F, nmE_T, nmE_F, wI_T, wI_F, data_T, data_F, ino_T, ino_F, notT, notF, bneT, bneF, beqT, beqF, decT, decF] at h15
          refine At.seq ?_
          refine At.region ?_
          refine At.val (Val.field 1 rfl fo_98_1 rfl) rfl rfl rfl ?_
          refine At.val (Val.load (i := 2) Tryd.isAgg3 rfl rfl rfl) rfl rfl rfl ?_
          refine At.callP (fun w hw => mod_p _ _ w (by omega) (by omega)) Tryd.call32 rfl rfl ?_
          first | refine At.val (Val.addI rfl rfl (by omega) (by omega)) rfl rfl rfl ?_ | refine At.val (Val.bin rfl rfl rfl) rfl rfl rfl ?_
          refine At.val (Val.field 6 rfl fo_92_6 rfl) rfl rfl rfl ?_
          refine At.store (i := 0) Tryd.sizeOf3 rfl rfl rfl rfl (by first | decide | simp) ?_
          simp only [List.set_cons_zero, List.set_cons_succ]
          refine At.nil ?_
          refine At.thenN ?_
          refine At.region ?_
          refine At.val (Val.field 6 rfl fo_98_6 rfl) rfl rfl rfl ?_
          refine At.val (Val.load (i := 2) Tryd.isAgg9 rfl rfl rfl) rfl rfl rfl ?_
          refine At.callX (fun w hw => name_x s w hlen) Tryd.call113 rfl rfl (fun v16 hv17 => ?_)
          obtain ⟨t, rfl, htv⟩ := hv17
          rw [vN_T] at htv
          refine At.val (Val.field 7 rfl fo_92_7 rfl) rfl rfl rfl ?_
          refine At.store (i := 0) Tryd.sizeOf9 rfl rfl rfl rfl (by first | decide | simp) ?_
          simp only [List.set_cons_zero, List.set_cons_succ]
          refine At.nil ?_
          refine At.blkN ?_
          refine At.thenN ?_
          refine At.seq ?_
          refine At.region ?_
          refine At.val (Val.loadAll (i := 0) Tryd.isAgg92 Tryd.sizeOf92 rfl rfl rfl) rfl rfl rfl ?_
          refine At.storeAll (i := 1) Tryd.sizeOf92 rfl rfl rfl (by simp [Value.oneCell']) rfl rfl ?_
          simp only [List.set_cons_zero, List.set_cons_succ]
          refine At.nil ?_
          refine At.thenN ?_
          refine At.retC ?_
          refine At.ret1 (.inl rfl) rfl rfl (ResOf.all (i := 1) Tryd.isAgg92 Tryd.sizeOf92 rfl rfl rfl) (fun w hw => ?_)
          exact ⟨_, goodEV (by unfold GoodE; omega), rfl, hw.mod⟩
        · skip
          try simp only [vN_T, vN_F, nmE_T, nmE_F, wI_T, wI_F, data_T, data_F, ino_T, ino_F, notT, notF, bneT, bneF, beqT, beqF, decT, decF] at h15
          refine At.seq ?_
          refine At.region ?_
          refine At.val (Val.bin rfl rfl rfl) rfl rfl rfl ?_
          refine At.val (Val.assign rfl) rfl rfl rfl ?_
          refine At.nil ?_
          refine At.thenN ?_
          refine At.cond rfl (fun h18 => ?_) (fun h18 => ?_)
          · skip
            try simp only [vN_T, vN_F, nmE_T, nmE_F, wI_T, wI_F, data_T, data_F, ino_T, ino_F, notT, notF, bneT, bneF, beqT, beqF, decT, decF] at h18
            refine At.region ?_
            refine At.val (Val.field 6 rfl fo_98_6 rfl) rfl rfl rfl ?_
            refine At.val (Val.load (i := 2) Tryd.isAgg9 rfl rfl rfl) rfl rfl rfl ?_
            refine At.callX (fun w hw => name_x s w hlen) Tryd.call113 rfl rfl (fun v19 hv20 => ?_)
            obtain ⟨t, rfl, htv⟩ := hv20
            rw [vN_T] at htv
            refine At.val (Val.field 7 rfl fo_92_7 rfl) rfl rfl rfl ?_
            refine At.store (i := 0) Tryd.sizeOf9 rfl rfl rfl rfl (by first | decide | simp) ?_
            simp only [List.set_cons_zero, List.set_cons_succ]
            refine At.nil ?_
            refine At.blkN ?_
            refine At.thenN ?_
            refine At.seq ?_
            refine At.region ?_
            refine At.val (Val.loadAll (i := 0) Tryd.isAgg92 Tryd.sizeOf92 rfl rfl rfl) rfl rfl rfl ?_
            refine At.storeAll (i := 1) Tryd.sizeOf92 rfl rfl rfl (by simp [Value.oneCell']) rfl rfl ?_
            simp only [List.set_cons_zero, List.set_cons_succ]
            refine At.nil ?_
            refine At.thenN ?_
            refine At.retC ?_
            refine At.ret1 (.inl rfl) rfl rfl (ResOf.all (i := 1) Tryd.isAgg92 Tryd.sizeOf92 rfl rfl rfl) (fun w hw => ?_)
            exact ⟨_, goodEV (by unfold GoodE; omega), rfl, hw.mod⟩
          · skip
            try simp only [vN_T, vN_F, nmE_T, nmE_F, wI_T, wI_F, data_T, data_F, ino_T, ino_F, notT, notF, bneT, bneF, beqT, beqF, decT, decF] at h18
            refine At.skipC ?_
            refine At.blkN ?_
            refine At.thenN ?_
            refine At.seq ?_
            refine At.region ?_
            refine At.val (Val.loadAll (i := 0) Tryd.isAgg92 Tryd.sizeOf92 rfl rfl rfl) rfl rfl rfl ?_
            refine At.storeAll (i := 1) Tryd.sizeOf92 rfl rfl rfl (by simp [Value.oneCell']) rfl rfl ?_
            simp only [List.set_cons_zero, List.set_cons_succ]
            refine At.nil ?_
            refine At.thenN ?_
            refine At.retC ?_
            refine At.ret1 (.inl rfl) rfl rfl (ResOf.all (i := 1) Tryd.isAgg92 Tryd.sizeOf92 rfl rfl rfl) (fun w hw => ?_)
            exact ⟨_, goodEV (by unfold GoodE; omega), rfl, hw.mod⟩

end Go.Proofs.YtoiebgnmknbkjaaDoor
