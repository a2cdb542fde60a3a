/- Both devices, every call. -/
import Derived.Test.YtkpbpeajkfgfiaaR6
import Derived.Test.YtkpbpeajkfgfiaaR7
set_option linter.unusedVariables false
set_option linter.unusedSimpArgs false
namespace Go.Proofs.Ytkpbpeajkfgfiaa
open Go Go.Wk

theorem storesE_rest : ∀ (l : List (BitVec 64)) (k : Nat) (σ : Ds), k + l.length ≤ σ.ws.length → (storesE k σ l).2.ws.length = σ.ws.length ∧ (storesE k σ l).2.steps ≤ σ.steps + l.length ∧ (σ.armed = false → (storesE k σ l).1 = 0 ∧ (storesE k σ l).2.armed = false)
  | [], k, σ, _ => ⟨rfl, Nat.le_refl _, fun h => ⟨rfl, h⟩⟩
  | x :: l, k, σ, h => by
    rw [List.length_cons] at h
    cases hd : deadB σ with
    | true =>
      rw [storesE_dead hd]
      exact ⟨rfl, Nat.le_add_right _ _, fun ha => by rw [dead_of ha] at hd; cases hd⟩
    | false =>
      rw [storesE_live hd]
      obtain ⟨h1, h2, h3⟩ := storeD_rest (σ := σ) x (show k < σ.ws.length by omega)
      obtain ⟨g1, g2, g3⟩ := storesE_rest l (k + 1) (storeD σ k x) (by omega)
      exact ⟨g1.trans h3, by rw [List.length_cons]; omega, fun ha => g3 (h2.trans ha)⟩
theorem linesE_rest : ∀ (c l : Nat) (σ : Ds), (linesE l σ c).2.ws.length = σ.ws.length ∧ (linesE l σ c).2.steps ≤ σ.steps + c ∧ (σ.armed = false → (linesE l σ c).1 = 0 ∧ (linesE l σ c).2.armed = false)
  | 0, l, σ => ⟨rfl, Nat.le_refl _, fun h => ⟨rfl, h⟩⟩
  | c + 1, l, σ => by
    cases hd : deadB σ with
    | true =>
      rw [linesE_dead hd]
      exact ⟨rfl, Nat.le_add_right _ _, fun ha => by rw [dead_of ha] at hd; cases hd⟩
    | false =>
      rw [linesE_live hd]
      obtain ⟨h1, h2, h3⟩ := lineD_rest σ l
      obtain ⟨g1, g2, g3⟩ := linesE_rest c (l + 1) (lineD σ l)
      exact ⟨g1.trans h3, by omega, fun ha => g3 (h2.trans ha)⟩


theorem upd_toD {P : Program} {f : FuncId} {vs : List Value} {v : Value} {p : Nat} {γ : Gh} {σ : Ds} {w : World} (h : Upd P f vs (Dev p γ σ) v (Dev p γ σ) w) : DevU P f vs p γ σ v σ w := h.mono fun e w' ⟨he, hr⟩ => ⟨γ, he, hr⟩
def storeT (σ : Ds) (a : Int) (x : BitVec 64) : Int × Ds := if placeE σ a ≠ 0 then (placeE σ a, σ) else if deadB σ = true then (13, σ) else (0, storeD σ (a / 8).toNat x)
theorem store_t (p : Nat) (γ : Gh) (σ : Ds) (a : Int) (x : BitVec 64) (w : World) (hs : σ.steps + 65536 ≤ 1099511627776) (hd : (Dev p γ σ).holds w) : DevU Try.prog 31 [.pointer (some ⟨p, 0, none⟩), .int .i64 a, b64 x] p γ σ (.int .i64 (storeT σ a x).1) (storeT σ a x).2 w := by
  unfold storeT
  split
  · rename_i h; exact upd_toD (store_no p γ σ a x w h hd)
  · rename_i h
    have h' : placeE σ a = 0 := Decidable.not_not.1 h
    cases hdb : deadB σ with
    | true => rw [if_pos rfl]; exact upd_toD (store_0 p γ σ a x w h' hdb hd)
    | false =>
      rw [if_neg (by simp)]
      obtain ⟨K, rfl, hK⟩ := place_inv h'
      rw [show (8 * (K : Int) / 8).toNat = K by omega, storeD_some (List.getElem?_eq_getElem hK)]
      exact store_d p γ σ K _ x w (List.getElem?_eq_getElem hK) (by omega) hdb hd
theorem rstore_t (p : Nat) (γ : Rg) (ρ : Rs) (σ : Ds) (a : Int) (x : BitVec 64) (w : World) (hsim : Sim σ ρ) (hs : σ.steps + 65536 ≤ 1099511627776) (hd : (RDev p γ ρ).holds w) : RDevP Try.prog 88 [.pointer (some ⟨p, 0, none⟩), .int .i64 a, b64 x] p γ ρ (.int .i64 (storeT σ a x).1) (Sim (storeT σ a x).2) w := by
  unfold storeT
  split
  · rename_i h; rw [← hsim.wrong] at h ⊢; exact upd_toP (rstore_no p γ ρ a x w h hd) hsim
  · rename_i h
    have h' : placeE σ a = 0 := Decidable.not_not.1 h
    cases hdb : deadB σ with
    | true => rw [if_pos rfl]; exact upd_toP (rstore_0 p γ ρ a x w (by rw [hsim.wrong]; exact h') (hsim.isdead hdb) hd) hsim
    | false =>
      rw [if_neg (by simp)]
      obtain ⟨K, rfl, hK⟩ := place_inv h'
      rw [show (8 * (K : Int) / 8).toNat = K by omega]
      exact rstore_s p γ ρ σ K x w hsim hK (by omega) hdb hd
def flushT (σ : Ds) (a : Int) : Int × Ds := if ¬ (0 ≤ a ∧ a < 8 * (σ.ws.length : Int)) then (11, σ) else if deadB σ = true then (13, σ) else (0, lineD σ (a / 64).toNat)
theorem flush_t (p : Nat) (γ : Gh) (σ : Ds) (a : Int) (w : World) (hs : σ.steps + 65536 ≤ 1099511627776) (hd : (Dev p γ σ).holds w) : DevU Try.prog 32 [.pointer (some ⟨p, 0, none⟩), .int .i64 a] p γ σ (.int .i64 (flushT σ a).1) (flushT σ a).2 w := by
  unfold flushT
  split
  · rename_i h; exact upd_toD (flush_no p γ σ a w h hd)
  · rename_i h
    obtain ⟨h0, h1⟩ := Decidable.not_not.1 h
    cases hdb : deadB σ with
    | true => rw [if_pos rfl]; exact upd_toD (flush_0 p γ σ a w h0 h1 hdb hd)
    | false => rw [if_neg (by simp)]; exact flush_d p γ σ a (8 * (a / 64).toNat) w h0 h1 (by omega) (by omega) hdb hd
theorem rflush_t (p : Nat) (γ : Rg) (ρ : Rs) (σ : Ds) (a : Int) (w : World) (hsim : Sim σ ρ) (hs : σ.steps + 65536 ≤ 1099511627776) (hd : (RDev p γ ρ).holds w) : RDevP Try.prog 90 [.pointer (some ⟨p, 0, none⟩), .int .i64 a] p γ ρ (.int .i64 (flushT σ a).1) (Sim (flushT σ a).2) w := by
  have hl := hsim.len
  unfold flushT
  split
  · rename_i h; exact upd_toP (rflush_no p γ ρ a w (fun ⟨g0, g1⟩ => h ⟨g0, by omega⟩) hd) hsim
  · rename_i h
    obtain ⟨h0, h1⟩ := Decidable.not_not.1 h
    cases hdb : deadB σ with
    | true => rw [if_pos rfl]; exact upd_toP (rflush_0 p γ ρ a w h0 (by omega) (hsim.isdead hdb) hd) hsim
    | false => rw [if_neg (by simp)]; exact rflush_s p γ ρ σ a (a / 64).toNat w hsim (by omega) (by omega) (by omega) (by omega) hdb hd
def fenceT (σ : Ds) : Int × Ds := if deadB σ = true then (13, σ) else (0, fenceD (stepD σ))
theorem fence_t (p : Nat) (γ : Gh) (σ : Ds) (w : World) (hs : σ.steps + 65536 ≤ 1099511627776) (hd : (Dev p γ σ).holds w) : DevU Try.prog 33 [.pointer (some ⟨p, 0, none⟩)] p γ σ (.int .i64 (fenceT σ).1) (fenceT σ).2 w := by
  unfold fenceT
  cases hdb : deadB σ with
  | true => rw [if_pos rfl]; exact upd_toD (fence_0 p γ σ w hdb hd)
  | false => rw [if_neg (by simp)]; exact fence_d p γ σ w (by omega) hdb hd
theorem rfence_t (p : Nat) (γ : Rg) (ρ : Rs) (σ : Ds) (w : World) (hsim : Sim σ ρ) (hs : σ.steps + 65536 ≤ 1099511627776) (hd : (RDev p γ ρ).holds w) : RDevP Try.prog 92 [.pointer (some ⟨p, 0, none⟩)] p γ ρ (.int .i64 (fenceT σ).1) (Sim (fenceT σ).2) w := by
  unfold fenceT
  cases hdb : deadB σ with
  | true => rw [if_pos rfl]; exact upd_toP (rfence_0 p γ ρ w (hsim.isdead hdb) hd) hsim
  | false => rw [if_neg (by simp)]; exact rfence_s p γ ρ σ w hsim (by omega) hdb hd
def armT (σ : Ds) (m : Int) : Int × Ds := if m < 0 then (14, σ) else if deadB σ = true then (13, σ) else (0, armD σ m.toNat)
theorem arm_t (p : Nat) (γ : Gh) (σ : Ds) (m : Int) (w : World) (hm : m ≤ 9223372036854775807) (hd : (Dev p γ σ).holds w) : DevU Try.prog 36 [.pointer (some ⟨p, 0, none⟩), .int .i64 m] p γ σ (.int .i64 (armT σ m).1) (armT σ m).2 w := by
  unfold armT
  split
  · rename_i h; exact upd_toD (arm_neg p γ σ m w h hd)
  · rename_i h
    obtain ⟨k, rfl⟩ : ∃ k : Nat, m = (k : Int) := ⟨m.toNat, by omega⟩
    cases hdb : deadB σ with
    | true => rw [if_pos rfl]; exact upd_toD (arm_dead p γ σ k w (by omega) hdb hd)
    | false => rw [if_neg (by simp), Int.toNat_natCast]; exact arm_d p γ σ k w (by omega) hdb hd
theorem rarm_t (p : Nat) (γ : Rg) (ρ : Rs) (σ : Ds) (m : Int) (w : World) (hsim : Sim σ ρ) (hm : m ≤ 9223372036854775807) (hd : (RDev p γ ρ).holds w) : RDevP Try.prog 93 [.pointer (some ⟨p, 0, none⟩), .int .i64 m] p γ ρ (.int .i64 (armT σ m).1) (Sim (armT σ m).2) w := by
  unfold armT
  split
  · rename_i h; exact upd_toP (rarm_neg p γ ρ m w h hd) hsim
  · rename_i h
    obtain ⟨k, rfl⟩ : ∃ k : Nat, m = (k : Int) := ⟨m.toNat, by omega⟩
    cases hdb : deadB σ with
    | true => rw [if_pos rfl]; exact upd_toP (rarm_dead p γ ρ k w (by omega) (hsim.isdead hdb) hd) hsim
    | false => rw [if_neg (by simp), Int.toNat_natCast]; exact rarm_s p γ ρ σ k w hsim (by omega) hdb hd
def writeT (σ : Ds) (a : Int) (lb : List UInt8) : Int × Ds := if hasB σ a lb.length = false then (11, σ) else if ¬ (a % 8 = 0 ∧ lb.length % 8 = 0) then (12, σ) else storesE (a / 8).toNat σ (wordsL lb (lb.length / 8))
theorem has_bd {σ : Ds} {a n : Int} (h : hasB σ a n = true) : 0 ≤ a ∧ 0 ≤ n ∧ a + n ≤ 8 * (σ.ws.length : Int) := by unfold hasB at h; rw [decide_eq_true_eq] at h; omega
theorem write_t (p : Nat) (γ : Gh) (σ : Ds) (a : Int) (v : Value) (lb : List UInt8) (w : World) (hv : RdB w v lb) (ho : Off v (lb.map bv) (feet [Dev p γ σ])) (hs : σ.steps + 65536 ≤ 1099511627776) (hd : (Dev p γ σ).holds w) : DevU Try.prog 43 [.pointer (some ⟨p, 0, none⟩), .int .i64 a, v] p γ σ (.int .i64 (writeT σ a lb).1) (writeT σ a lb).2 w := by
  have hg := (Dev.good hd).len
  unfold writeT
  cases hh : hasB σ a lb.length with
  | false => rw [if_pos rfl]; exact upd_toD (write_no p γ σ a v lb w hv hh hd)
  | true =>
    rw [if_neg (by simp)]
    obtain ⟨h0, _, h1⟩ := has_bd hh
    split
    · rename_i h; exact upd_toD (write_al p γ σ a v lb w hv hh h hd)
    · rename_i h
      obtain ⟨g0, g1⟩ := Decidable.not_not.1 h
      have := write_d p γ σ (a / 8).toNat (lb.length / 8) v lb w hv ho (by omega) (by omega) (by omega) hd
      rwa [show 8 * (((a / 8).toNat : Nat) : Int) = a by omega] at this
theorem rwrite_t (p : Nat) (γ : Rg) (ρ : Rs) (σ : Ds) (a : Int) (v : Value) (lb : List UInt8) (w : World) (hsim : Sim σ ρ) (hv : RdB w v lb) (ho : Off v (lb.map bv) (feet [RDev p γ ρ])) (hs : σ.steps + 65536 ≤ 1099511627776) (hwl : σ.ws.length ≤ 65536) (hd : (RDev p γ ρ).holds w) : RDevP Try.prog 89 [.pointer (some ⟨p, 0, none⟩), .int .i64 a, v] p γ ρ (.int .i64 (writeT σ a lb).1) (Sim (writeT σ a lb).2) w := by
  unfold writeT
  cases hh : hasB σ a lb.length with
  | false => rw [if_pos rfl]; exact upd_toP (rwrite_no p γ ρ a v lb w hv (by rw [hsim.has]; exact hh) hd) hsim
  | true =>
    rw [if_neg (by simp)]
    obtain ⟨h0, _, h1⟩ := has_bd hh
    split
    · rename_i h; exact upd_toP (rwrite_al p γ ρ a v lb w hv (by rw [hsim.has]; exact hh) h hd) hsim
    · rename_i h
      obtain ⟨g0, g1⟩ := Decidable.not_not.1 h
      have := rwrite_s p γ ρ σ (a / 8).toNat (lb.length / 8) v lb w hsim hwl hv ho (by omega) (by omega) (by omega) hd
      rwa [show 8 * (((a / 8).toNat : Nat) : Int) = a by omega] at this
def flushAllT (σ : Ds) (a n : Int) : Int × Ds := if hasB σ a n = false then (11, σ) else linesE (a.toNat / 64) σ (cntL a.toNat n.toNat)
theorem cntL_le {a n W : Nat} (h : a + n ≤ 8 * W) : cntL a n ≤ W + 1 := by unfold cntL; split <;> omega
theorem flushAll_t (p : Nat) (γ : Gh) (σ : Ds) (a n : Int) (w : World) (hs : σ.steps + 65537 ≤ 1099511627776) (hd : (Dev p γ σ).holds w) : DevU Try.prog 40 [.pointer (some ⟨p, 0, none⟩), .int .i64 a, .int .i64 n] p γ σ (.int .i64 (flushAllT σ a n).1) (flushAllT σ a n).2 w := by
  have hg := (Dev.good hd).len
  unfold flushAllT
  cases hh : hasB σ a n with
  | false => rw [if_pos rfl]; exact upd_toD (flushAll_no p γ σ a n w hh hd)
  | true =>
    rw [if_neg (by simp)]
    obtain ⟨h0, h2, h1⟩ := has_bd hh
    have hc := cntL_le (a := a.toNat) (n := n.toNat) (W := σ.ws.length) (by omega)
    have := flushAll_d p γ σ a.toNat n.toNat (cntL a.toNat n.toNat) w (by omega) (cntL_P _ _) (by omega) hd
    rwa [show ((a.toNat : Nat) : Int) = a by omega, show ((n.toNat : Nat) : Int) = n by omega] at this
theorem rflushAll_t (p : Nat) (γ : Rg) (ρ : Rs) (σ : Ds) (a n : Int) (w : World) (hsim : Sim σ ρ) (hs : σ.steps + 65537 ≤ 1099511627776) (hwl : σ.ws.length ≤ 65536) (hd : (RDev p γ ρ).holds w) : RDevP Try.prog 91 [.pointer (some ⟨p, 0, none⟩), .int .i64 a, .int .i64 n] p γ ρ (.int .i64 (flushAllT σ a n).1) (Sim (flushAllT σ a n).2) w := by
  unfold flushAllT
  cases hh : hasB σ a n with
  | false => rw [if_pos rfl]; exact upd_toP (rflushAll_no p γ ρ a n w (by rw [hsim.has]; exact hh) hd) hsim
  | true =>
    rw [if_neg (by simp)]
    obtain ⟨h0, h2, h1⟩ := has_bd hh
    have hc := cntL_le (a := a.toNat) (n := n.toNat) (W := σ.ws.length) (by omega)
    have := rflushAll_s p γ ρ σ a.toNat n.toNat (cntL a.toNat n.toNat) w hsim hwl (by omega) (cntL_P _ _) (by omega) hd
    rwa [show ((a.toNat : Nat) : Int) = a by omega, show ((n.toNat : Nat) : Int) = n by omega] at this
def wordT (σ : Ds) (a : Int) : BitVec 64 × Int := if placeE σ a ≠ 0 then (0, placeE σ a) else (((σ.ws[(a / 8).toNat]?).map nowW).getD 0, 0)
theorem word_t (p : Nat) (γ : Gh) (σ : Ds) (a : Int) (w : World) (hd : (Dev p γ σ).holds w) : Upd Try.prog 35 [.pointer (some ⟨p, 0, none⟩), .int .i64 a] (Dev p γ σ) (.tuple #[b64 (wordT σ a).1, .int .i64 (wordT σ a).2]) (Dev p γ σ) w := by
  unfold wordT
  split
  · rename_i h; exact word_no p γ σ a w h hd
  · rename_i h
    obtain ⟨K, rfl, hK⟩ := place_inv (Decidable.not_not.1 h)
    rw [show (8 * (K : Int) / 8).toNat = K by omega, List.getElem?_eq_getElem hK]
    exact word_k p γ σ K _ w (List.getElem?_eq_getElem hK) hd
theorem rword_t (p : Nat) (γ : Rg) (ρ : Rs) (σ : Ds) (a : Int) (w : World) (hsim : Sim σ ρ) (hd : (RDev p γ ρ).holds w) : Upd Try.prog 86 [.pointer (some ⟨p, 0, none⟩), .int .i64 a] (RDev p γ ρ) (.tuple #[b64 (wordT σ a).1, .int .i64 (wordT σ a).2]) (RDev p γ ρ) w := by
  unfold wordT
  split
  · rename_i h; rw [← hsim.wrong] at h ⊢; exact rWord_no p γ ρ a w h hd
  · rename_i h
    obtain ⟨K, rfl, hK⟩ := place_inv (Decidable.not_not.1 h)
    rw [show (8 * (K : Int) / 8).toNat = K by omega, List.getElem?_eq_getElem hK]
    exact rWord_s p γ ρ σ K _ w hsim (List.getElem?_eq_getElem hK) hd
def readT (σ : Ds) (a n : Int) : List UInt8 × Int := if hasB σ a n = false then ([], 11) else (((wbytes (viewWs σ.ws)).drop a.toNat).take n.toNat, 0)
theorem nil_rowKT {P : Program} {f : FuncId} {vs : List Value} {r : Res} {w : World} {c : Int} {e : Nat} (h : Upd P f vs r (.tuple #[.slice none 0 0, .int .i64 c]) r w) : RowKT P f vs r (fun v' => .tuple #[v', .int .i64 c]) e 1 ([] : List UInt8).length (([] : List UInt8).map bv) w :=
  h.mono fun q w' ⟨he, hr⟩ => ⟨_, he, hr.new (r' := brow e (.slice none 0 0) []) (Mod.refl _ _) (World.ownsRow_nil _ 0 _ _) (fun b hb => by simp [brow, rowR, Value.ownBlock] at hb)⟩
theorem read_t (p : Nat) (γ : Gh) (σ : Ds) (a n : Int) (w : World) (hd : (Dev p γ σ).holds w) : RowKT Try.prog 47 [.pointer (some ⟨p, 0, none⟩), .int .i64 a, .int .i64 n] (Dev p γ σ) (fun v' => .tuple #[v', .int .i64 (readT σ a n).2]) 5 1 (readT σ a n).1.length ((readT σ a n).1.map bv) w := by
  unfold readT
  cases hh : hasB σ a n with
  | false => rw [if_pos rfl]; exact nil_rowKT (read_no p γ σ a n w hh hd)
  | true =>
    rw [if_neg (by simp)]
    obtain ⟨h0, h2, h1⟩ := has_bd hh
    have := read_s p γ σ a.toNat n.toNat w (by omega) hd
    rwa [show ((a.toNat : Nat) : Int) = a by omega, show ((n.toNat : Nat) : Int) = n by omega] at this
theorem rread_t (p : Nat) (γ : Rg) (ρ : Rs) (σ : Ds) (a n : Int) (w : World) (hsim : Sim σ ρ) (hwl : σ.ws.length ≤ 65536) (hd : (RDev p γ ρ).holds w) : RowKT Try.prog 87 [.pointer (some ⟨p, 0, none⟩), .int .i64 a, .int .i64 n] (RDev p γ ρ) (fun v' => .tuple #[v', .int .i64 (readT σ a n).2]) 5 1 (readT σ a n).1.length ((readT σ a n).1.map bv) w := by
  unfold readT
  cases hh : hasB σ a n with
  | false => rw [if_pos rfl]; exact nil_rowKT (rread_no p γ ρ a n w (by rw [hsim.has]; exact hh) hd)
  | true =>
    rw [if_neg (by simp)]
    obtain ⟨h0, h2, h1⟩ := has_bd hh
    have := rread_s p γ ρ σ a.toNat n.toNat w hsim hwl (by omega) hd
    rwa [show ((a.toNat : Nat) : Int) = a by omega, show ((n.toNat : Nat) : Int) = n by omega] at this
theorem readT_len (σ : Ds) (a n : Int) : (readT σ a n).1.length ≤ 8 * σ.ws.length := by
  unfold readT; split
  · exact Nat.zero_le _
  · show (List.take _ _).length ≤ _
    rw [List.length_take, List.length_drop, wbytes_length, viewWs, List.length_map]; omega
/-! ### what a step leaves -/
def Goes (σ : Ds) (r : Int × Ds) : Prop := r.2.ws.length = σ.ws.length ∧ r.2.steps ≤ σ.steps + 65537
theorem goes_same (σ : Ds) (e : Int) : Goes σ (e, σ) := ⟨rfl, Nat.le_add_right _ _⟩
theorem goes_store (σ : Ds) (a : Int) (x : BitVec 64) : Goes σ (storeT σ a x) := by
  unfold storeT
  split
  · exact goes_same _ _
  · split
    · exact goes_same _ _
    · rename_i h _
      obtain ⟨K, rfl, hK⟩ := place_inv (Decidable.not_not.1 h)
      rw [show (8 * (K : Int) / 8).toNat = K by omega]
      obtain ⟨h1, _, h3⟩ := storeD_rest (σ := σ) x hK
      exact ⟨h3, by show (storeD σ K x).steps ≤ _; omega⟩
theorem goes_flush (σ : Ds) (a : Int) : Goes σ (flushT σ a) := by
  unfold flushT
  split
  · exact goes_same _ _
  · split
    · exact goes_same _ _
    · obtain ⟨h1, _, h3⟩ := lineD_rest σ (a / 64).toNat
      exact ⟨h3, by show (lineD σ _).steps ≤ _; omega⟩
theorem goes_fence (σ : Ds) : Goes σ (fenceT σ) := by
  unfold fenceT
  split
  · exact goes_same _ _
  · exact ⟨by show (List.map _ _).length = _; rw [List.length_map]; rfl, by show σ.steps + 1 ≤ _; omega⟩
theorem goes_arm (σ : Ds) (m : Int) : Goes σ (armT σ m) := by
  unfold armT
  split
  · exact goes_same _ _
  · split
    · exact goes_same _ _
    · exact ⟨rfl, Nat.le_add_right _ _⟩
theorem goes_write {σ : Ds} (a : Int) (lb : List UInt8) (hwl : σ.ws.length ≤ 65536) : Goes σ (writeT σ a lb) := by
  unfold writeT
  cases hh : hasB σ a lb.length with
  | false => rw [if_pos rfl]; exact goes_same _ _
  | true =>
    rw [if_neg (by simp)]
    split
    · exact goes_same _ _
    · obtain ⟨h0, _, h1⟩ := has_bd hh
      obtain ⟨g1, g2, _⟩ := storesE_rest (wordsL lb (lb.length / 8)) (a / 8).toNat σ (by rw [wordsL_length]; omega)
      rw [wordsL_length] at g2
      exact ⟨g1, by omega⟩
theorem goes_flushAll {σ : Ds} (a n : Int) (hwl : σ.ws.length ≤ 65536) : Goes σ (flushAllT σ a n) := by
  unfold flushAllT
  cases hh : hasB σ a n with
  | false => rw [if_pos rfl]; exact goes_same _ _
  | true =>
    rw [if_neg (by simp)]
    obtain ⟨h0, h2, h1⟩ := has_bd hh
    have hc := cntL_le (a := a.toNat) (n := n.toNat) (W := σ.ws.length) (by omega)
    obtain ⟨g1, g2, _⟩ := linesE_rest (cntL a.toNat n.toNat) (a.toNat / 64) σ
    exact ⟨g1, by omega⟩

end Go.Proofs.Ytkpbpeajkfgfiaa
