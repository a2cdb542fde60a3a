/- The layout's shapes. -/
import Derived.Test.YtoiebgnmknbkjaaDoorA1
set_option linter.unusedVariables false
set_option linter.unusedSimpArgs false
namespace Go.Proofs.YtoiebgnmknbkjaaDoor
open Go Go.Wk

def GoodSup (p i c : Int) : Prop := 24 ≤ p ∧ p ≤ 1024 ∧ 8 ≤ i ∧ i ≤ 256 ∧ i % 8 = 0 ∧ 1 ≤ c ∧ c ≤ 8 ∧ 8 ≤ p - 4 - i / 8
instance (p i c : Int) : Decidable (GoodSup p i c) := by unfold GoodSup; infer_instance
def fitV (p i c : Int) : Value := if GoodSup p i c then .tuple #[.agg #[.int .i64 p, .int .i64 i, .int .i64 c, .int .i64 (4 + i / 8)], .int .i64 0] else .tuple #[.agg #[.int .i64 0, .int .i64 0, .int .i64 0, .int .i64 0], .int .i64 30]
theorem fit_yes {p i c : Int} (h : GoodSup p i c) : fitV p i c = .tuple #[.agg #[.int .i64 p, .int .i64 i, .int .i64 c, .int .i64 (4 + i / 8)], .int .i64 0] := if_pos h
theorem fit_no {p i c : Int} (h : ¬ GoodSup p i c) : fitV p i c = .tuple #[.agg #[.int .i64 0, .int .i64 0, .int .i64 0, .int .i64 0], .int .i64 30] := if_neg h
theorem retB {a b : Bool} (h : a = b) : Ending.returned (.bool a) = .returned (.bool b) := by rw [h]
theorem retI {k : IntKind} {a b : Int} (h : a = b) : Ending.returned (.int k a) = .returned (.int k b) := by rw [h]
theorem rem8 {i : Int} (h : 0 ≤ i) : i.tmod 8 = i % 8 := Int.tmod_eq_emod_of_nonneg h
theorem quo8 {i : Int} (h : 0 ≤ i) : i.tdiv 8 = i / 8 := Int.tdiv_eq_ediv_of_nonneg h
theorem tdiv_nn {i : Int} (n : Int) (h : 0 ≤ i) : i.tdiv n = i / n := Int.tdiv_eq_ediv_of_nonneg h
theorem tmod_nn {i : Int} (n : Int) (h : 0 ≤ i) : i.tmod n = i % n := Int.tmod_eq_emod_of_nonneg h
theorem wI_T {n lo hi : Int} : wI n lo hi = true ↔ lo ≤ n ∧ n ≤ hi := by simp [wI]
theorem wI_F {n lo hi : Int} : wI n lo hi = false ↔ ¬ (lo ≤ n ∧ n ≤ hi) := by rw [← wI_T]; simp
theorem notT {b : Bool} : (!b) = true ↔ b = false := by cases b <;> simp
theorem notF {b : Bool} : (!b) = false ↔ b = true := by cases b <;> simp
theorem bneT {a b : Int} : (a != b) = true ↔ a ≠ b := by simp
theorem bneF {a b : Int} : (a != b) = false ↔ a = b := by simp
theorem beqT {a b : Int} : (a == b) = true ↔ a = b := by simp
theorem beqF {a b : Int} : (a == b) = false ↔ a ≠ b := by simp
theorem decT {p : Prop} [Decidable p] : decide p = true ↔ p := decide_eq_true_iff
theorem decF {p : Prop} [Decidable p] : decide p = false ↔ ¬ p := decide_eq_false_iff_not
def slotAt (n : Int) : Int := if isInoB n = true then 2048 + 64 * (n - 1) else -1
theorem slotAt_T {n : Int} (h : isInoB n = true) : slotAt n = 2048 + 64 * (n - 1) := if_pos h
theorem slotAt_F {n : Int} (h : isInoB n = false) : slotAt n = -1 := if_neg (by rw [h]; simp)
theorem ino_T {n : Int} : isInoB n = true ↔ 1 ≤ n ∧ n ≤ 256 := by unfold isInoB; exact wI_T
theorem ino_F {n : Int} : isInoB n = false ↔ ¬ (1 ≤ n ∧ n ≤ 256) := by unfold isInoB; exact wI_F
theorem data_T {n : Int} : isDataB n = true ↔ 5 ≤ n ∧ n ≤ 1023 := by unfold isDataB; exact wI_T
theorem data_F {n : Int} : isDataB n = false ↔ ¬ (5 ≤ n ∧ n ≤ 1023) := by unfold isDataB; exact wI_F

theorem fit_p (p i c : Int) (w : World) :
    PureC Tryd.prog 20 [.agg #[.int .i64 p, .int .i64 i, .int .i64 c]] (fitV p i c) w := by
  refine enter0 Tryd.func20 rfl Tryd.ntmps20 rfl ?_
  have e8 := @rem8 i
  have q8 := @quo8 i
  simp only [envOf]
  refine At.seq ?_
  refine At.region ?_
  refine At.box rfl rfl rfl (fun b1 => ?_)
  refine At.alloc Tryd.zeroValue25 rfl rfl (fun b2 => ?_)
  refine At.val (Val.assign rfl) rfl rfl rfl ?_
  refine At.nil ?_
  refine At.thenN ?_
  refine At.seq ?_
  refine At.seq ?_
  refine At.region ?_
  refine At.val (Val.field 0 rfl fo_23_0 rfl) rfl rfl rfl ?_
  refine At.val (Val.load (i := 1) Tryd.isAgg3 rfl rfl rfl) rfl rfl rfl ?_
  refine At.callP (fun w hw => within_p _ _ _ w) Tryd.call73 rfl rfl ?_
  refine At.val (Val.not rfl) rfl rfl rfl ?_
  refine At.val (Val.move rfl) rfl rfl rfl ?_
  refine At.split (t := 9) rfl (fun h3 => ?_) (fun h3 => ?_)
  · skip
    try simp only [wI_T, wI_F, notT, notF, bneT, bneF, beqT, beqF, decT, decF] at h3
    refine At.no rfl rfl rfl rfl ?_
    refine At.no rfl rfl rfl rfl ?_
    refine At.no rfl rfl rfl rfl ?_
    refine At.no rfl rfl rfl rfl ?_
    refine At.val (Val.pickT rfl rfl) rfl rfl rfl ?_
    refine At.val (Val.move rfl) rfl rfl rfl ?_
    refine At.no rfl rfl rfl rfl ?_
    refine At.no rfl rfl rfl rfl ?_
    refine At.no rfl rfl rfl rfl ?_
    refine At.no rfl rfl rfl rfl ?_
    refine At.val (Val.pickT rfl rfl) rfl rfl rfl ?_
    refine At.val (Val.move rfl) rfl rfl rfl ?_
    refine At.no rfl rfl rfl rfl ?_
    refine At.no rfl rfl rfl rfl ?_
    refine At.no rfl rfl rfl rfl ?_
    refine At.no rfl rfl rfl rfl ?_
    refine At.val (Val.pickT rfl rfl) rfl rfl rfl ?_
    refine At.nil ?_
    refine At.thenN ?_
    refine At.condT rfl ?_
    refine At.seq ?_
    refine At.region ?_
    refine At.val (Val.build (fun a ha => by simp only [List.map_toArray, List.map_cons, List.map_nil] <;> rfl) (bld_25_)) rfl rfl rfl ?_
    refine At.storeAll (i := 0) Tryd.sizeOf25 rfl rfl rfl (by simp [Value.oneCell']) rfl rfl ?_
    simp only [List.set_cons_zero, List.set_cons_succ]
    refine At.val (Val.assign rfl) rfl rfl rfl ?_
    refine At.nil ?_
    refine At.thenN ?_
    refine At.retC ?_
    refine At.thenR ?_
    refine At.ret2 (.inl rfl) rfl rfl (ResOf.all (i := 0) Tryd.isAgg25 Tryd.sizeOf25 rfl rfl rfl) rfl (fun w hw => ?_)
    exact ⟨by rw [fit_no (by unfold GoodSup; omega)], hw.mod⟩
  · skip
    try simp only [wI_T, wI_F, notT, notF, bneT, bneF, beqT, beqF, decT, decF] at h3
    refine At.yes rfl rfl ?_
    refine At.val (Val.field 1 rfl fo_23_1 rfl) rfl rfl rfl ?_
    refine At.yes rfl rfl ?_
    refine At.val (Val.load (i := 1) Tryd.isAgg3 rfl rfl rfl) rfl rfl rfl ?_
    refine At.yes rfl rfl ?_
    refine At.callP (fun w hw => within_p _ _ _ w) Tryd.call73 rfl rfl ?_
    refine At.yes rfl rfl ?_
    refine At.val (Val.not rfl) rfl rfl rfl ?_
    refine At.val (Val.pickF rfl rfl) rfl rfl rfl ?_
    refine At.val (Val.move rfl) rfl rfl rfl ?_
    refine At.split (t := 15) rfl (fun h4 => ?_) (fun h4 => ?_)
    · skip
      try simp only [wI_T, wI_F, notT, notF, bneT, bneF, beqT, beqF, decT, decF] at h4
      refine At.no rfl rfl rfl rfl ?_
      refine At.no rfl rfl rfl rfl ?_
      refine At.no rfl rfl rfl rfl ?_
      refine At.no rfl rfl rfl rfl ?_
      refine At.val (Val.pickT rfl rfl) rfl rfl rfl ?_
      refine At.val (Val.move rfl) rfl rfl rfl ?_
      refine At.no rfl rfl rfl rfl ?_
      refine At.no rfl rfl rfl rfl ?_
      refine At.no rfl rfl rfl rfl ?_
      refine At.no rfl rfl rfl rfl ?_
      refine At.val (Val.pickT rfl rfl) rfl rfl rfl ?_
      refine At.nil ?_
      refine At.thenN ?_
      refine At.condT rfl ?_
      refine At.seq ?_
      refine At.region ?_
      refine At.val (Val.build (fun a ha => by simp only [List.map_toArray, List.map_cons, List.map_nil] <;> rfl) (bld_25_)) rfl rfl rfl ?_
      refine At.storeAll (i := 0) Tryd.sizeOf25 rfl rfl rfl (by simp [Value.oneCell']) rfl rfl ?_
      simp only [List.set_cons_zero, List.set_cons_succ]
      refine At.val (Val.assign rfl) rfl rfl rfl ?_
      refine At.nil ?_
      refine At.thenN ?_
      refine At.retC ?_
      refine At.thenR ?_
      refine At.ret2 (.inl rfl) rfl rfl (ResOf.all (i := 0) Tryd.isAgg25 Tryd.sizeOf25 rfl rfl rfl) rfl (fun w hw => ?_)
      exact ⟨by rw [fit_no (by unfold GoodSup; omega)], hw.mod⟩
    · skip
      try simp only [wI_T, wI_F, notT, notF, bneT, bneF, beqT, beqF, decT, decF] at h4
      refine At.yes rfl rfl ?_
      refine At.val (Val.field 1 rfl fo_23_1 rfl) rfl rfl rfl ?_
      refine At.yes rfl rfl ?_
      refine At.val (Val.load (i := 1) Tryd.isAgg3 rfl rfl rfl) rfl rfl rfl ?_
      refine At.yes rfl rfl ?_
      refine At.val (Val.rem rfl rfl (by decide)) rfl rfl rfl ?_
      refine At.yes rfl rfl ?_
      refine At.val (Val.bin rfl rfl rfl) rfl rfl rfl ?_
      refine At.val (Val.pickF rfl rfl) rfl rfl rfl ?_
      refine At.val (Val.move rfl) rfl rfl rfl ?_
      refine At.split (t := 21) rfl (fun h5 => ?_) (fun h5 => ?_)
      · skip
        try simp only [wI_T, wI_F, notT, notF, bneT, bneF, beqT, beqF, decT, decF] at h5
        refine At.no rfl rfl rfl rfl ?_
        refine At.no rfl rfl rfl rfl ?_
        refine At.no rfl rfl rfl rfl ?_
        refine At.no rfl rfl rfl rfl ?_
        refine At.val (Val.pickT rfl rfl) rfl rfl rfl ?_
        refine At.nil ?_
        refine At.thenN ?_
        refine At.condT rfl ?_
        refine At.seq ?_
        refine At.region ?_
        refine At.val (Val.build (fun a ha => by simp only [List.map_toArray, List.map_cons, List.map_nil] <;> rfl) (bld_25_)) rfl rfl rfl ?_
        refine At.storeAll (i := 0) Tryd.sizeOf25 rfl rfl rfl (by simp [Value.oneCell']) rfl rfl ?_
        simp only [List.set_cons_zero, List.set_cons_succ]
        refine At.val (Val.assign rfl) rfl rfl rfl ?_
        refine At.nil ?_
        refine At.thenN ?_
        refine At.retC ?_
        refine At.thenR ?_
        refine At.ret2 (.inl rfl) rfl rfl (ResOf.all (i := 0) Tryd.isAgg25 Tryd.sizeOf25 rfl rfl rfl) rfl (fun w hw => ?_)
        exact ⟨by rw [fit_no (by unfold GoodSup; omega)], hw.mod⟩
      · skip
        try simp only [wI_T, wI_F, notT, notF, bneT, bneF, beqT, beqF, decT, decF] at h5
        refine At.yes rfl rfl ?_
        refine At.val (Val.field 2 rfl fo_23_2 rfl) rfl rfl rfl ?_
        refine At.yes rfl rfl ?_
        refine At.val (Val.load (i := 1) Tryd.isAgg3 rfl rfl rfl) rfl rfl rfl ?_
        refine At.yes rfl rfl ?_
        refine At.callP (fun w hw => within_p _ _ _ w) Tryd.call73 rfl rfl ?_
        refine At.yes rfl rfl ?_
        refine At.val (Val.not rfl) rfl rfl rfl ?_
        refine At.val (Val.pickF rfl rfl) rfl rfl rfl ?_
        refine At.nil ?_
        refine At.thenN ?_
        refine At.cond rfl (fun h6 => ?_) (fun h6 => ?_)
        · skip
          try simp only [wI_T, wI_F, notT, notF, bneT, bneF, beqT, beqF, decT, decF] at h6
          refine At.seq ?_
          refine At.region ?_
          refine At.val (Val.build (fun a ha => by simp only [List.map_toArray, List.map_cons, List.map_nil] <;> rfl) (bld_25_)) rfl rfl rfl ?_
          refine At.storeAll (i := 0) Tryd.sizeOf25 rfl rfl rfl (by simp [Value.oneCell']) rfl rfl ?_
          simp only [List.set_cons_zero, List.set_cons_succ]
          refine At.val (Val.assign rfl) rfl rfl rfl ?_
          refine At.nil ?_
          refine At.thenN ?_
          refine At.retC ?_
          refine At.thenR ?_
          refine At.ret2 (.inl rfl) rfl rfl (ResOf.all (i := 0) Tryd.isAgg25 Tryd.sizeOf25 rfl rfl rfl) rfl (fun w hw => ?_)
          exact ⟨by rw [fit_no (by unfold GoodSup; omega)], hw.mod⟩
        · skip
          try simp only [wI_T, wI_F, notT, notF, bneT, bneF, beqT, beqF, decT, decF] at h6
          refine At.skipC ?_
          refine At.thenN ?_
          refine At.seq ?_
          refine At.region ?_
          refine At.val (Val.field 1 rfl fo_23_1 rfl) rfl rfl rfl ?_
          refine At.val (Val.load (i := 1) Tryd.isAgg3 rfl rfl rfl) rfl rfl rfl ?_
          refine At.val (Val.bin rfl rfl rfl) rfl rfl rfl ?_
          refine At.val (Val.bin rfl rfl rfl) rfl rfl rfl ?_
          refine At.val (Val.quo rfl rfl (by decide)) rfl rfl rfl ?_
          refine At.val (Val.assign rfl) rfl rfl rfl ?_
          refine At.nil ?_
          refine At.weaken [(1, .pointer (some ⟨b1, 0, none⟩)), (2, .pointer (some ⟨b2, 0, none⟩)), (4, .int .i64 (4 + i / 8))] (Sub.cons rfl (Sub.cons rfl (Sub.cons (congrArg (fun z => some (Value.int IntKind.i64 z)) (by rw [wrap_i64 (n := i * 64) (by omega) (by omega), wrap_i64 (n := 2048 + i * 64) (by omega) (by omega), tdiv_nn _ (by omega), wrap_i64 (by omega) (by omega)]; omega)) Sub.nil))) ?_
          refine At.thenN ?_
          refine At.seq ?_
          refine At.seq ?_
          refine At.region ?_
          refine At.val (Val.field 0 rfl fo_23_0 rfl) rfl rfl rfl ?_
          refine At.val (Val.load (i := 1) Tryd.isAgg3 rfl rfl rfl) rfl rfl rfl ?_
          refine At.val (Val.move rfl) rfl rfl rfl ?_
          refine At.val (Val.bin rfl rfl rfl) rfl rfl rfl ?_
          rw [wrap_i64 (by omega) (by omega)]
          refine At.val (Val.bin rfl rfl rfl) rfl rfl rfl ?_
          refine At.nil ?_
          refine At.thenN ?_
          refine At.cond rfl (fun h7 => ?_) (fun h7 => ?_)
          · skip
            try simp only [wI_T, wI_F, notT, notF, bneT, bneF, beqT, beqF, decT, decF] at h7
            refine At.seq ?_
            refine At.region ?_
            refine At.val (Val.build (fun a ha => by simp only [List.map_toArray, List.map_cons, List.map_nil] <;> rfl) (bld_25_)) rfl rfl rfl ?_
            refine At.storeAll (i := 0) Tryd.sizeOf25 rfl rfl rfl (by simp [Value.oneCell']) rfl rfl ?_
            simp only [List.set_cons_zero, List.set_cons_succ]
            refine At.val (Val.assign rfl) rfl rfl rfl ?_
            refine At.nil ?_
            refine At.thenN ?_
            refine At.retC ?_
            refine At.thenR ?_
            refine At.ret2 (.inl rfl) rfl rfl (ResOf.all (i := 0) Tryd.isAgg25 Tryd.sizeOf25 rfl rfl rfl) rfl (fun w hw => ?_)
            exact ⟨by rw [fit_no (by unfold GoodSup; omega)], hw.mod⟩
          · skip
            try simp only [wI_T, wI_F, notT, notF, bneT, bneF, beqT, beqF, decT, decF] at h7
            refine At.skipC ?_
            refine At.thenN ?_
            refine At.seq ?_
            refine At.region ?_
            refine At.val (Val.field 0 rfl fo_23_0 rfl) rfl rfl rfl ?_
            refine At.val (Val.load (i := 1) Tryd.isAgg3 rfl rfl rfl) rfl rfl rfl ?_
            refine At.val (Val.field 1 rfl fo_23_1 rfl) rfl rfl rfl ?_
            refine At.val (Val.load (i := 1) Tryd.isAgg3 rfl rfl rfl) rfl rfl rfl ?_
            refine At.val (Val.field 2 rfl fo_23_2 rfl) rfl rfl rfl ?_
            refine At.val (Val.load (i := 1) Tryd.isAgg3 rfl rfl rfl) rfl rfl rfl ?_
            refine At.val (Val.move rfl) rfl rfl rfl ?_
            refine At.val (Val.build (fun a ha => by simp only [List.map_toArray, List.map_cons, List.map_nil, ha.eval (x := (.tmp 40)) rfl, ha.eval (x := (.tmp 42)) rfl, ha.eval (x := (.tmp 44)) rfl, ha.eval (x := (.tmp 45)) rfl] <;> rfl) (bld_25_0_1_2_3 _ _ _ _ )) rfl rfl rfl ?_
            refine At.storeAll (i := 0) Tryd.sizeOf25 rfl rfl rfl (by simp [Value.oneCell']) rfl rfl ?_
            simp only [List.set_cons_zero, List.set_cons_succ]
            refine At.val (Val.assign rfl) rfl rfl rfl ?_
            refine At.nil ?_
            refine At.thenN ?_
            refine At.retC ?_
            refine At.ret2 (.inl rfl) rfl rfl (ResOf.all (i := 0) Tryd.isAgg25 Tryd.sizeOf25 rfl rfl rfl) rfl (fun w hw => ?_)
            exact ⟨by rw [fit_yes (by unfold GoodSup; omega)], hw.mod⟩

theorem goodSup_p (p i c : Int) (w : World) (hp : -9223372036854775808 ≤ p ∧ p ≤ 9223372036854775807) :
    PureC Tryd.prog 74 [.agg #[.int .i64 p, .int .i64 i, .int .i64 c]] (.bool (decide (GoodSup p i c))) w := by
  refine enter0 Tryd.func74 rfl Tryd.ntmps74 rfl ?_
  have e8 := @rem8 i
  have q8 := @quo8 i
  simp only [envOf]
  refine At.seq ?_
  refine At.region ?_
  refine At.box rfl rfl rfl (fun b1 => ?_)
  refine At.val (Val.assign rfl) rfl rfl rfl ?_
  refine At.nil ?_
  refine At.thenN ?_
  refine At.seq ?_
  refine At.seq ?_
  refine At.region ?_
  refine At.val (Val.field 0 rfl fo_23_0 rfl) rfl rfl rfl ?_
  refine At.val (Val.load (i := 0) Tryd.isAgg3 rfl rfl rfl) rfl rfl rfl ?_
  refine At.val (Val.bin rfl rfl rfl) rfl rfl rfl ?_
  refine At.val (Val.move rfl) rfl rfl rfl ?_
  refine At.split (t := 6) rfl (fun h2 => ?_) (fun h2 => ?_)
  · skip
    try simp only [wI_T, wI_F, notT, notF, bneT, bneF, beqT, beqF, decT, decF] at h2
    refine At.no rfl rfl rfl rfl ?_
    refine At.no rfl rfl rfl rfl ?_
    refine At.no rfl rfl rfl rfl ?_
    refine At.val (Val.pickT rfl rfl) rfl rfl rfl ?_
    refine At.val (Val.move rfl) rfl rfl rfl ?_
    refine At.no rfl rfl rfl rfl ?_
    refine At.no rfl rfl rfl rfl ?_
    refine At.no rfl rfl rfl rfl ?_
    refine At.val (Val.pickT rfl rfl) rfl rfl rfl ?_
    refine At.val (Val.move rfl) rfl rfl rfl ?_
    refine At.no rfl rfl rfl rfl ?_
    refine At.no rfl rfl rfl rfl ?_
    refine At.no rfl rfl rfl rfl ?_
    refine At.val (Val.pickT rfl rfl) rfl rfl rfl ?_
    refine At.nil ?_
    refine At.thenN ?_
    refine At.condT rfl ?_
    refine At.seq ?_
    refine At.region ?_
    refine At.val (Val.assign rfl) rfl rfl rfl ?_
    refine At.nil ?_
    refine At.thenN ?_
    refine At.retC ?_
    refine At.thenR ?_
    refine At.ret1 (.inl rfl) rfl rfl rfl (fun w hw => ?_)
    exact ⟨by rw [decide_eq_false (by unfold GoodSup; omega)], hw.mod⟩
  · skip
    try simp only [wI_T, wI_F, notT, notF, bneT, bneF, beqT, beqF, decT, decF] at h2
    refine At.yes rfl rfl ?_
    refine At.val (Val.field 0 rfl fo_23_0 rfl) rfl rfl rfl ?_
    refine At.yes rfl rfl ?_
    refine At.val (Val.load (i := 0) Tryd.isAgg3 rfl rfl rfl) rfl rfl rfl ?_
    refine At.yes rfl rfl ?_
    refine At.val (Val.bin rfl rfl rfl) rfl rfl rfl ?_
    refine At.val (Val.pickF rfl rfl) rfl rfl rfl ?_
    refine At.val (Val.move rfl) rfl rfl rfl ?_
    refine At.split (t := 11) rfl (fun h3 => ?_) (fun h3 => ?_)
    · skip
      try simp only [wI_T, wI_F, notT, notF, bneT, bneF, beqT, beqF, decT, decF] at h3
      refine At.no rfl rfl rfl rfl ?_
      refine At.no rfl rfl rfl rfl ?_
      refine At.no rfl rfl rfl rfl ?_
      refine At.val (Val.pickT rfl rfl) rfl rfl rfl ?_
      refine At.val (Val.move rfl) rfl rfl rfl ?_
      refine At.no rfl rfl rfl rfl ?_
      refine At.no rfl rfl rfl rfl ?_
      refine At.no rfl rfl rfl rfl ?_
      refine At.val (Val.pickT rfl rfl) rfl rfl rfl ?_
      refine At.nil ?_
      refine At.thenN ?_
      refine At.condT rfl ?_
      refine At.seq ?_
      refine At.region ?_
      refine At.val (Val.assign rfl) rfl rfl rfl ?_
      refine At.nil ?_
      refine At.thenN ?_
      refine At.retC ?_
      refine At.thenR ?_
      refine At.ret1 (.inl rfl) rfl rfl rfl (fun w hw => ?_)
      exact ⟨by rw [decide_eq_false (by unfold GoodSup; omega)], hw.mod⟩
    · skip
      try simp only [wI_T, wI_F, notT, notF, bneT, bneF, beqT, beqF, decT, decF] at h3
      refine At.yes rfl rfl ?_
      refine At.val (Val.field 2 rfl fo_23_2 rfl) rfl rfl rfl ?_
      refine At.yes rfl rfl ?_
      refine At.val (Val.load (i := 0) Tryd.isAgg3 rfl rfl rfl) rfl rfl rfl ?_
      refine At.yes rfl rfl ?_
      refine At.val (Val.bin rfl rfl rfl) rfl rfl rfl ?_
      refine At.val (Val.pickF rfl rfl) rfl rfl rfl ?_
      refine At.val (Val.move rfl) rfl rfl rfl ?_
      refine At.split (t := 16) rfl (fun h4 => ?_) (fun h4 => ?_)
      · skip
        try simp only [wI_T, wI_F, notT, notF, bneT, bneF, beqT, beqF, decT, decF] at h4
        refine At.no rfl rfl rfl rfl ?_
        refine At.no rfl rfl rfl rfl ?_
        refine At.no rfl rfl rfl rfl ?_
        refine At.val (Val.pickT rfl rfl) rfl rfl rfl ?_
        refine At.nil ?_
        refine At.thenN ?_
        refine At.condT rfl ?_
        refine At.seq ?_
        refine At.region ?_
        refine At.val (Val.assign rfl) rfl rfl rfl ?_
        refine At.nil ?_
        refine At.thenN ?_
        refine At.retC ?_
        refine At.thenR ?_
        refine At.ret1 (.inl rfl) rfl rfl rfl (fun w hw => ?_)
        exact ⟨by rw [decide_eq_false (by unfold GoodSup; omega)], hw.mod⟩
      · skip
        try simp only [wI_T, wI_F, notT, notF, bneT, bneF, beqT, beqF, decT, decF] at h4
        refine At.yes rfl rfl ?_
        refine At.val (Val.field 2 rfl fo_23_2 rfl) rfl rfl rfl ?_
        refine At.yes rfl rfl ?_
        refine At.val (Val.load (i := 0) Tryd.isAgg3 rfl rfl rfl) rfl rfl rfl ?_
        refine At.yes rfl rfl ?_
        refine At.val (Val.bin rfl rfl rfl) rfl rfl rfl ?_
        refine At.val (Val.pickF rfl rfl) rfl rfl rfl ?_
        refine At.nil ?_
        refine At.thenN ?_
        refine At.cond rfl (fun h5 => ?_) (fun h5 => ?_)
        · skip
          try simp only [wI_T, wI_F, notT, notF, bneT, bneF, beqT, beqF, decT, decF] at h5
          refine At.seq ?_
          refine At.region ?_
          refine At.val (Val.assign rfl) rfl rfl rfl ?_
          refine At.nil ?_
          refine At.thenN ?_
          refine At.retC ?_
          refine At.thenR ?_
          refine At.ret1 (.inl rfl) rfl rfl rfl (fun w hw => ?_)
          exact ⟨by rw [decide_eq_false (by unfold GoodSup; omega)], hw.mod⟩
        · skip
          try simp only [wI_T, wI_F, notT, notF, bneT, bneF, beqT, beqF, decT, decF] at h5
          refine At.skipC ?_
          refine At.thenN ?_
          refine At.seq ?_
          refine At.seq ?_
          refine At.region ?_
          refine At.val (Val.field 1 rfl fo_23_1 rfl) rfl rfl rfl ?_
          refine At.val (Val.load (i := 0) Tryd.isAgg3 rfl rfl rfl) rfl rfl rfl ?_
          refine At.val (Val.bin rfl rfl rfl) rfl rfl rfl ?_
          refine At.val (Val.move rfl) rfl rfl rfl ?_
          refine At.split (t := 24) rfl (fun h6 => ?_) (fun h6 => ?_)
          · skip
            try simp only [wI_T, wI_F, notT, notF, bneT, bneF, beqT, beqF, decT, decF] at h6
            refine At.no rfl rfl rfl rfl ?_
            refine At.no rfl rfl rfl rfl ?_
            refine At.no rfl rfl rfl rfl ?_
            refine At.val (Val.pickT rfl rfl) rfl rfl rfl ?_
            refine At.val (Val.move rfl) rfl rfl rfl ?_
            refine At.no rfl rfl rfl rfl ?_
            refine At.no rfl rfl rfl rfl ?_
            refine At.no rfl rfl rfl rfl ?_
            refine At.no rfl rfl rfl rfl ?_
            refine At.val (Val.pickT rfl rfl) rfl rfl rfl ?_
            refine At.nil ?_
            refine At.thenN ?_
            refine At.condT rfl ?_
            refine At.seq ?_
            refine At.region ?_
            refine At.val (Val.assign rfl) rfl rfl rfl ?_
            refine At.nil ?_
            refine At.thenN ?_
            refine At.retC ?_
            refine At.thenR ?_
            refine At.ret1 (.inl rfl) rfl rfl rfl (fun w hw => ?_)
            exact ⟨by rw [decide_eq_false (by unfold GoodSup; omega)], hw.mod⟩
          · skip
            try simp only [wI_T, wI_F, notT, notF, bneT, bneF, beqT, beqF, decT, decF] at h6
            refine At.yes rfl rfl ?_
            refine At.val (Val.field 1 rfl fo_23_1 rfl) rfl rfl rfl ?_
            refine At.yes rfl rfl ?_
            refine At.val (Val.load (i := 0) Tryd.isAgg3 rfl rfl rfl) rfl rfl rfl ?_
            refine At.yes rfl rfl ?_
            refine At.val (Val.bin rfl rfl rfl) rfl rfl rfl ?_
            refine At.val (Val.pickF rfl rfl) rfl rfl rfl ?_
            refine At.val (Val.move rfl) rfl rfl rfl ?_
            refine At.split (t := 29) rfl (fun h7 => ?_) (fun h7 => ?_)
            · skip
              try simp only [wI_T, wI_F, notT, notF, bneT, bneF, beqT, beqF, decT, decF] at h7
              refine At.no rfl rfl rfl rfl ?_
              refine At.no rfl rfl rfl rfl ?_
              refine At.no rfl rfl rfl rfl ?_
              refine At.no rfl rfl rfl rfl ?_
              refine At.val (Val.pickT rfl rfl) rfl rfl rfl ?_
              refine At.nil ?_
              refine At.thenN ?_
              refine At.condT rfl ?_
              refine At.seq ?_
              refine At.region ?_
              refine At.val (Val.assign rfl) rfl rfl rfl ?_
              refine At.nil ?_
              refine At.thenN ?_
              refine At.retC ?_
              refine At.thenR ?_
              refine At.ret1 (.inl rfl) rfl rfl rfl (fun w hw => ?_)
              exact ⟨by rw [decide_eq_false (by unfold GoodSup; omega)], hw.mod⟩
            · skip
              try simp only [wI_T, wI_F, notT, notF, bneT, bneF, beqT, beqF, decT, decF] at h7
              refine At.yes rfl rfl ?_
              refine At.val (Val.field 1 rfl fo_23_1 rfl) rfl rfl rfl ?_
              refine At.yes rfl rfl ?_
              refine At.val (Val.load (i := 0) Tryd.isAgg3 rfl rfl rfl) rfl rfl rfl ?_
              refine At.yes rfl rfl ?_
              refine At.val (Val.rem rfl rfl (by decide)) rfl rfl rfl ?_
              refine At.yes rfl rfl ?_
              refine At.val (Val.bin rfl rfl rfl) rfl rfl rfl ?_
              refine At.val (Val.pickF rfl rfl) rfl rfl rfl ?_
              refine At.nil ?_
              refine At.thenN ?_
              refine At.cond rfl (fun h8 => ?_) (fun h8 => ?_)
              · skip
                try simp only [wI_T, wI_F, notT, notF, bneT, bneF, beqT, beqF, decT, decF] at h8
                refine At.seq ?_
                refine At.region ?_
                refine At.val (Val.assign rfl) rfl rfl rfl ?_
                refine At.nil ?_
                refine At.thenN ?_
                refine At.retC ?_
                refine At.thenR ?_
                refine At.ret1 (.inl rfl) rfl rfl rfl (fun w hw => ?_)
                exact ⟨by rw [decide_eq_false (by unfold GoodSup; omega)], hw.mod⟩
              · skip
                try simp only [wI_T, wI_F, notT, notF, bneT, bneF, beqT, beqF, decT, decF] at h8
                refine At.skipC ?_
                refine At.thenN ?_
                refine At.seq ?_
                refine At.region ?_
                refine At.val (Val.field 0 rfl fo_23_0 rfl) rfl rfl rfl ?_
                refine At.val (Val.load (i := 0) Tryd.isAgg3 rfl rfl rfl) rfl rfl rfl ?_
                refine At.val (Val.bin rfl rfl rfl) rfl rfl rfl ?_
                refine At.val (Val.field 1 rfl fo_23_1 rfl) rfl rfl rfl ?_
                refine At.val (Val.load (i := 0) Tryd.isAgg3 rfl rfl rfl) rfl rfl rfl ?_
                refine At.val (Val.quo rfl rfl (by decide)) rfl rfl rfl ?_
                refine At.val (Val.bin rfl rfl rfl) rfl rfl rfl ?_
                refine At.val (Val.bin rfl rfl rfl) rfl rfl rfl ?_
                refine At.val (Val.assign rfl) rfl rfl rfl ?_
                refine At.nil ?_
                refine At.thenN ?_
                refine At.retC ?_
                refine At.ret1 (.inl rfl) rfl rfl rfl (fun w hw => ?_)
                exact ⟨by rw [wrap_i64 (n := p - 4) (by omega) (by omega), quo8 (by omega), wrap_i64 (n := i / 8) (by omega) (by omega), wrap_i64 (by omega) (by omega)]; refine retB (Bool.eq_iff_iff.2 ?_); simp only [decide_eq_true_eq]; unfold GoodSup; omega, hw.mod⟩

theorem fitR_p (p i c : Int) (w : World) (hp : -9223372036854775808 ≤ p ∧ p ≤ 9223372036854775807) :
    PureC Tryd.prog 21 [.agg #[.int .i64 p, .int .i64 i, .int .i64 c]] (fitV p i c) w := by
  refine enter0 Tryd.func21 rfl Tryd.ntmps21 rfl ?_
  have e8 := @rem8 i
  have q8 := @quo8 i
  simp only [envOf]
  refine At.seq ?_
  refine At.region ?_
  refine At.box rfl rfl rfl (fun b1 => ?_)
  refine At.alloc Tryd.zeroValue25 rfl rfl (fun b2 => ?_)
  refine At.val (Val.assign rfl) rfl rfl rfl ?_
  refine At.nil ?_
  refine At.thenN ?_
  refine At.seq ?_
  refine At.seq ?_
  refine At.region ?_
  refine At.val (Val.loadAll (i := 1) Tryd.isAgg23 Tryd.sizeOf23 rfl rfl rfl) rfl rfl rfl ?_
  refine At.callP (fun w hw => goodSup_p _ _ _ w hp) Tryd.call74 rfl rfl ?_
  refine At.val (Val.not rfl) rfl rfl rfl ?_
  refine At.nil ?_
  refine At.thenN ?_
  refine At.cond rfl (fun h3 => ?_) (fun h3 => ?_)
  · skip
    try simp only [wI_T, wI_F, notT, notF, bneT, bneF, beqT, beqF, decT, decF] at h3
    refine At.seq ?_
    refine At.region ?_
    refine At.val (Val.build (fun a ha => by simp only [List.map_toArray, List.map_cons, List.map_nil] <;> rfl) (bld_25_)) rfl rfl rfl ?_
    refine At.storeAll (i := 0) Tryd.sizeOf25 rfl rfl rfl (by simp [Value.oneCell']) rfl rfl ?_
    simp only [List.set_cons_zero, List.set_cons_succ]
    refine At.val (Val.assign rfl) rfl rfl rfl ?_
    refine At.nil ?_
    refine At.thenN ?_
    refine At.retC ?_
    refine At.thenR ?_
    refine At.ret2 (.inl rfl) rfl rfl (ResOf.all (i := 0) Tryd.isAgg25 Tryd.sizeOf25 rfl rfl rfl) rfl (fun w hw => ?_)
    exact ⟨by rw [fit_no ‹¬ GoodSup p i c›], hw.mod⟩
  · skip
    try simp only [wI_T, wI_F, notT, notF, bneT, bneF, beqT, beqF, decT, decF] at h3
    refine At.skipC ?_
    refine At.thenN ?_
    refine At.seq ?_
    refine At.region ?_
    refine At.val (Val.field 0 rfl fo_23_0 rfl) rfl rfl rfl ?_
    refine At.val (Val.load (i := 1) Tryd.isAgg3 rfl rfl rfl) rfl rfl rfl ?_
    refine At.val (Val.field 1 rfl fo_23_1 rfl) rfl rfl rfl ?_
    refine At.val (Val.load (i := 1) Tryd.isAgg3 rfl rfl rfl) rfl rfl rfl ?_
    refine At.val (Val.field 2 rfl fo_23_2 rfl) rfl rfl rfl ?_
    refine At.val (Val.load (i := 1) Tryd.isAgg3 rfl rfl rfl) rfl rfl rfl ?_
    refine At.val (Val.field 1 rfl fo_23_1 rfl) rfl rfl rfl ?_
    refine At.val (Val.load (i := 1) Tryd.isAgg3 rfl rfl rfl) rfl rfl rfl ?_
    have hg : GoodSup p i c := ‹GoodSup p i c›
    have hg' := hg
    unfold GoodSup at hg'
    refine At.val (Val.quo rfl rfl (by decide)) rfl rfl rfl ?_
    rw [quo8 (by omega), wrap_i64 (by omega) (by omega)]
    refine At.val (Val.bin rfl rfl rfl) rfl rfl rfl ?_
    rw [wrap_i64 (by omega) (by omega)]
    refine At.val (Val.build (fun a ha => by simp only [List.map_toArray, List.map_cons, List.map_nil, ha.eval (x := (.tmp 9)) rfl, ha.eval (x := (.tmp 11)) rfl, ha.eval (x := (.tmp 13)) rfl, ha.eval (x := (.tmp 17)) rfl] <;> rfl) (bld_25_0_1_2_3 _ _ _ _ )) rfl rfl rfl ?_
    refine At.storeAll (i := 0) Tryd.sizeOf25 rfl rfl rfl (by simp [Value.oneCell']) rfl rfl ?_
    simp only [List.set_cons_zero, List.set_cons_succ]
    refine At.val (Val.assign rfl) rfl rfl rfl ?_
    refine At.nil ?_
    refine At.thenN ?_
    refine At.retC ?_
    refine At.ret2 (.inl rfl) rfl rfl (ResOf.all (i := 0) Tryd.isAgg25 Tryd.sizeOf25 rfl rfl rfl) rfl (fun w hw => ?_)
    exact ⟨by rw [fit_yes hg], hw.mod⟩

theorem dataR_p (n : Int) (w : World) :
    PureC Tryd.prog 92 [.int .i64 n] (.bool (isDataB n)) w := by
  refine enter0 Tryd.func92 rfl Tryd.ntmps92 rfl ?_
  simp only [envOf]
  refine At.seq ?_
  refine At.region ?_
  refine At.val (Val.assign rfl) rfl rfl rfl ?_
  refine At.nil ?_
  refine At.thenN ?_
  refine At.seq ?_
  refine At.region ?_
  refine At.val (Val.move rfl) rfl rfl rfl ?_
  refine At.val (Val.bin rfl rfl rfl) rfl rfl rfl ?_
  refine At.val (Val.move rfl) rfl rfl rfl ?_
  refine At.split (t := 5) rfl (fun h1 => ?_) (fun h1 => ?_)
  · skip
    refine At.yes rfl rfl ?_
    refine At.val (Val.move rfl) rfl rfl rfl ?_
    refine At.yes rfl rfl ?_
    refine At.val (Val.bin rfl rfl rfl) rfl rfl rfl ?_
    refine At.val (Val.pickT rfl rfl) rfl rfl rfl ?_
    refine At.val (Val.assign rfl) rfl rfl rfl ?_
    refine At.nil ?_
    refine At.thenN ?_
    refine At.retC ?_
    refine At.ret1 (.inl rfl) rfl rfl rfl (fun w hw => ?_)
    exact ⟨by refine retB (Bool.eq_iff_iff.2 ?_); simp only [decide_eq_true_eq, data_T]; simp at h1; omega, hw.mod⟩
  · skip
    refine At.no rfl rfl rfl rfl ?_
    refine At.no rfl rfl rfl rfl ?_
    refine At.val (Val.pickF rfl rfl) rfl rfl rfl ?_
    refine At.val (Val.assign rfl) rfl rfl rfl ?_
    refine At.nil ?_
    refine At.thenN ?_
    refine At.retC ?_
    refine At.ret1 (.inl rfl) rfl rfl rfl (fun w hw => ?_)
    exact ⟨by refine retB (Eq.symm ?_); rw [data_F]; simp at h1; omega, hw.mod⟩

theorem inodeR_p (n : Int) (w : World) :
    PureC Tryd.prog 82 [.int .i64 n] (.bool (isInoB n)) w := by
  refine enter0 Tryd.func82 rfl Tryd.ntmps82 rfl ?_
  simp only [envOf]
  refine At.seq ?_
  refine At.region ?_
  refine At.val (Val.assign rfl) rfl rfl rfl ?_
  refine At.nil ?_
  refine At.thenN ?_
  refine At.seq ?_
  refine At.region ?_
  refine At.val (Val.move rfl) rfl rfl rfl ?_
  refine At.val (Val.bin rfl rfl rfl) rfl rfl rfl ?_
  refine At.val (Val.move rfl) rfl rfl rfl ?_
  refine At.split (t := 5) rfl (fun h1 => ?_) (fun h1 => ?_)
  · skip
    refine At.yes rfl rfl ?_
    refine At.val (Val.move rfl) rfl rfl rfl ?_
    refine At.yes rfl rfl ?_
    refine At.val (Val.bin rfl rfl rfl) rfl rfl rfl ?_
    refine At.val (Val.pickT rfl rfl) rfl rfl rfl ?_
    refine At.val (Val.assign rfl) rfl rfl rfl ?_
    refine At.nil ?_
    refine At.thenN ?_
    refine At.retC ?_
    refine At.ret1 (.inl rfl) rfl rfl rfl (fun w hw => ?_)
    exact ⟨by refine retB (Bool.eq_iff_iff.2 ?_); simp only [decide_eq_true_eq, ino_T]; simp at h1; omega, hw.mod⟩
  · skip
    refine At.no rfl rfl rfl rfl ?_
    refine At.no rfl rfl rfl rfl ?_
    refine At.val (Val.pickF rfl rfl) rfl rfl rfl ?_
    refine At.val (Val.assign rfl) rfl rfl rfl ?_
    refine At.nil ?_
    refine At.thenN ?_
    refine At.retC ?_
    refine At.ret1 (.inl rfl) rfl rfl rfl (fun w hw => ?_)
    exact ⟨by refine retB (Eq.symm ?_); rw [ino_F]; simp at h1; omega, hw.mod⟩

theorem slotAt_p (n : Int) (w : World) :
    PureC Tryd.prog 24 [.int .i64 n] (.int .i64 (slotAt n)) w := by
  refine enter0 Tryd.func24 rfl Tryd.ntmps24 rfl ?_
  simp only [envOf]
  refine At.seq ?_
  refine At.region ?_
  refine At.val (Val.assign rfl) rfl rfl rfl ?_
  refine At.nil ?_
  refine At.thenN ?_
  refine At.seq ?_
  refine At.seq ?_
  refine At.region ?_
  refine At.val (Val.move rfl) rfl rfl rfl ?_
  refine At.callP (fun w hw => isInode_p _ w) Tryd.call81 rfl rfl ?_
  refine At.val (Val.not rfl) rfl rfl rfl ?_
  refine At.nil ?_
  refine At.thenN ?_
  refine At.cond rfl (fun h1 => ?_) (fun h1 => ?_)
  · skip
    try simp only [notT, notF] at h1
    refine At.seq ?_
    refine At.region ?_
    refine At.val (Val.assign rfl) rfl rfl rfl ?_
    refine At.nil ?_
    refine At.thenN ?_
    refine At.retC ?_
    refine At.thenR ?_
    refine At.ret1 (.inl rfl) rfl rfl rfl (fun w hw => ?_)
    exact ⟨by rw [slotAt_F h1], hw.mod⟩
  · skip
    try simp only [notT, notF] at h1
    refine At.skipC ?_
    refine At.thenN ?_
    refine At.seq ?_
    refine At.region ?_
    refine At.val (Val.move rfl) rfl rfl rfl ?_
    refine At.val (Val.bin rfl rfl rfl) rfl rfl rfl ?_
    refine At.val (Val.bin rfl rfl rfl) rfl rfl rfl ?_
    refine At.val (Val.bin rfl rfl rfl) rfl rfl rfl ?_
    refine At.val (Val.assign rfl) rfl rfl rfl ?_
    refine At.nil ?_
    refine At.thenN ?_
    refine At.retC ?_
    refine At.ret1 (.inl rfl) rfl rfl rfl (fun w hw => ?_)
    exact ⟨by rw [slotAt_T h1]; have h2 := ino_T.1 h1; refine retI ?_; rw [wrap_i64 (n := n - 1) (by omega) (by omega), wrap_i64 (n := (n - 1) * 64) (by omega) (by omega), wrap_i64 (by omega) (by omega)]; omega, hw.mod⟩

theorem slotAtR_p (n : Int) (w : World) :
    PureC Tryd.prog 25 [.int .i64 n] (.int .i64 (slotAt n)) w := by
  refine enter0 Tryd.func25 rfl Tryd.ntmps25 rfl ?_
  simp only [envOf]
  refine At.seq ?_
  refine At.region ?_
  refine At.val (Val.assign rfl) rfl rfl rfl ?_
  refine At.nil ?_
  refine At.thenN ?_
  refine At.seq ?_
  refine At.seq ?_
  refine At.region ?_
  refine At.val (Val.move rfl) rfl rfl rfl ?_
  refine At.callP (fun w hw => inodeR_p _ w) Tryd.call82 rfl rfl ?_
  refine At.val (Val.not rfl) rfl rfl rfl ?_
  refine At.nil ?_
  refine At.thenN ?_
  refine At.cond rfl (fun h1 => ?_) (fun h1 => ?_)
  · skip
    try simp only [notT, notF] at h1
    refine At.seq ?_
    refine At.region ?_
    refine At.val (Val.assign rfl) rfl rfl rfl ?_
    refine At.nil ?_
    refine At.thenN ?_
    refine At.retC ?_
    refine At.thenR ?_
    refine At.ret1 (.inl rfl) rfl rfl rfl (fun w hw => ?_)
    exact ⟨by rw [slotAt_F h1], hw.mod⟩
  · skip
    try simp only [notT, notF] at h1
    refine At.skipC ?_
    refine At.thenN ?_
    refine At.seq ?_
    refine At.region ?_
    refine At.val (Val.move rfl) rfl rfl rfl ?_
    refine At.val (Val.bin rfl rfl rfl) rfl rfl rfl ?_
    refine At.val (Val.bin rfl rfl rfl) rfl rfl rfl ?_
    refine At.val (Val.bin rfl rfl rfl) rfl rfl rfl ?_
    refine At.val (Val.assign rfl) rfl rfl rfl ?_
    refine At.nil ?_
    refine At.thenN ?_
    refine At.retC ?_
    refine At.ret1 (.inl rfl) rfl rfl rfl (fun w hw => ?_)
    exact ⟨by rw [slotAt_T h1]; have h2 := ino_T.1 h1; refine retI ?_; rw [wrap_i64 (n := n - 1) (by omega) (by omega), wrap_i64 (n := 64 * (n - 1)) (by omega) (by omega), wrap_i64 (by omega) (by omega)], hw.mod⟩

end Go.Proofs.YtoiebgnmknbkjaaDoor
