/- Giving up, and catching it. -/
import Derived.Test.YtoiebgnmknbkjaaDoorFa
import Derived.Test.YtoiebgnmknbkjaaDoorWb
set_option linter.unusedVariables false
set_option linter.unusedSimpArgs false
namespace Go.Proofs.YtoiebgnmknbkjaaDoor
open Go Go.Wk
theorem must_T (e : Int) (w : World) :
    PureC Tryd.prog 84 [.bool true, .int .i64 e] (.tuple #[]) w := by
  refine enter0 Tryd.func84 rfl Tryd.ntmps84 rfl ?_
  simp only [envOf]
  refine At.seq ?_
  refine At.region ?_
  refine At.val (Val.move rfl) rfl rfl rfl ?_
  refine At.val (Val.not rfl) rfl rfl rfl ?_
  refine At.nil ?_
  refine At.thenN ?_
  refine At.condF rfl ?_
  refine At.skipC ?_
  refine At.ret0 (.inr rfl) rfl rfl  (fun w hw => ?_)
  exact ⟨rfl, hw.mod⟩

theorem must_F (e : Int) (w : World) :
    Throws0 Tryd.prog 84 [.bool false, .int .i64 e] (brk 178 e) w := by
  refine enter0 Tryd.func84 rfl Tryd.ntmps84 rfl ?_
  simp only [envOf]
  refine At.seq ?_
  refine At.region ?_
  refine At.val (Val.move rfl) rfl rfl rfl ?_
  refine At.val (Val.not rfl) rfl rfl rfl ?_
  refine At.nil ?_
  refine At.thenN ?_
  refine At.condT rfl ?_
  refine At.region ?_
  refine At.val (Val.move rfl) rfl rfl rfl ?_
  refine At.val (Val.build (fun a ha => by simp only [List.map_toArray, List.map_cons, List.map_nil, ha.eval (x := (.tmp 6)) rfl] <;> rfl) (bld_178_0 _ )) rfl rfl rfl ?_
  refine At.val (Val.mkIface Tryd.underlying178 rfl) rfl rfl rfl ?_
  refine At.panicOp rfl ?_
  refine At.fail rfl (fun w hw => ?_)
  exact ⟨rfl, hw.mod⟩

theorem caughtSuper_idle (b1' b2' : Nat) (w : World) :
    Idle Tryd.prog 83 [.pointer (some ⟨b1', 0, none⟩), .pointer (some ⟨b2', 0, none⟩)] w := by
  refine CallsD.mono (enterC (v := .nilIface) (um' := .returning) (R := fun e w' => e = .returned (.tuple #[]) ∧ Mod (fun _ => False) w w') (fun _ => False) [] Tryd.func83 rfl Tryd.ntmps83 rfl rfl ⟨by simp, by simp, by simp, Mod.refl _ _⟩ (fun c₀ cs hu => .inr ⟨by simp [recoverD, hu], rfl, rfl⟩) ?_) (fun e u' w' h => ⟨h.2.1, h.1, h.2.2⟩)
  simp only [envOf]
  refine At.block ?_
  refine At.seq ?_
  refine At.region ?_
  refine At.val (Val.ifNilNil (by kernel_rfl) rfl) rfl rfl rfl ?_
  refine At.nil ?_
  refine At.thenN ?_
  refine At.condT rfl ?_
  refine At.region ?_
  refine At.val (Val.assign rfl) rfl rfl rfl ?_
  refine At.nil ?_
  refine At.blkN ?_
  refine At.ret0 (.inr rfl) rfl rfl  (fun w hw => ?_)
  exact ⟨rfl, hw.mod⟩

theorem caughtSuper_pan (b1' b2' : Nat) (cs : List Value) (x : Value) (why : Int) (w : World) (h1 : Holds w b1' 23 cs) (hl : cs.length = 3) (h2 : Holds w b2' 26 [x]) (hne : b1' ≠ b2') :
    Catches Tryd.prog 83 [.pointer (some ⟨b1', 0, none⟩), .pointer (some ⟨b2', 0, none⟩)] (brk 178 why) (blk b1' 23 cs) (blk b2' 26 [x]) (blk b1' 23 [Value.int .i64 0, Value.int .i64 0, Value.int .i64 0]) (blk b2' 26 [.int .i64 why]) w := by
  refine CallsD.mono (enterC (v := .iface 178 (.agg #[.int .i64 why])) (um' := .panicking [{ v := .iface 178 (.agg #[.int .i64 why]), recovered := true }]) (R := fun e w' => e = .returned (.tuple #[]) ∧ Rep w (feet [(blk b1' 23 cs), (blk b2' 26 [x])]) [(blk b1' 23 [Value.int .i64 0, Value.int .i64 0, Value.int .i64 0]), (blk b2' 26 [.int .i64 why])] w') (feet [(blk b1' 23 cs), (blk b2' 26 [x])]) [(blk b1' 23 cs), (blk b2' 26 [x])] Tryd.func83 rfl Tryd.ntmps83 rfl rfl (Rep.start (by simp only [List.pairwise_cons, List.mem_singleton, forall_eq, List.not_mem_nil, false_implies, implies_true, List.Pairwise.nil, and_true]; exact fun b (hb1 : b = b1') (hb2 : b = b2') => hne (hb1.symm.trans hb2)) (fun r hr => by rcases List.mem_cons.1 hr with rfl | hr; exact h1; rcases List.mem_cons.1 hr with rfl | hr; exact h2; cases hr)) (fun c₀ cs hu => .inl (by simp [recoverD, hu])) ?_) (fun e u' w' h => ⟨h.2.1, by rw [h.1]; rfl, h.2.2⟩)
  simp only [envOf]
  refine At.block ?_
  refine At.seq ?_
  refine At.region ?_
  refine At.val (Val.ifHeldNil (by kernel_rfl) rfl) rfl rfl rfl ?_
  refine At.nil ?_
  refine At.thenN ?_
  refine At.condF rfl ?_
  refine At.seq ?_
  refine At.region ?_
  refine At.val (Val.assertIs Tryd.underlying178 rfl) rfl rfl rfl ?_
  refine At.val (Val.extract rfl rfl) rfl rfl rfl ?_
  refine At.val (Val.extract rfl rfl) rfl rfl rfl ?_
  refine At.nil ?_
  refine At.thenN ?_
  refine At.condT rfl ?_
  refine At.seq ?_
  refine At.region ?_
  refine At.alloc Tryd.zeroValue178 rfl rfl (fun b1 => ?_)
  refine At.storeAll (i := 0) Tryd.sizeOf178 rfl rfl rfl (by simp [Value.oneCell']) rfl rfl ?_
  simp only [List.set_cons_zero, List.set_cons_succ]
  refine At.nil ?_
  refine At.thenN ?_
  refine At.seq ?_
  refine At.region ?_
  refine At.alloc Tryd.zeroValue23 rfl rfl (fun b2 => ?_)
  refine At.nil ?_
  refine At.thenN ?_
  refine At.mid 7 6 [blk b2 23 [Value.int .i64 0, Value.int .i64 0, Value.int .i64 0], blk b1 178 [_], blkP b1' 23 (fun _ => True), blk b2' 26 ([x])] [blk b2 23 [Value.int .i64 0, Value.int .i64 0, Value.int .i64 0], blk b1 178 [_], blk b1' 23 [Value.int .i64 0, Value.int .i64 0, Value.int .i64 0], blk b2' 26 ([x])] rfl (by decide +kernel) (by decide) rfl rfl (fun w hw => hw.blkP (i := 2) (fun _ => True) rfl trivial) (fun w hw => hw.blkP (i := 2) (fun _ => True) rfl trivial) ?_
  simp only [List.take_succ_cons, List.take_zero, List.drop_succ_cons, List.drop_zero]
  refine PAt.val (Val.move rfl) rfl rfl rfl rfl ?_
  refine PAt.val (Val.move rfl) rfl rfl rfl rfl ?_
  refine PAt.val (Val.loadAll (i := 0) Tryd.isAgg23 Tryd.sizeOf23 rfl rfl rfl) rfl rfl rfl rfl ?_
  refine PAt.val (Val.field 0 rfl fo_178_0 rfl) rfl rfl rfl rfl ?_
  refine PAt.val (Val.load (i := 1) Tryd.isAgg26 rfl rfl rfl) rfl rfl rfl rfl ?_
  refine PAt.val (Val.nilCheck rfl) rfl rfl rfl rfl ?_
  refine PAt.midS (fun a' w' ha' hw' => storeAll_step (i := 2) Tryd.sizeOf23 rfl rfl rfl (by simp [Value.oneCell']) rfl hl a' w' ha' hw') rfl rfl ?_
  refine PAt.fin ?_
  refine At.val (Val.nilCheck rfl) rfl rfl rfl ?_
  refine At.store (i := 3) Tryd.sizeOf26 rfl rfl rfl rfl (by first | decide | simp) ?_
  simp only [List.set_cons_zero, List.set_cons_succ]
  refine At.nil ?_
  refine At.drop 0 ?_
  refine At.drop 0 ?_
  simp only [List.eraseIdx_cons_zero, List.eraseIdx_cons_succ]
  refine At.blkN ?_
  refine At.ret0 (.inr rfl) rfl rfl  (fun w hw => ?_)
  exact ⟨rfl, hw⟩

theorem caughtHeader_idle (b1' b2' : Nat) (w : World) :
    Idle Tryd.prog 95 [.pointer (some ⟨b1', 0, none⟩), .pointer (some ⟨b2', 0, none⟩)] w := by
  refine CallsD.mono (enterC (v := .nilIface) (um' := .returning) (R := fun e w' => e = .returned (.tuple #[]) ∧ Mod (fun _ => False) w w') (fun _ => False) [] Tryd.func95 rfl Tryd.ntmps95 rfl rfl ⟨by simp, by simp, by simp, Mod.refl _ _⟩ (fun c₀ cs hu => .inr ⟨by simp [recoverD, hu], rfl, rfl⟩) ?_) (fun e u' w' h => ⟨h.2.1, h.1, h.2.2⟩)
  simp only [envOf]
  refine At.block ?_
  refine At.seq ?_
  refine At.region ?_
  refine At.val (Val.ifNilNil (by kernel_rfl) rfl) rfl rfl rfl ?_
  refine At.nil ?_
  refine At.thenN ?_
  refine At.condT rfl ?_
  refine At.region ?_
  refine At.val (Val.assign rfl) rfl rfl rfl ?_
  refine At.nil ?_
  refine At.blkN ?_
  refine At.ret0 (.inr rfl) rfl rfl  (fun w hw => ?_)
  exact ⟨rfl, hw.mod⟩

theorem caughtHeader_pan (b1' b2' : Nat) (cs : List Value) (x : Value) (why : Int) (w : World) (h1 : Holds w b1' 39 cs) (hl : cs.length = 2) (h2 : Holds w b2' 26 [x]) (hne : b1' ≠ b2') :
    Catches Tryd.prog 95 [.pointer (some ⟨b1', 0, none⟩), .pointer (some ⟨b2', 0, none⟩)] (brk 178 why) (blk b1' 39 cs) (blk b2' 26 [x]) (blk b1' 39 [Value.int .i64 0, Value.int .i64 0]) (blk b2' 26 [.int .i64 why]) w := by
  refine CallsD.mono (enterC (v := .iface 178 (.agg #[.int .i64 why])) (um' := .panicking [{ v := .iface 178 (.agg #[.int .i64 why]), recovered := true }]) (R := fun e w' => e = .returned (.tuple #[]) ∧ Rep w (feet [(blk b1' 39 cs), (blk b2' 26 [x])]) [(blk b1' 39 [Value.int .i64 0, Value.int .i64 0]), (blk b2' 26 [.int .i64 why])] w') (feet [(blk b1' 39 cs), (blk b2' 26 [x])]) [(blk b1' 39 cs), (blk b2' 26 [x])] Tryd.func95 rfl Tryd.ntmps95 rfl rfl (Rep.start (by simp only [List.pairwise_cons, List.mem_singleton, forall_eq, List.not_mem_nil, false_implies, implies_true, List.Pairwise.nil, and_true]; exact fun b (hb1 : b = b1') (hb2 : b = b2') => hne (hb1.symm.trans hb2)) (fun r hr => by rcases List.mem_cons.1 hr with rfl | hr; exact h1; rcases List.mem_cons.1 hr with rfl | hr; exact h2; cases hr)) (fun c₀ cs hu => .inl (by simp [recoverD, hu])) ?_) (fun e u' w' h => ⟨h.2.1, by rw [h.1]; rfl, h.2.2⟩)
  simp only [envOf]
  refine At.block ?_
  refine At.seq ?_
  refine At.region ?_
  refine At.val (Val.ifHeldNil (by kernel_rfl) rfl) rfl rfl rfl ?_
  refine At.nil ?_
  refine At.thenN ?_
  refine At.condF rfl ?_
  refine At.seq ?_
  refine At.region ?_
  refine At.val (Val.assertIs Tryd.underlying178 rfl) rfl rfl rfl ?_
  refine At.val (Val.extract rfl rfl) rfl rfl rfl ?_
  refine At.val (Val.extract rfl rfl) rfl rfl rfl ?_
  refine At.nil ?_
  refine At.thenN ?_
  refine At.condT rfl ?_
  refine At.seq ?_
  refine At.region ?_
  refine At.alloc Tryd.zeroValue178 rfl rfl (fun b1 => ?_)
  refine At.storeAll (i := 0) Tryd.sizeOf178 rfl rfl rfl (by simp [Value.oneCell']) rfl rfl ?_
  simp only [List.set_cons_zero, List.set_cons_succ]
  refine At.nil ?_
  refine At.thenN ?_
  refine At.seq ?_
  refine At.region ?_
  refine At.alloc Tryd.zeroValue39 rfl rfl (fun b2 => ?_)
  refine At.nil ?_
  refine At.thenN ?_
  refine At.mid 7 6 [blk b2 39 [Value.int .i64 0, Value.int .i64 0], blk b1 178 [_], blkP b1' 39 (fun _ => True), blk b2' 26 ([x])] [blk b2 39 [Value.int .i64 0, Value.int .i64 0], blk b1 178 [_], blk b1' 39 [Value.int .i64 0, Value.int .i64 0], blk b2' 26 ([x])] rfl (by decide +kernel) (by decide) rfl rfl (fun w hw => hw.blkP (i := 2) (fun _ => True) rfl trivial) (fun w hw => hw.blkP (i := 2) (fun _ => True) rfl trivial) ?_
  simp only [List.take_succ_cons, List.take_zero, List.drop_succ_cons, List.drop_zero]
  refine PAt.val (Val.move rfl) rfl rfl rfl rfl ?_
  refine PAt.val (Val.move rfl) rfl rfl rfl rfl ?_
  refine PAt.val (Val.loadAll (i := 0) Tryd.isAgg39 Tryd.sizeOf39 rfl rfl rfl) rfl rfl rfl rfl ?_
  refine PAt.val (Val.field 0 rfl fo_178_0 rfl) rfl rfl rfl rfl ?_
  refine PAt.val (Val.load (i := 1) Tryd.isAgg26 rfl rfl rfl) rfl rfl rfl rfl ?_
  refine PAt.val (Val.nilCheck rfl) rfl rfl rfl rfl ?_
  refine PAt.midS (fun a' w' ha' hw' => storeAll_step (i := 2) Tryd.sizeOf39 rfl rfl rfl (by simp [Value.oneCell']) rfl hl a' w' ha' hw') rfl rfl ?_
  refine PAt.fin ?_
  refine At.val (Val.nilCheck rfl) rfl rfl rfl ?_
  refine At.store (i := 3) Tryd.sizeOf26 rfl rfl rfl rfl (by first | decide | simp) ?_
  simp only [List.set_cons_zero, List.set_cons_succ]
  refine At.nil ?_
  refine At.drop 0 ?_
  refine At.drop 0 ?_
  simp only [List.eraseIdx_cons_zero, List.eraseIdx_cons_succ]
  refine At.blkN ?_
  refine At.ret0 (.inr rfl) rfl rfl  (fun w hw => ?_)
  exact ⟨rfl, hw⟩

theorem caughtSlot_idle (b1' b2' : Nat) (w : World) :
    Idle Tryd.prog 100 [.pointer (some ⟨b1', 0, none⟩), .pointer (some ⟨b2', 0, none⟩)] w := by
  refine CallsD.mono (enterC (v := .nilIface) (um' := .returning) (R := fun e w' => e = .returned (.tuple #[]) ∧ Mod (fun _ => False) w w') (fun _ => False) [] Tryd.func100 rfl Tryd.ntmps100 rfl rfl ⟨by simp, by simp, by simp, Mod.refl _ _⟩ (fun c₀ cs hu => .inr ⟨by simp [recoverD, hu], rfl, rfl⟩) ?_) (fun e u' w' h => ⟨h.2.1, h.1, h.2.2⟩)
  simp only [envOf]
  refine At.block ?_
  refine At.seq ?_
  refine At.region ?_
  refine At.val (Val.ifNilNil (by kernel_rfl) rfl) rfl rfl rfl ?_
  refine At.nil ?_
  refine At.thenN ?_
  refine At.condT rfl ?_
  refine At.region ?_
  refine At.val (Val.assign rfl) rfl rfl rfl ?_
  refine At.nil ?_
  refine At.blkN ?_
  refine At.ret0 (.inr rfl) rfl rfl  (fun w hw => ?_)
  exact ⟨rfl, hw.mod⟩

theorem caughtSlot_pan (b1' b2' : Nat) (cs : List Value) (x : Value) (why : Int) (w : World) (h1 : Holds w b1' 65 cs) (hl : cs.length = 4) (h2 : Holds w b2' 26 [x]) (hne : b1' ≠ b2') :
    Catches Tryd.prog 100 [.pointer (some ⟨b1', 0, none⟩), .pointer (some ⟨b2', 0, none⟩)] (brk 178 why) (blk b1' 65 cs) (blk b2' 26 [x]) (blk b1' 65 [Value.int .i64 0, Value.int .i64 0, Value.int .i64 0, Value.int .i64 0]) (blk b2' 26 [.int .i64 why]) w := by
  refine CallsD.mono (enterC (v := .iface 178 (.agg #[.int .i64 why])) (um' := .panicking [{ v := .iface 178 (.agg #[.int .i64 why]), recovered := true }]) (R := fun e w' => e = .returned (.tuple #[]) ∧ Rep w (feet [(blk b1' 65 cs), (blk b2' 26 [x])]) [(blk b1' 65 [Value.int .i64 0, Value.int .i64 0, Value.int .i64 0, Value.int .i64 0]), (blk b2' 26 [.int .i64 why])] w') (feet [(blk b1' 65 cs), (blk b2' 26 [x])]) [(blk b1' 65 cs), (blk b2' 26 [x])] Tryd.func100 rfl Tryd.ntmps100 rfl rfl (Rep.start (by simp only [List.pairwise_cons, List.mem_singleton, forall_eq, List.not_mem_nil, false_implies, implies_true, List.Pairwise.nil, and_true]; exact fun b (hb1 : b = b1') (hb2 : b = b2') => hne (hb1.symm.trans hb2)) (fun r hr => by rcases List.mem_cons.1 hr with rfl | hr; exact h1; rcases List.mem_cons.1 hr with rfl | hr; exact h2; cases hr)) (fun c₀ cs hu => .inl (by simp [recoverD, hu])) ?_) (fun e u' w' h => ⟨h.2.1, by rw [h.1]; rfl, h.2.2⟩)
  simp only [envOf]
  refine At.block ?_
  refine At.seq ?_
  refine At.region ?_
  refine At.val (Val.ifHeldNil (by kernel_rfl) rfl) rfl rfl rfl ?_
  refine At.nil ?_
  refine At.thenN ?_
  refine At.condF rfl ?_
  refine At.seq ?_
  refine At.region ?_
  refine At.val (Val.assertIs Tryd.underlying178 rfl) rfl rfl rfl ?_
  refine At.val (Val.extract rfl rfl) rfl rfl rfl ?_
  refine At.val (Val.extract rfl rfl) rfl rfl rfl ?_
  refine At.nil ?_
  refine At.thenN ?_
  refine At.condT rfl ?_
  refine At.seq ?_
  refine At.region ?_
  refine At.alloc Tryd.zeroValue178 rfl rfl (fun b1 => ?_)
  refine At.storeAll (i := 0) Tryd.sizeOf178 rfl rfl rfl (by simp [Value.oneCell']) rfl rfl ?_
  simp only [List.set_cons_zero, List.set_cons_succ]
  refine At.nil ?_
  refine At.thenN ?_
  refine At.seq ?_
  refine At.region ?_
  refine At.alloc Tryd.zeroValue65 rfl rfl (fun b2 => ?_)
  refine At.nil ?_
  refine At.thenN ?_
  refine At.mid 7 6 [blk b2 65 [Value.int .i64 0, Value.int .i64 0, Value.int .i64 0, Value.int .i64 0], blk b1 178 [_], blkP b1' 65 (fun _ => True), blk b2' 26 ([x])] [blk b2 65 [Value.int .i64 0, Value.int .i64 0, Value.int .i64 0, Value.int .i64 0], blk b1 178 [_], blk b1' 65 [Value.int .i64 0, Value.int .i64 0, Value.int .i64 0, Value.int .i64 0], blk b2' 26 ([x])] rfl (by decide +kernel) (by decide) rfl rfl (fun w hw => hw.blkP (i := 2) (fun _ => True) rfl trivial) (fun w hw => hw.blkP (i := 2) (fun _ => True) rfl trivial) ?_
  simp only [List.take_succ_cons, List.take_zero, List.drop_succ_cons, List.drop_zero]
  refine PAt.val (Val.move rfl) rfl rfl rfl rfl ?_
  refine PAt.val (Val.move rfl) rfl rfl rfl rfl ?_
  refine PAt.val (Val.loadAll (i := 0) Tryd.isAgg65 Tryd.sizeOf65 rfl rfl rfl) rfl rfl rfl rfl ?_
  refine PAt.val (Val.field 0 rfl fo_178_0 rfl) rfl rfl rfl rfl ?_
  refine PAt.val (Val.load (i := 1) Tryd.isAgg26 rfl rfl rfl) rfl rfl rfl rfl ?_
  refine PAt.val (Val.nilCheck rfl) rfl rfl rfl rfl ?_
  refine PAt.midS (fun a' w' ha' hw' => storeAll_step (i := 2) Tryd.sizeOf65 rfl rfl rfl (by simp [Value.oneCell']) rfl hl a' w' ha' hw') rfl rfl ?_
  refine PAt.fin ?_
  refine At.val (Val.nilCheck rfl) rfl rfl rfl ?_
  refine At.store (i := 3) Tryd.sizeOf26 rfl rfl rfl rfl (by first | decide | simp) ?_
  simp only [List.set_cons_zero, List.set_cons_succ]
  refine At.nil ?_
  refine At.drop 0 ?_
  refine At.drop 0 ?_
  simp only [List.eraseIdx_cons_zero, List.eraseIdx_cons_succ]
  refine At.blkN ?_
  refine At.ret0 (.inr rfl) rfl rfl  (fun w hw => ?_)
  exact ⟨rfl, hw⟩

theorem caughtSaved_idle (b1' b2' : Nat) (w : World) :
    Idle Tryd.prog 107 [.pointer (some ⟨b1', 0, none⟩), .pointer (some ⟨b2', 0, none⟩)] w := by
  refine CallsD.mono (enterC (v := .nilIface) (um' := .returning) (R := fun e w' => e = .returned (.tuple #[]) ∧ Mod (fun _ => False) w w') (fun _ => False) [] Tryd.func107 rfl Tryd.ntmps107 rfl rfl ⟨by simp, by simp, by simp, Mod.refl _ _⟩ (fun c₀ cs hu => .inr ⟨by simp [recoverD, hu], rfl, rfl⟩) ?_) (fun e u' w' h => ⟨h.2.1, h.1, h.2.2⟩)
  simp only [envOf]
  refine At.block ?_
  refine At.seq ?_
  refine At.region ?_
  refine At.val (Val.ifNilNil (by kernel_rfl) rfl) rfl rfl rfl ?_
  refine At.nil ?_
  refine At.thenN ?_
  refine At.condT rfl ?_
  refine At.region ?_
  refine At.val (Val.assign rfl) rfl rfl rfl ?_
  refine At.nil ?_
  refine At.blkN ?_
  refine At.ret0 (.inr rfl) rfl rfl  (fun w hw => ?_)
  exact ⟨rfl, hw.mod⟩

theorem caughtSaved_pan (b1' b2' : Nat) (cs : List Value) (x : Value) (why : Int) (w : World) (h1 : Holds w b1' 74 cs) (hl : cs.length = 2) (h2 : Holds w b2' 26 [x]) (hne : b1' ≠ b2') :
    Catches Tryd.prog 107 [.pointer (some ⟨b1', 0, none⟩), .pointer (some ⟨b2', 0, none⟩)] (brk 178 why) (blk b1' 74 cs) (blk b2' 26 [x]) (blk b1' 74 [Value.int .u32 0, Value.slice none 0 0]) (blk b2' 26 [.int .i64 why]) w := by
  refine CallsD.mono (enterC (v := .iface 178 (.agg #[.int .i64 why])) (um' := .panicking [{ v := .iface 178 (.agg #[.int .i64 why]), recovered := true }]) (R := fun e w' => e = .returned (.tuple #[]) ∧ Rep w (feet [(blk b1' 74 cs), (blk b2' 26 [x])]) [(blk b1' 74 [Value.int .u32 0, Value.slice none 0 0]), (blk b2' 26 [.int .i64 why])] w') (feet [(blk b1' 74 cs), (blk b2' 26 [x])]) [(blk b1' 74 cs), (blk b2' 26 [x])] Tryd.func107 rfl Tryd.ntmps107 rfl rfl (Rep.start (by simp only [List.pairwise_cons, List.mem_singleton, forall_eq, List.not_mem_nil, false_implies, implies_true, List.Pairwise.nil, and_true]; exact fun b (hb1 : b = b1') (hb2 : b = b2') => hne (hb1.symm.trans hb2)) (fun r hr => by rcases List.mem_cons.1 hr with rfl | hr; exact h1; rcases List.mem_cons.1 hr with rfl | hr; exact h2; cases hr)) (fun c₀ cs hu => .inl (by simp [recoverD, hu])) ?_) (fun e u' w' h => ⟨h.2.1, by rw [h.1]; rfl, h.2.2⟩)
  simp only [envOf]
  refine At.block ?_
  refine At.seq ?_
  refine At.region ?_
  refine At.val (Val.ifHeldNil (by kernel_rfl) rfl) rfl rfl rfl ?_
  refine At.nil ?_
  refine At.thenN ?_
  refine At.condF rfl ?_
  refine At.seq ?_
  refine At.region ?_
  refine At.val (Val.assertIs Tryd.underlying178 rfl) rfl rfl rfl ?_
  refine At.val (Val.extract rfl rfl) rfl rfl rfl ?_
  refine At.val (Val.extract rfl rfl) rfl rfl rfl ?_
  refine At.nil ?_
  refine At.thenN ?_
  refine At.condT rfl ?_
  refine At.seq ?_
  refine At.region ?_
  refine At.alloc Tryd.zeroValue178 rfl rfl (fun b1 => ?_)
  refine At.storeAll (i := 0) Tryd.sizeOf178 rfl rfl rfl (by simp [Value.oneCell']) rfl rfl ?_
  simp only [List.set_cons_zero, List.set_cons_succ]
  refine At.nil ?_
  refine At.thenN ?_
  refine At.seq ?_
  refine At.region ?_
  refine At.alloc Tryd.zeroValue74 rfl rfl (fun b2 => ?_)
  refine At.nil ?_
  refine At.thenN ?_
  refine At.mid 7 6 [blk b2 74 [Value.int .u32 0, Value.slice none 0 0], blk b1 178 [_], blkP b1' 74 (fun _ => True), blk b2' 26 ([x])] [blk b2 74 [Value.int .u32 0, Value.slice none 0 0], blk b1 178 [_], blk b1' 74 [Value.int .u32 0, Value.slice none 0 0], blk b2' 26 ([x])] rfl (by decide +kernel) (by decide) rfl rfl (fun w hw => hw.blkP (i := 2) (fun _ => True) rfl trivial) (fun w hw => hw.blkP (i := 2) (fun _ => True) rfl trivial) ?_
  simp only [List.take_succ_cons, List.take_zero, List.drop_succ_cons, List.drop_zero]
  refine PAt.val (Val.move rfl) rfl rfl rfl rfl ?_
  refine PAt.val (Val.move rfl) rfl rfl rfl rfl ?_
  refine PAt.val (Val.loadAll (i := 0) Tryd.isAgg74 Tryd.sizeOf74 rfl rfl rfl) rfl rfl rfl rfl ?_
  refine PAt.val (Val.field 0 rfl fo_178_0 rfl) rfl rfl rfl rfl ?_
  refine PAt.val (Val.load (i := 1) Tryd.isAgg26 rfl rfl rfl) rfl rfl rfl rfl ?_
  refine PAt.val (Val.nilCheck rfl) rfl rfl rfl rfl ?_
  refine PAt.midS (fun a' w' ha' hw' => storeAll_step (i := 2) Tryd.sizeOf74 rfl rfl rfl (by simp [Value.oneCell']) rfl hl a' w' ha' hw') rfl rfl ?_
  refine PAt.fin ?_
  refine At.val (Val.nilCheck rfl) rfl rfl rfl ?_
  refine At.store (i := 3) Tryd.sizeOf26 rfl rfl rfl rfl (by first | decide | simp) ?_
  simp only [List.set_cons_zero, List.set_cons_succ]
  refine At.nil ?_
  refine At.drop 0 ?_
  refine At.drop 0 ?_
  simp only [List.eraseIdx_cons_zero, List.eraseIdx_cons_succ]
  refine At.blkN ?_
  refine At.ret0 (.inr rfl) rfl rfl  (fun w hw => ?_)
  exact ⟨rfl, hw⟩

theorem caughtEntry_idle (b1' b2' : Nat) (w : World) :
    Idle Tryd.prog 112 [.pointer (some ⟨b1', 0, none⟩), .pointer (some ⟨b2', 0, none⟩)] w := by
  refine CallsD.mono (enterC (v := .nilIface) (um' := .returning) (R := fun e w' => e = .returned (.tuple #[]) ∧ Mod (fun _ => False) w w') (fun _ => False) [] Tryd.func112 rfl Tryd.ntmps112 rfl rfl ⟨by simp, by simp, by simp, Mod.refl _ _⟩ (fun c₀ cs hu => .inr ⟨by simp [recoverD, hu], rfl, rfl⟩) ?_) (fun e u' w' h => ⟨h.2.1, h.1, h.2.2⟩)
  simp only [envOf]
  refine At.block ?_
  refine At.seq ?_
  refine At.region ?_
  refine At.val (Val.ifNilNil (by kernel_rfl) rfl) rfl rfl rfl ?_
  refine At.nil ?_
  refine At.thenN ?_
  refine At.condT rfl ?_
  refine At.region ?_
  refine At.val (Val.assign rfl) rfl rfl rfl ?_
  refine At.nil ?_
  refine At.blkN ?_
  refine At.ret0 (.inr rfl) rfl rfl  (fun w hw => ?_)
  exact ⟨rfl, hw.mod⟩

theorem caughtEntry_pan (b1' b2' : Nat) (cs : List Value) (x : Value) (why : Int) (w : World) (h1 : Holds w b1' 92 cs) (hl : cs.length = 8) (h2 : Holds w b2' 26 [x]) (hne : b1' ≠ b2') :
    Catches Tryd.prog 112 [.pointer (some ⟨b1', 0, none⟩), .pointer (some ⟨b2', 0, none⟩)] (brk 178 why) (blk b1' 92 cs) (blk b2' 26 [x]) (blk b1' 92 [Value.int .i64 0, Value.int .u64 0, Value.int .i64 0, Value.int .i64 0, Value.int .i64 0, Value.int .i64 0, Value.int .i64 0, Value.string ⟨#[]⟩]) (blk b2' 26 [.int .i64 why]) w := by
  refine CallsD.mono (enterC (v := .iface 178 (.agg #[.int .i64 why])) (um' := .panicking [{ v := .iface 178 (.agg #[.int .i64 why]), recovered := true }]) (R := fun e w' => e = .returned (.tuple #[]) ∧ Rep w (feet [(blk b1' 92 cs), (blk b2' 26 [x])]) [(blk b1' 92 [Value.int .i64 0, Value.int .u64 0, Value.int .i64 0, Value.int .i64 0, Value.int .i64 0, Value.int .i64 0, Value.int .i64 0, Value.string ⟨#[]⟩]), (blk b2' 26 [.int .i64 why])] w') (feet [(blk b1' 92 cs), (blk b2' 26 [x])]) [(blk b1' 92 cs), (blk b2' 26 [x])] Tryd.func112 rfl Tryd.ntmps112 rfl rfl (Rep.start (by simp only [List.pairwise_cons, List.mem_singleton, forall_eq, List.not_mem_nil, false_implies, implies_true, List.Pairwise.nil, and_true]; exact fun b (hb1 : b = b1') (hb2 : b = b2') => hne (hb1.symm.trans hb2)) (fun r hr => by rcases List.mem_cons.1 hr with rfl | hr; exact h1; rcases List.mem_cons.1 hr with rfl | hr; exact h2; cases hr)) (fun c₀ cs hu => .inl (by simp [recoverD, hu])) ?_) (fun e u' w' h => ⟨h.2.1, by rw [h.1]; rfl, h.2.2⟩)
  simp only [envOf]
  refine At.block ?_
  refine At.seq ?_
  refine At.region ?_
  refine At.val (Val.ifHeldNil (by kernel_rfl) rfl) rfl rfl rfl ?_
  refine At.nil ?_
  refine At.thenN ?_
  refine At.condF rfl ?_
  refine At.seq ?_
  refine At.region ?_
  refine At.val (Val.assertIs Tryd.underlying178 rfl) rfl rfl rfl ?_
  refine At.val (Val.extract rfl rfl) rfl rfl rfl ?_
  refine At.val (Val.extract rfl rfl) rfl rfl rfl ?_
  refine At.nil ?_
  refine At.thenN ?_
  refine At.condT rfl ?_
  refine At.seq ?_
  refine At.region ?_
  refine At.alloc Tryd.zeroValue178 rfl rfl (fun b1 => ?_)
  refine At.storeAll (i := 0) Tryd.sizeOf178 rfl rfl rfl (by simp [Value.oneCell']) rfl rfl ?_
  simp only [List.set_cons_zero, List.set_cons_succ]
  refine At.nil ?_
  refine At.thenN ?_
  refine At.seq ?_
  refine At.region ?_
  refine At.alloc Tryd.zeroValue92 rfl rfl (fun b2 => ?_)
  refine At.nil ?_
  refine At.thenN ?_
  refine At.mid 7 6 [blk b2 92 [Value.int .i64 0, Value.int .u64 0, Value.int .i64 0, Value.int .i64 0, Value.int .i64 0, Value.int .i64 0, Value.int .i64 0, Value.string ⟨#[]⟩], blk b1 178 [_], blkP b1' 92 (fun _ => True), blk b2' 26 ([x])] [blk b2 92 [Value.int .i64 0, Value.int .u64 0, Value.int .i64 0, Value.int .i64 0, Value.int .i64 0, Value.int .i64 0, Value.int .i64 0, Value.string ⟨#[]⟩], blk b1 178 [_], blk b1' 92 [Value.int .i64 0, Value.int .u64 0, Value.int .i64 0, Value.int .i64 0, Value.int .i64 0, Value.int .i64 0, Value.int .i64 0, Value.string ⟨#[]⟩], blk b2' 26 ([x])] rfl (by decide +kernel) (by decide) rfl rfl (fun w hw => hw.blkP (i := 2) (fun _ => True) rfl trivial) (fun w hw => hw.blkP (i := 2) (fun _ => True) rfl trivial) ?_
  simp only [List.take_succ_cons, List.take_zero, List.drop_succ_cons, List.drop_zero]
  refine PAt.val (Val.move rfl) rfl rfl rfl rfl ?_
  refine PAt.val (Val.move rfl) rfl rfl rfl rfl ?_
  refine PAt.val (Val.loadAll (i := 0) Tryd.isAgg92 Tryd.sizeOf92 rfl rfl rfl) rfl rfl rfl rfl ?_
  refine PAt.val (Val.field 0 rfl fo_178_0 rfl) rfl rfl rfl rfl ?_
  refine PAt.val (Val.load (i := 1) Tryd.isAgg26 rfl rfl rfl) rfl rfl rfl rfl ?_
  refine PAt.val (Val.nilCheck rfl) rfl rfl rfl rfl ?_
  refine PAt.midS (fun a' w' ha' hw' => storeAll_step (i := 2) Tryd.sizeOf92 rfl rfl rfl (by simp [Value.oneCell']) rfl hl a' w' ha' hw') rfl rfl ?_
  refine PAt.fin ?_
  refine At.val (Val.nilCheck rfl) rfl rfl rfl ?_
  refine At.store (i := 3) Tryd.sizeOf26 rfl rfl rfl rfl (by first | decide | simp) ?_
  simp only [List.set_cons_zero, List.set_cons_succ]
  refine At.nil ?_
  refine At.drop 0 ?_
  refine At.drop 0 ?_
  simp only [List.eraseIdx_cons_zero, List.eraseIdx_cons_succ]
  refine At.blkN ?_
  refine At.ret0 (.inr rfl) rfl rfl  (fun w hw => ?_)
  exact ⟨rfl, hw⟩

theorem caughtUndos_idle (b1' b2' : Nat) (w : World) :
    Idle Tryd.prog 118 [.pointer (some ⟨b1', 0, none⟩), .pointer (some ⟨b2', 0, none⟩)] w := by
  refine CallsD.mono (enterC (v := .nilIface) (um' := .returning) (R := fun e w' => e = .returned (.tuple #[]) ∧ Mod (fun _ => False) w w') (fun _ => False) [] Tryd.func118 rfl Tryd.ntmps118 rfl rfl ⟨by simp, by simp, by simp, Mod.refl _ _⟩ (fun c₀ cs hu => .inr ⟨by simp [recoverD, hu], rfl, rfl⟩) ?_) (fun e u' w' h => ⟨h.2.1, h.1, h.2.2⟩)
  simp only [envOf]
  refine At.block ?_
  refine At.seq ?_
  refine At.region ?_
  refine At.val (Val.ifNilNil (by kernel_rfl) rfl) rfl rfl rfl ?_
  refine At.nil ?_
  refine At.thenN ?_
  refine At.condT rfl ?_
  refine At.region ?_
  refine At.val (Val.assign rfl) rfl rfl rfl ?_
  refine At.nil ?_
  refine At.blkN ?_
  refine At.ret0 (.inr rfl) rfl rfl  (fun w hw => ?_)
  exact ⟨rfl, hw.mod⟩

theorem caughtUndos_pan (b1' b2' : Nat) (c0 : Value) (x : Value) (why : Int) (w : World) (h1 : Holds w b1' 102 [c0]) (hl : [c0].length = 1) (h2 : Holds w b2' 26 [x]) (hne : b1' ≠ b2') :
    Catches Tryd.prog 118 [.pointer (some ⟨b1', 0, none⟩), .pointer (some ⟨b2', 0, none⟩)] (brk 178 why) (blk b1' 102 [c0]) (blk b2' 26 [x]) (blk b1' 102 [Value.slice none 0 0]) (blk b2' 26 [.int .i64 why]) w := by
  refine CallsD.mono (enterC (v := .iface 178 (.agg #[.int .i64 why])) (um' := .panicking [{ v := .iface 178 (.agg #[.int .i64 why]), recovered := true }]) (R := fun e w' => e = .returned (.tuple #[]) ∧ Rep w (feet [(blk b1' 102 [c0]), (blk b2' 26 [x])]) [(blk b1' 102 [Value.slice none 0 0]), (blk b2' 26 [.int .i64 why])] w') (feet [(blk b1' 102 [c0]), (blk b2' 26 [x])]) [(blk b1' 102 [c0]), (blk b2' 26 [x])] Tryd.func118 rfl Tryd.ntmps118 rfl rfl (Rep.start (by simp only [List.pairwise_cons, List.mem_singleton, forall_eq, List.not_mem_nil, false_implies, implies_true, List.Pairwise.nil, and_true]; exact fun b (hb1 : b = b1') (hb2 : b = b2') => hne (hb1.symm.trans hb2)) (fun r hr => by rcases List.mem_cons.1 hr with rfl | hr; exact h1; rcases List.mem_cons.1 hr with rfl | hr; exact h2; cases hr)) (fun c₀ cs hu => .inl (by simp [recoverD, hu])) ?_) (fun e u' w' h => ⟨h.2.1, by rw [h.1]; rfl, h.2.2⟩)
  simp only [envOf]
  refine At.block ?_
  refine At.seq ?_
  refine At.region ?_
  refine At.val (Val.ifHeldNil (by kernel_rfl) rfl) rfl rfl rfl ?_
  refine At.nil ?_
  refine At.thenN ?_
  refine At.condF rfl ?_
  refine At.seq ?_
  refine At.region ?_
  refine At.val (Val.assertIs Tryd.underlying178 rfl) rfl rfl rfl ?_
  refine At.val (Val.extract rfl rfl) rfl rfl rfl ?_
  refine At.val (Val.extract rfl rfl) rfl rfl rfl ?_
  refine At.nil ?_
  refine At.thenN ?_
  refine At.condT rfl ?_
  refine At.seq ?_
  refine At.region ?_
  refine At.alloc Tryd.zeroValue178 rfl rfl (fun b1 => ?_)
  refine At.storeAll (i := 0) Tryd.sizeOf178 rfl rfl rfl (by simp [Value.oneCell']) rfl rfl ?_
  simp only [List.set_cons_zero, List.set_cons_succ]
  refine At.nil ?_
  refine At.thenN ?_
  refine At.seq ?_
  refine At.region ?_
  refine At.val (Val.assign rfl) rfl rfl rfl ?_
  refine At.nil ?_
  refine At.thenN ?_
  refine At.mid 7 6 [blk b1 178 [_], blkP b1' 102 (fun _ => True), blk b2' 26 ([x])] [blk b1 178 [_], blk b1' 102 [Value.slice none 0 0], blk b2' 26 ([x])] rfl (by decide +kernel) (by decide) rfl rfl (fun w hw => hw.blkP (i := 1) (fun _ => True) rfl trivial) (fun w hw => hw.blkP (i := 1) (fun _ => True) rfl trivial) ?_
  simp only [List.take_succ_cons, List.take_zero, List.drop_succ_cons, List.drop_zero]
  refine PAt.val (Val.move rfl) rfl rfl rfl rfl ?_
  refine PAt.val (Val.move rfl) rfl rfl rfl rfl ?_
  refine PAt.val (Val.move rfl) rfl rfl rfl rfl ?_
  refine PAt.val (Val.field 0 rfl fo_178_0 rfl) rfl rfl rfl rfl ?_
  refine PAt.val (Val.load (i := 0) Tryd.isAgg26 rfl rfl rfl) rfl rfl rfl rfl ?_
  refine PAt.val (Val.nilCheck rfl) rfl rfl rfl rfl ?_
  refine PAt.midS (fun a' w' ha' hw' => storeOne_step (i := 1) (v := .slice none 0 0) (cs := [c0]) (off := 0) Tryd.sizeOf102 rfl rfl rfl rfl (by simp) a' w' ha' hw') rfl rfl ?_
  refine PAt.fin ?_
  refine At.val (Val.nilCheck rfl) rfl rfl rfl ?_
  refine At.store (i := 2) Tryd.sizeOf26 rfl rfl rfl rfl (by first | decide | simp) ?_
  simp only [List.set_cons_zero, List.set_cons_succ]
  refine At.nil ?_
  refine At.drop 0 ?_
  simp only [List.eraseIdx_cons_zero, List.eraseIdx_cons_succ]
  refine At.blkN ?_
  refine At.ret0 (.inr rfl) rfl rfl  (fun w hw => ?_)
  exact ⟨rfl, hw⟩

end Go.Proofs.YtoiebgnmknbkjaaDoor
