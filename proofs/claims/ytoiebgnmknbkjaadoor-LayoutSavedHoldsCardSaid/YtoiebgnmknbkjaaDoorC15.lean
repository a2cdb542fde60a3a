/- LayoutSavedHolds, walked. -/
import Derived.Test.YtoiebgnmknbkjaaDoorB35
import Derived.Test.YtoiebgnmknbkjaaDoorC14
import Derived.Test.YtoiebgnmknbkjaaDoorD22
import Derived.Test.YtoiebgnmknbkjaaDoorE2
import Derived.Test.YtoiebgnmknbkjaaDoorW8
import Derived.Test.YtoiebgnmknbkjaaDoorWv
set_option linter.unusedVariables false
set_option linter.unusedSimpArgs false
namespace Go.Proofs.YtoiebgnmknbkjaaDoor
open Go Go.Wk
theorem lawSavedHolds_p (t : BitVec 32) (v : Value) (L : List (Int × Int)) (p : Int) (F : BitVec 32) (w : World) (ht : Tab w) (hv : RdS w v L) (hL : L.length ≤ 8796093022144) :
    PureC Tryd.prog 12 [b32 t, v, .agg #[.int .i64 p, b32 F]] (.bool true) w := by
  refine enter0 Tryd.func12 rfl Tryd.ntmps12 rfl ?_
  simp only [envOf]
  refine At.seq ?_
  refine At.region ?_
  refine At.box rfl rfl rfl (fun b1 => ?_)
  refine At.val (Val.assign rfl) rfl rfl rfl ?_
  refine At.nil ?_
  refine At.thenN ?_
  refine At.seq ?_
  refine At.region ?_
  refine At.val (Val.move rfl) rfl rfl rfl ?_
  refine At.val (Val.move rfl) rfl rfl rfl ?_
  refine At.callRX (fun w hw => spans_x v L w (hv.mod hw.mod) hL) Tryd.call51 rfl rfl (fun v2 n3 xs4 hv5 => ?_)
  obtain ⟨S, rfl, rfl, hS249, hSp⟩ := hv5
  refine At.rowIs (i := 0) rfl (fun A6 c7 hv => ?_)
  subst hv
  skip
  · skip
    refine At.val (Val.build (fun a ha => by simp only [List.map_toArray, List.map_cons, List.map_nil, ha.eval (x := (.tmp 24)) rfl, ha.eval (x := (.tmp 26)) rfl] <;> rfl) (bld_74_0_1 _ _ _ _ )) rfl rfl rfl ?_
    refine At.alloc Tryd.zeroValue74 rfl rfl (fun b8 => ?_)
    refine At.rowOne (i := 1) rfl (fun ho9 => ?_)
    refine At.storeAll (i := 0) Tryd.sizeOf74 rfl rfl rfl (by intro u hu; simp only [List.mem_cons, List.not_mem_nil, or_false] at hu; rcases hu with rfl | rfl <;> first | rfl | assumption) rfl rfl ?_
    simp only [List.set_cons_zero, List.set_cons_succ]
    refine At.nil ?_
    refine At.thenN ?_
    refine At.join (σ := BitVec 32) (fun T => T.toNat ≠ 0) (fun T => [(5, .pointer (some ⟨b1, 0, none⟩)), (7, .pointer (some ⟨b8, 0, none⟩))]) (fun T => [blk b8 74 ([b32 T, (.slice A6 ((S).length) c7)]), rowR (.slice A6 ((S).length) c7) 88 2 ((S).length) (prS (S)), blk b1 50 ([.int .i64 p, b32 F])]) ?_ ?_
    · skip
      refine At.seq ?_
      refine At.region ?_
      refine At.val (Val.field 0 rfl fo_74_0 rfl) rfl rfl rfl ?_
      refine At.val (Val.load (i := 0) Tryd.isAgg48 rfl rfl rfl) rfl rfl rfl ?_
      refine At.val (Val.bin rfl rfl rfl) rfl rfl rfl ?_
      refine At.nil ?_
      refine At.thenN ?_
      refine At.cond rfl (fun h10 => ?_) (fun h10 => ?_)
      · skip
        try simp only [vN_T, vN_F, nmE_T, nmE_F, wI_T, wI_F, data_T, data_F, ino_T, ino_F, notT, notF, bneT, bneF, beqT, beqF, decT, decF] at h10
        refine At.region ?_
        refine At.val (Val.field 0 rfl fo_74_0 rfl) rfl rfl rfl ?_
        refine At.store (i := 0) Tryd.sizeOf48 rfl rfl rfl rfl (by first | decide | simp) ?_
        simp only [List.set_cons_zero, List.set_cons_succ]
        refine At.nil ?_
        refine At.thenN ?_
        exact At.meets 1 (by decide) (Sub.cons rfl (Sub.cons rfl Sub.nil)) (List.Perm.refl _)
      · skip
        try simp only [vN_T, vN_F, nmE_T, nmE_F, wI_T, wI_F, data_T, data_F, ino_T, ino_F, notT, notF, bneT, bneF, beqT, beqF, decT, decF] at h10
        have hT0 : t.toNat ≠ 0 := by omega
        refine At.skipC ?_
        refine At.thenN ?_
        exact At.meets t hT0 (Sub.cons rfl (Sub.cons rfl Sub.nil)) (List.Perm.refl _)
    · skip
      intro T hs
      have hg : GoodSv T S := ⟨hs, hS249, hSp⟩
      have hBl := svB_length T S
      have hCl := svC_length T S
      refine At.seq ?_
      refine At.region ?_
      refine At.val (Val.field 1 rfl fo_74_1 rfl) rfl rfl rfl ?_
      refine At.val (Val.load (i := 0) Tryd.isAgg72 rfl rfl rfl) rfl rfl rfl ?_
      refine At.val (Val.lenRow (i := 1) Tryd.underlying72 rfl rfl) rfl rfl rfl ?_
      refine At.val (Val.assign rfl) rfl rfl rfl ?_
      refine At.nil ?_
      refine At.thenN ?_
      refine At.seq ?_
      refine At.region ?_
      refine At.val (Val.loadAll (i := 0) Tryd.isAgg74 Tryd.sizeOf74 rfl rfl rfl) rfl rfl rfl ?_
      refine At.callNT (g := (fun v => .agg #[b32 T, v])) (fun w hw => copySv_n T _ S w (row_rd (hw.row (i := 1) rfl) (by decide)) (by omega)) Tryd.call44 rfl rfl (fun v11 => ?_)
      refine At.callNT (g := (fun v => .tuple #[v, .int .i64 (svE T S)])) (fun w hw => packSv_n T _ S w (row_rd (hw.row (i := 0) rfl) (by decide)) (by omega) (ht.mod hw.mod)) Tryd.call45 rfl rfl (fun v12 => ?_)
      skip
      · skip
        rw [svE_T hg, svP_T hg]
        refine At.val (Val.move rfl) rfl rfl rfl ?_
        refine At.val (Val.extract rfl rfl) rfl rfl rfl ?_
        refine At.val (Val.extract rfl rfl) rfl rfl rfl ?_
        refine At.val (Val.assign rfl) rfl rfl rfl ?_
        refine At.val (Val.assign rfl) rfl rfl rfl ?_
        refine At.nil ?_
        refine At.thenN ?_
        refine At.seq ?_
        refine At.seq ?_
        refine At.region ?_
        refine At.val (Val.move rfl) rfl rfl rfl ?_
        refine At.val (Val.bin rfl rfl rfl) rfl rfl rfl ?_
        refine At.val (Val.move rfl) rfl rfl rfl ?_
        refine At.yes rfl rfl ?_
        refine At.val (Val.move rfl) rfl rfl rfl ?_
        refine At.yes rfl rfl ?_
        refine At.val (Val.lenRow (i := 0) Tryd.underlying54 rfl rfl) rfl rfl rfl ?_
        refine At.yes rfl rfl ?_
        refine At.val (Val.move rfl) rfl rfl rfl ?_
        refine At.yes rfl rfl ?_
        first | refine At.val (Val.mulI rfl rfl (by omega) (by omega)) rfl rfl rfl ?_ | refine At.val (Val.bin rfl rfl rfl) rfl rfl rfl ?_
        refine At.yes rfl rfl ?_
        first | refine At.val (Val.addI rfl rfl (by omega) (by omega)) rfl rfl rfl ?_ | refine At.val (Val.bin rfl rfl rfl) rfl rfl rfl ?_
        refine At.yes rfl rfl ?_
        refine At.val (Val.move rfl) rfl rfl rfl ?_
        refine At.yes rfl rfl ?_
        first | refine At.val (Val.remI rfl rfl (by omega) (by decide)) rfl rfl rfl ?_ | refine At.val (Val.rem rfl rfl (by decide)) rfl rfl rfl ?_
        refine At.yes rfl rfl ?_
        first | refine At.val (Val.mulI rfl rfl (by omega) (by omega)) rfl rfl rfl ?_ | refine At.val (Val.bin rfl rfl rfl) rfl rfl rfl ?_
        refine At.yes rfl rfl ?_
        first | refine At.val (Val.addI rfl rfl (by omega) (by omega)) rfl rfl rfl ?_ | refine At.val (Val.bin rfl rfl rfl) rfl rfl rfl ?_
        refine At.yes rfl rfl ?_
        refine At.val (Val.bin rfl rfl rfl) rfl rfl rfl ?_
        refine At.val (Val.pickF rfl rfl) rfl rfl rfl ?_
        refine At.val (Val.move rfl) rfl rfl rfl ?_
        refine At.split (t := 55) rfl (fun h13 => ?_) (fun h13 => ?_)
        · skip
          try simp only [vN_T, vN_F, nmE_T, nmE_F, wI_T, wI_F, data_T, data_F, ino_T, ino_F, notT, notF, bneT, bneF, beqT, beqF, decT, decF] at h13
          exfalso; omega
        · skip
          try simp only [vN_T, vN_F, nmE_T, nmE_F, wI_T, wI_F, data_T, data_F, ino_T, ino_F, notT, notF, bneT, bneF, beqT, beqF, decT, decF] at h13
          refine At.yes rfl rfl ?_
          refine At.val (Val.move rfl) rfl rfl rfl ?_
          refine At.yes rfl rfl ?_
          refine At.val (Val.lenRow (i := 0) Tryd.underlying54 rfl rfl) rfl rfl rfl ?_
          refine At.yes rfl rfl ?_
          refine At.val (Val.bin rfl rfl rfl) rfl rfl rfl ?_
          refine At.val (Val.pickF rfl rfl) rfl rfl rfl ?_
          refine At.nil ?_
          refine At.thenN ?_
          refine At.cond rfl (fun h14 => ?_) (fun h14 => ?_)
          · skip
            try simp only [vN_T, vN_F, nmE_T, nmE_F, wI_T, wI_F, data_T, data_F, ino_T, ino_F, notT, notF, bneT, bneF, beqT, beqF, decT, decF] at h14
            exfalso; omega
          · skip
            try simp only [vN_T, vN_F, nmE_T, nmE_F, wI_T, wI_F, data_T, data_F, ino_T, ino_F, notT, notF, bneT, bneF, beqT, beqF, decT, decF] at h14
            refine At.skipC ?_
            refine At.thenN ?_
            refine At.seq ?_
            refine At.region ?_
            refine At.val (Val.move rfl) rfl rfl rfl ?_
            refine At.val (Val.move rfl) rfl rfl rfl ?_
            first | refine At.val (Val.mulI rfl rfl (by omega) (by omega)) rfl rfl rfl ?_ | refine At.val (Val.bin rfl rfl rfl) rfl rfl rfl ?_
            first | refine At.val (Val.addI rfl rfl (by omega) (by omega)) rfl rfl rfl ?_ | refine At.val (Val.bin rfl rfl rfl) rfl rfl rfl ?_
            refine At.rowIs (i := 0) rfl (fun A15 c16 hv => ?_)
            subst hv
            refine At.val (Val.cutRow (i := 0) (l := 0) (h := 24 + 4 * S.length) rfl (by decide) Tryd.underlying54 Tryd.sizeOf5 rfl rfl ⟨_, _, rfl, by omega, by omega⟩ (by omega) (by omega)) rfl rfl rfl ?_
            refine At.callN (fun w hw => copyBytes_n _ (svC T S) w (RdB.cut (l := 0) (h := 24 + 4 * S.length) (row_rd (hw.row (i := 0) rfl) (by decide)) (by omega) (by omega)) (by omega)) Tryd.call33 rfl rfl (fun v17 => ?_)
            refine At.val (Val.assign rfl) rfl rfl rfl ?_
            refine At.nil ?_
            refine At.thenN ?_
            refine At.seq ?_
            refine At.region ?_
            refine At.val (Val.move rfl) rfl rfl rfl ?_
            refine At.callN (fun w hw => copyBytes_n _ (svB T S) w (row_rd (hw.row (i := 1) rfl) (by decide)) (by omega)) Tryd.call33 rfl rfl (fun v18 => ?_)
            refine At.callNT (g := (fun v => .tuple #[.agg #[b32 (oT (svB T S)), v], .int .i64 (oE (svB T S))])) (fun w hw => openSv_n _ (svB T S) w (ht.mod hw.mod) (row_rd (hw.row (i := 0) rfl) (by decide)) (by first | omega | (simp only [List.length_take, List.length_drop, spoilL_length]; omega) | (rw [List.length_append]; simp; omega))) Tryd.call48 rfl rfl (fun v19 => ?_)
            skip
            · skip
              obtain ⟨hok1, eT1, eS1, _⟩ := rec_ok hg (l := svB T S) (by omega) (fun i hi => rfl)
              rw [oE_yes hok1, oT_yes hok1, oL_yes hok1, eT1, eS1]
              refine At.val (Val.move rfl) rfl rfl rfl ?_
              refine At.val (Val.extract rfl rfl) rfl rfl rfl ?_
              refine At.val (Val.extract rfl rfl) rfl rfl rfl ?_
              refine At.alloc Tryd.zeroValue74 rfl rfl (fun b20 => ?_)
              refine At.rowOne (i := 1) rfl (fun ho21 => ?_)
              refine At.storeAll (i := 0) Tryd.sizeOf74 rfl rfl rfl (by intro u hu; simp only [List.mem_cons, List.not_mem_nil, or_false] at hu; rcases hu with rfl | rfl <;> first | rfl | assumption) rfl rfl ?_
              simp only [List.set_cons_zero, List.set_cons_succ]
              refine At.val (Val.assign rfl) rfl rfl rfl ?_
              refine At.nil ?_
              refine At.thenN ?_
              refine At.seq ?_
              refine At.seq ?_
              refine At.region ?_
              refine At.val (Val.move rfl) rfl rfl rfl ?_
              refine At.val (Val.bin rfl rfl rfl) rfl rfl rfl ?_
              refine At.val (Val.move rfl) rfl rfl rfl ?_
              refine At.yes rfl rfl ?_
              refine At.val (Val.loadAll (i := 0) Tryd.isAgg74 Tryd.sizeOf74 rfl rfl rfl) rfl rfl rfl ?_
              refine At.yes rfl rfl ?_
              refine At.val (Val.loadAll (i := 6) Tryd.isAgg74 Tryd.sizeOf74 rfl rfl rfl) rfl rfl rfl ?_
              refine At.yes rfl rfl ?_
              refine At.callP (fun w hw => sameSv_p T _ _ S w (row_rd (hw.row (i := 1) rfl) (by decide)) (row_rd (hw.row (i := 7) rfl) (by decide)) (by omega)) Tryd.call47 rfl rfl ?_
              refine At.yes rfl rfl ?_
              refine At.val (Val.not rfl) rfl rfl rfl ?_
              refine At.val (Val.pickF rfl rfl) rfl rfl rfl ?_
              refine At.nil ?_
              refine At.thenN ?_
              refine At.condF rfl ?_
              refine At.skipC ?_
              refine At.thenN ?_
              refine At.join (σ := Nat × Value) (fun s => True) (fun s => [(5, .pointer (some ⟨b1, 0, none⟩)), (7, .pointer (some ⟨b8, 0, none⟩)), (8, .int .i64 (S.length : Int)), (9, (.slice A15 (((svB T S)).length) c16)), (11, v17), (12, .pointer (some ⟨b20, 0, none⟩)), (14, .pointer (some ⟨s.1, 0, none⟩)), (15, .int .i64 0)]) (fun s => [blk b20 74 ([b32 T, v19]), rowR v19 88 2 ((S).length) (prS (S)), rowR v18 5 1 (((svB T S)).length) (((svB T S)).map bv), rowR v17 5 1 (((svC T S)).length) (((svC T S)).map bv), rowR (.slice A15 (((svB T S)).length) c16) 5 1 (((svB T S)).length) (((svB T S)).map bv), rowR v11 88 2 (S.length) (prS S), blk b8 74 ([b32 T, (.slice A6 ((S).length) c7)]), rowR (.slice A6 ((S).length) c7) 88 2 ((S).length) (prS (S)), blk b1 50 ([.int .i64 p, b32 F]), blk s.1 74 [b32 T, s.2], srow 88 s.2 S]) ?_ ?_
              · skip
                apply At.any (t := 17)
                · rfl
                refine KAt.pin (fun w hw => hw.drop (List.Sublist.cons _ (List.Sublist.cons _ (List.Sublist.cons _ (List.Sublist.cons _ (List.Sublist.cons _ (List.Sublist.cons _ (List.Sublist.cons _ (List.Sublist.cons _ (List.Sublist.cons_cons _ (List.Sublist.refl _))))))))))) ?_
                refine KAt.take 0 (Val.move rfl) rfl rfl rfl rfl (fun w hw => hw.drop (List.Sublist.cons _ (List.Sublist.cons _ (List.Sublist.cons _ (List.Sublist.cons _ (List.Sublist.cons _ (List.Sublist.cons _ (List.Sublist.cons _ (List.Sublist.cons _ (List.Sublist.cons_cons _ (List.Sublist.refl _))))))))))) (by decide +kernel) ?_
                refine KAt.take 2 (Val.field 0 rfl fo_50_0 rfl) rfl rfl rfl rfl (fun w hw => hw.drop (List.Sublist.cons _ (List.Sublist.cons _ (List.Sublist.cons _ (List.Sublist.cons _ (List.Sublist.cons _ (List.Sublist.cons _ (List.Sublist.cons _ (List.Sublist.cons _ (List.Sublist.cons_cons _ (List.Sublist.refl _))))))))))) (by decide +kernel) ?_
                refine KAt.take 3 (Val.load (i := 0) Tryd.isAgg3 rfl rfl rfl) rfl rfl rfl rfl (fun w hw => hw.drop (List.Sublist.cons _ (List.Sublist.cons _ (List.Sublist.cons _ (List.Sublist.cons _ (List.Sublist.cons _ (List.Sublist.cons _ (List.Sublist.cons _ (List.Sublist.cons _ (List.Sublist.cons_cons _ (List.Sublist.refl _))))))))))) (by decide +kernel) ?_
                refine KAt.take 4 (Val.conv Tryd.underlying3 Tryd.underlying5 rfl) rfl rfl rfl rfl (fun w hw => hw.drop (List.Sublist.cons _ (List.Sublist.cons _ (List.Sublist.cons _ (List.Sublist.cons _ (List.Sublist.cons _ (List.Sublist.cons _ (List.Sublist.cons _ (List.Sublist.cons _ (List.Sublist.cons_cons _ (List.Sublist.refl _))))))))))) (by decide +kernel) ?_
                rw [u8_wrap]
                refine KAt.take 5 (Val.field 1 rfl fo_50_1 rfl) rfl rfl rfl rfl (fun w hw => hw.drop (List.Sublist.cons _ (List.Sublist.cons _ (List.Sublist.cons _ (List.Sublist.cons _ (List.Sublist.cons _ (List.Sublist.cons _ (List.Sublist.cons _ (List.Sublist.cons _ (List.Sublist.cons_cons _ (List.Sublist.refl _))))))))))) (by decide +kernel) ?_
                refine KAt.take 6 (Val.load (i := 0) Tryd.isAgg48 rfl rfl rfl) rfl rfl rfl rfl (fun w hw => hw.drop (List.Sublist.cons _ (List.Sublist.cons _ (List.Sublist.cons _ (List.Sublist.cons _ (List.Sublist.cons _ (List.Sublist.cons _ (List.Sublist.cons _ (List.Sublist.cons _ (List.Sublist.cons_cons _ (List.Sublist.refl _))))))))))) (by decide +kernel) ?_
                refine KAt.take 7 (Val.conv Tryd.underlying48 Tryd.underlying5 rfl) rfl rfl rfl rfl (fun w hw => hw.drop (List.Sublist.cons _ (List.Sublist.cons _ (List.Sublist.cons _ (List.Sublist.cons _ (List.Sublist.cons _ (List.Sublist.cons _ (List.Sublist.cons _ (List.Sublist.cons _ (List.Sublist.cons_cons _ (List.Sublist.refl _))))))))))) (by decide +kernel) ?_
                rw [u8_wrap]
                refine KAt.three 1 8 14 rfl rfl rfl (by decide +kernel) ?_ ?_ ?_
                · skip
                  refine At.callN (fun w hw => copyBytes_n _ (svC T S) w (row_rd (hw.row (i := 3) rfl) (by decide)) (by omega)) Tryd.call33 rfl rfl (fun v22 => ?_)
                  refine At.nil ?_
                  refine KAt.go (fun w hw => hw.drop (List.Sublist.cons _ (List.Sublist.cons _ (List.Sublist.cons _ (List.Sublist.cons _ (List.Sublist.cons _ (List.Sublist.cons _ (List.Sublist.cons _ (List.Sublist.cons _ (List.Sublist.cons _ (List.Sublist.cons_cons _ (List.Sublist.refl _)))))))))))) ?_
                  refine KAt.two 8 14 rfl rfl (by decide +kernel) ?_ ?_
                  · skip
                    refine At.buildSl (fun a ha => by simp only [List.map_toArray, List.map_cons, List.map_nil, ha.eval (x := (.tmp 85)) rfl, ha.eval (x := (.tmp 88)) rfl, ha.eval (x := (.const (.int .u8 (9)))) rfl]; try rfl) (bs_54_3 _ _ _ ) rfl (fun b23 => ?_)
                    refine At.nil ?_
                    refine KAt.go (fun w hw => hw.drop (List.Sublist.cons _ (List.Sublist.cons _ (List.Sublist.cons _ (List.Sublist.cons _ (List.Sublist.cons _ (List.Sublist.cons _ (List.Sublist.cons _ (List.Sublist.cons _ (List.Sublist.cons _ (List.Sublist.cons _ (List.Sublist.cons_cons _ (List.Sublist.refl _))))))))))))) ?_
                    refine KAt.two 9 14 rfl rfl (by decide +kernel) ?_ ?_
                    · skip
                      refine At.appendBlkB (i := 1) (j := 0) (m := [(UInt8.ofNat (IntKind.u8.wrap p).toNat), (UInt8.ofNat (IntKind.u8.wrap (F.toNat : Int)).toNat), 9]) (by_ := 1) Tryd.underlying54 info_5 rfl rfl rfl rfl rfl rfl rfl rfl rfl (by omega) (by omega) rfl (fun v24 => ?_)
                      simp only [List.set_cons_zero, List.set_cons_succ]
                      refine At.nil ?_
                      refine KAt.go (fun w hw => hw.drop (List.Sublist.cons _ (List.Sublist.cons _ (List.Sublist.cons _ (List.Sublist.cons _ (List.Sublist.cons _ (List.Sublist.cons _ (List.Sublist.cons _ (List.Sublist.cons _ (List.Sublist.cons _ (List.Sublist.cons _ (List.Sublist.cons_cons _ (List.Sublist.refl _))))))))))))) ?_
                      refine KAt.two 10 14 rfl rfl (by decide +kernel) ?_ ?_
                      · skip
                        refine At.callNT (g := (fun v => .tuple #[.agg #[b32 (oT (svC T S ++ [(UInt8.ofNat (IntKind.u8.wrap p).toNat), (UInt8.ofNat (IntKind.u8.wrap (F.toNat : Int)).toNat), 9])), v], .int .i64 (oE (svC T S ++ [(UInt8.ofNat (IntKind.u8.wrap p).toNat), (UInt8.ofNat (IntKind.u8.wrap (F.toNat : Int)).toNat), 9]))])) (fun w hw => openSv_n _ (svC T S ++ [(UInt8.ofNat (IntKind.u8.wrap p).toNat), (UInt8.ofNat (IntKind.u8.wrap (F.toNat : Int)).toNat), 9]) w (ht.mod hw.mod) (row_rd (hw.row (i := 1) rfl) (by decide)) (by first | omega | (simp only [List.length_take, List.length_drop, spoilL_length]; omega) | (rw [List.length_append]; simp; omega))) Tryd.call48 rfl rfl (fun v25 => ?_)
                        obtain ⟨hok2, eT2, eS2, _⟩ := rec_ok hg (l := (svC T S ++ [(UInt8.ofNat (IntKind.u8.wrap p).toNat), (UInt8.ofNat (IntKind.u8.wrap (F.toNat : Int)).toNat), 9])) (by rw [List.length_append, hCl]; omega) (fun i hi => by rw [List.getElem?_append_left (by omega), svC_at hi])
                        rw [oE_yes hok2, oT_yes hok2, oL_yes hok2, eT2, eS2]
                        refine At.nil ?_
                        refine KAt.go (fun w hw => hw.drop (List.Sublist.cons _ (List.Sublist.cons _ (List.Sublist.cons _ (List.Sublist.cons _ (List.Sublist.cons _ (List.Sublist.cons _ (List.Sublist.cons _ (List.Sublist.cons _ (List.Sublist.cons _ (List.Sublist.cons _ (List.Sublist.cons _ (List.Sublist.cons_cons _ (List.Sublist.refl _)))))))))))))) ?_
                        refine KAt.take 11 (Val.move rfl) rfl rfl rfl rfl (fun w hw => hw.drop (List.Sublist.cons _ (List.Sublist.cons _ (List.Sublist.cons _ (List.Sublist.cons _ (List.Sublist.cons _ (List.Sublist.cons _ (List.Sublist.cons _ (List.Sublist.cons _ (List.Sublist.cons _ (List.Sublist.cons _ (List.Sublist.cons _ (List.Sublist.cons_cons _ (List.Sublist.refl _)))))))))))))) (by decide +kernel) ?_
                        refine KAt.take 12 (Val.extract rfl rfl) rfl rfl rfl rfl (fun w hw => hw.drop (List.Sublist.cons _ (List.Sublist.cons _ (List.Sublist.cons _ (List.Sublist.cons _ (List.Sublist.cons _ (List.Sublist.cons _ (List.Sublist.cons _ (List.Sublist.cons _ (List.Sublist.cons _ (List.Sublist.cons _ (List.Sublist.cons _ (List.Sublist.cons_cons _ (List.Sublist.refl _)))))))))))))) (by decide +kernel) ?_
                        refine KAt.take 13 (Val.extract rfl rfl) rfl rfl rfl rfl (fun w hw => hw.drop (List.Sublist.cons _ (List.Sublist.cons _ (List.Sublist.cons _ (List.Sublist.cons _ (List.Sublist.cons _ (List.Sublist.cons _ (List.Sublist.cons _ (List.Sublist.cons _ (List.Sublist.cons _ (List.Sublist.cons _ (List.Sublist.cons _ (List.Sublist.cons_cons _ (List.Sublist.refl _)))))))))))))) (by decide +kernel) ?_
                        refine KAt.only 14 rfl (by decide +kernel) ?_
                        refine At.alloc Tryd.zeroValue74 rfl rfl (fun b26 => ?_)
                        refine At.nil ?_
                        refine KAt.go (fun w hw => hw.drop (List.Sublist.cons _ (List.Sublist.cons _ (List.Sublist.cons _ (List.Sublist.cons _ (List.Sublist.cons _ (List.Sublist.cons _ (List.Sublist.cons _ (List.Sublist.cons _ (List.Sublist.cons _ (List.Sublist.cons _ (List.Sublist.cons _ (List.Sublist.cons _ (List.Sublist.cons_cons _ (List.Sublist.refl _))))))))))))))) ?_
                        refine KAt.only 15 rfl (by decide +kernel) ?_
                        refine At.rowOne (i := 1) rfl (fun ho27 => ?_)
                        refine At.storeAll (i := 0) Tryd.sizeOf74 rfl rfl rfl (by intro u hu; simp only [List.mem_cons, List.not_mem_nil, or_false] at hu; rcases hu with rfl | rfl <;> first | rfl | assumption) rfl rfl ?_
                        simp only [List.set_cons_zero, List.set_cons_succ]
                        refine At.nil ?_
                        refine KAt.go (fun w hw => hw.drop (List.Sublist.cons _ (List.Sublist.cons _ (List.Sublist.cons _ (List.Sublist.cons _ (List.Sublist.cons _ (List.Sublist.cons _ (List.Sublist.cons _ (List.Sublist.cons _ (List.Sublist.cons _ (List.Sublist.cons _ (List.Sublist.cons _ (List.Sublist.cons _ (List.Sublist.cons_cons _ (List.Sublist.refl _))))))))))))))) ?_
                        refine KAt.take 16 (Val.assign rfl) rfl rfl rfl rfl (fun w hw => hw.drop (List.Sublist.cons _ (List.Sublist.cons _ (List.Sublist.cons _ (List.Sublist.cons _ (List.Sublist.cons _ (List.Sublist.cons _ (List.Sublist.cons _ (List.Sublist.cons _ (List.Sublist.cons _ (List.Sublist.cons _ (List.Sublist.cons _ (List.Sublist.cons _ (List.Sublist.cons_cons _ (List.Sublist.refl _))))))))))))))) (by decide +kernel) ?_
                        refine KAt.done (by decide +kernel) ?_
                        refine At.thenN ?_
                        refine At.drop 3 ?_
                        simp only [List.eraseIdx_cons_zero, List.eraseIdx_cons_succ]
                        refine At.drop 2 ?_
                        simp only [List.eraseIdx_cons_zero, List.eraseIdx_cons_succ]
                        exact At.meets (b26, v25) trivial (Sub.cons rfl (Sub.cons rfl (Sub.cons rfl (Sub.cons rfl (Sub.cons rfl (Sub.cons rfl (Sub.cons rfl (Sub.cons rfl Sub.nil)))))))) ((erase_perm _ 2 _ rfl).trans (List.Perm.cons _ ((erase_perm _ 2 _ rfl).trans (List.Perm.cons _ ((erase_perm _ 2 _ rfl).trans (List.Perm.cons _ ((erase_perm _ 2 _ rfl).trans (List.Perm.cons _ ((erase_perm _ 2 _ rfl).trans (List.Perm.cons _ ((erase_perm _ 2 _ rfl).trans (List.Perm.cons _ ((erase_perm _ 2 _ rfl).trans (List.Perm.cons _ ((erase_perm _ 2 _ rfl).trans (List.Perm.cons _ ((erase_perm _ 2 _ rfl).trans (List.Perm.cons _ (List.Perm.refl _)))))))))))))))))))
                      · skip
                        refine At.alloc Tryd.zeroValue74 rfl rfl (fun b28 => ?_)
                        refine At.nil ?_
                        refine KAt.go (fun w hw => hw.drop (List.Sublist.cons _ (List.Sublist.cons _ (List.Sublist.cons _ (List.Sublist.cons _ (List.Sublist.cons _ (List.Sublist.cons _ (List.Sublist.cons _ (List.Sublist.cons _ (List.Sublist.cons _ (List.Sublist.cons _ (List.Sublist.cons _ (List.Sublist.cons_cons _ (List.Sublist.refl _)))))))))))))) ?_
                        refine KAt.only 10 rfl (by decide +kernel) ?_
                        refine At.callNT (g := (fun v => .tuple #[.agg #[b32 (oT (svC T S ++ [(UInt8.ofNat (IntKind.u8.wrap p).toNat), (UInt8.ofNat (IntKind.u8.wrap (F.toNat : Int)).toNat), 9])), v], .int .i64 (oE (svC T S ++ [(UInt8.ofNat (IntKind.u8.wrap p).toNat), (UInt8.ofNat (IntKind.u8.wrap (F.toNat : Int)).toNat), 9]))])) (fun w hw => openSv_n _ (svC T S ++ [(UInt8.ofNat (IntKind.u8.wrap p).toNat), (UInt8.ofNat (IntKind.u8.wrap (F.toNat : Int)).toNat), 9]) w (ht.mod hw.mod) (row_rd (hw.row (i := 2) rfl) (by decide)) (by first | omega | (simp only [List.length_take, List.length_drop, spoilL_length]; omega) | (rw [List.length_append]; simp; omega))) Tryd.call48 rfl rfl (fun v29 => ?_)
                        obtain ⟨hok2, eT2, eS2, _⟩ := rec_ok hg (l := (svC T S ++ [(UInt8.ofNat (IntKind.u8.wrap p).toNat), (UInt8.ofNat (IntKind.u8.wrap (F.toNat : Int)).toNat), 9])) (by rw [List.length_append, hCl]; omega) (fun i hi => by rw [List.getElem?_append_left (by omega), svC_at hi])
                        rw [oE_yes hok2, oT_yes hok2, oL_yes hok2, eT2, eS2]
                        refine At.nil ?_
                        refine KAt.go (fun w hw => hw.drop (List.Sublist.cons _ (List.Sublist.cons _ (List.Sublist.cons _ (List.Sublist.cons _ (List.Sublist.cons _ (List.Sublist.cons _ (List.Sublist.cons _ (List.Sublist.cons _ (List.Sublist.cons _ (List.Sublist.cons _ (List.Sublist.cons _ (List.Sublist.cons _ (List.Sublist.cons_cons _ (List.Sublist.refl _))))))))))))))) ?_
                        refine KAt.take 11 (Val.move rfl) rfl rfl rfl rfl (fun w hw => hw.drop (List.Sublist.cons _ (List.Sublist.cons _ (List.Sublist.cons _ (List.Sublist.cons _ (List.Sublist.cons _ (List.Sublist.cons _ (List.Sublist.cons _ (List.Sublist.cons _ (List.Sublist.cons _ (List.Sublist.cons _ (List.Sublist.cons _ (List.Sublist.cons _ (List.Sublist.cons_cons _ (List.Sublist.refl _))))))))))))))) (by decide +kernel) ?_
                        refine KAt.take 12 (Val.extract rfl rfl) rfl rfl rfl rfl (fun w hw => hw.drop (List.Sublist.cons _ (List.Sublist.cons _ (List.Sublist.cons _ (List.Sublist.cons _ (List.Sublist.cons _ (List.Sublist.cons _ (List.Sublist.cons _ (List.Sublist.cons _ (List.Sublist.cons _ (List.Sublist.cons _ (List.Sublist.cons _ (List.Sublist.cons _ (List.Sublist.cons_cons _ (List.Sublist.refl _))))))))))))))) (by decide +kernel) ?_
                        refine KAt.take 13 (Val.extract rfl rfl) rfl rfl rfl rfl (fun w hw => hw.drop (List.Sublist.cons _ (List.Sublist.cons _ (List.Sublist.cons _ (List.Sublist.cons _ (List.Sublist.cons _ (List.Sublist.cons _ (List.Sublist.cons _ (List.Sublist.cons _ (List.Sublist.cons _ (List.Sublist.cons _ (List.Sublist.cons _ (List.Sublist.cons _ (List.Sublist.cons_cons _ (List.Sublist.refl _))))))))))))))) (by decide +kernel) ?_
                        refine KAt.only 15 rfl (by decide +kernel) ?_
                        refine At.rowOne (i := 0) rfl (fun ho30 => ?_)
                        refine At.storeAll (i := 1) Tryd.sizeOf74 rfl rfl rfl (by intro u hu; simp only [List.mem_cons, List.not_mem_nil, or_false] at hu; rcases hu with rfl | rfl <;> first | rfl | assumption) rfl rfl ?_
                        simp only [List.set_cons_zero, List.set_cons_succ]
                        refine At.nil ?_
                        refine KAt.go (fun w hw => hw.drop (List.Sublist.cons _ (List.Sublist.cons _ (List.Sublist.cons _ (List.Sublist.cons _ (List.Sublist.cons _ (List.Sublist.cons _ (List.Sublist.cons _ (List.Sublist.cons _ (List.Sublist.cons _ (List.Sublist.cons _ (List.Sublist.cons _ (List.Sublist.cons _ (List.Sublist.cons_cons _ (List.Sublist.refl _))))))))))))))) ?_
                        refine KAt.take 16 (Val.assign rfl) rfl rfl rfl rfl (fun w hw => hw.drop (List.Sublist.cons _ (List.Sublist.cons _ (List.Sublist.cons _ (List.Sublist.cons _ (List.Sublist.cons _ (List.Sublist.cons _ (List.Sublist.cons _ (List.Sublist.cons _ (List.Sublist.cons _ (List.Sublist.cons _ (List.Sublist.cons _ (List.Sublist.cons _ (List.Sublist.cons_cons _ (List.Sublist.refl _))))))))))))))) (by decide +kernel) ?_
                        refine KAt.done (by decide +kernel) ?_
                        refine At.thenN ?_
                        refine At.drop 3 ?_
                        simp only [List.eraseIdx_cons_zero, List.eraseIdx_cons_succ]
                        refine At.drop 2 ?_
                        simp only [List.eraseIdx_cons_zero, List.eraseIdx_cons_succ]
                        exact At.meets (b28, v29) trivial (Sub.cons rfl (Sub.cons rfl (Sub.cons rfl (Sub.cons rfl (Sub.cons rfl (Sub.cons rfl (Sub.cons rfl (Sub.cons rfl Sub.nil)))))))) ((erase_perm _ 2 _ rfl).trans (List.Perm.cons _ ((erase_perm _ 2 _ rfl).trans (List.Perm.cons _ ((erase_perm _ 2 _ rfl).trans (List.Perm.cons _ ((erase_perm _ 2 _ rfl).trans (List.Perm.cons _ ((erase_perm _ 2 _ rfl).trans (List.Perm.cons _ ((erase_perm _ 2 _ rfl).trans (List.Perm.cons _ ((erase_perm _ 2 _ rfl).trans (List.Perm.cons _ ((erase_perm _ 2 _ rfl).trans (List.Perm.cons _ ((erase_perm _ 2 _ rfl).trans (List.Perm.cons _ ((erase_perm _ 1 _ rfl).trans (List.Perm.cons _ (List.Perm.refl _)))))))))))))))))))))
                    · skip
                      refine At.alloc Tryd.zeroValue74 rfl rfl (fun b31 => ?_)
                      refine At.nil ?_
                      refine KAt.go (fun w hw => hw.drop (List.Sublist.cons _ (List.Sublist.cons _ (List.Sublist.cons _ (List.Sublist.cons _ (List.Sublist.cons _ (List.Sublist.cons _ (List.Sublist.cons _ (List.Sublist.cons _ (List.Sublist.cons _ (List.Sublist.cons _ (List.Sublist.cons _ (List.Sublist.cons_cons _ (List.Sublist.refl _)))))))))))))) ?_
                      refine KAt.only 9 rfl (by decide +kernel) ?_
                      refine At.appendBlkB (i := 2) (j := 1) (m := [(UInt8.ofNat (IntKind.u8.wrap p).toNat), (UInt8.ofNat (IntKind.u8.wrap (F.toNat : Int)).toNat), 9]) (by_ := 1) Tryd.underlying54 info_5 rfl rfl rfl rfl rfl rfl rfl rfl rfl (by omega) (by omega) rfl (fun v32 => ?_)
                      simp only [List.set_cons_zero, List.set_cons_succ]
                      refine At.nil ?_
                      refine KAt.go (fun w hw => hw.drop (List.Sublist.cons _ (List.Sublist.cons _ (List.Sublist.cons _ (List.Sublist.cons _ (List.Sublist.cons _ (List.Sublist.cons _ (List.Sublist.cons _ (List.Sublist.cons _ (List.Sublist.cons _ (List.Sublist.cons _ (List.Sublist.cons _ (List.Sublist.cons_cons _ (List.Sublist.refl _)))))))))))))) ?_
                      refine KAt.only 10 rfl (by decide +kernel) ?_
                      refine At.callNT (g := (fun v => .tuple #[.agg #[b32 (oT (svC T S ++ [(UInt8.ofNat (IntKind.u8.wrap p).toNat), (UInt8.ofNat (IntKind.u8.wrap (F.toNat : Int)).toNat), 9])), v], .int .i64 (oE (svC T S ++ [(UInt8.ofNat (IntKind.u8.wrap p).toNat), (UInt8.ofNat (IntKind.u8.wrap (F.toNat : Int)).toNat), 9]))])) (fun w hw => openSv_n _ (svC T S ++ [(UInt8.ofNat (IntKind.u8.wrap p).toNat), (UInt8.ofNat (IntKind.u8.wrap (F.toNat : Int)).toNat), 9]) w (ht.mod hw.mod) (row_rd (hw.row (i := 2) rfl) (by decide)) (by first | omega | (simp only [List.length_take, List.length_drop, spoilL_length]; omega) | (rw [List.length_append]; simp; omega))) Tryd.call48 rfl rfl (fun v33 => ?_)
                      obtain ⟨hok2, eT2, eS2, _⟩ := rec_ok hg (l := (svC T S ++ [(UInt8.ofNat (IntKind.u8.wrap p).toNat), (UInt8.ofNat (IntKind.u8.wrap (F.toNat : Int)).toNat), 9])) (by rw [List.length_append, hCl]; omega) (fun i hi => by rw [List.getElem?_append_left (by omega), svC_at hi])
                      rw [oE_yes hok2, oT_yes hok2, oL_yes hok2, eT2, eS2]
                      refine At.nil ?_
                      refine KAt.go (fun w hw => hw.drop (List.Sublist.cons _ (List.Sublist.cons _ (List.Sublist.cons _ (List.Sublist.cons _ (List.Sublist.cons _ (List.Sublist.cons _ (List.Sublist.cons _ (List.Sublist.cons _ (List.Sublist.cons _ (List.Sublist.cons _ (List.Sublist.cons _ (List.Sublist.cons _ (List.Sublist.cons_cons _ (List.Sublist.refl _))))))))))))))) ?_
                      refine KAt.take 11 (Val.move rfl) rfl rfl rfl rfl (fun w hw => hw.drop (List.Sublist.cons _ (List.Sublist.cons _ (List.Sublist.cons _ (List.Sublist.cons _ (List.Sublist.cons _ (List.Sublist.cons _ (List.Sublist.cons _ (List.Sublist.cons _ (List.Sublist.cons _ (List.Sublist.cons _ (List.Sublist.cons _ (List.Sublist.cons _ (List.Sublist.cons_cons _ (List.Sublist.refl _))))))))))))))) (by decide +kernel) ?_
                      refine KAt.take 12 (Val.extract rfl rfl) rfl rfl rfl rfl (fun w hw => hw.drop (List.Sublist.cons _ (List.Sublist.cons _ (List.Sublist.cons _ (List.Sublist.cons _ (List.Sublist.cons _ (List.Sublist.cons _ (List.Sublist.cons _ (List.Sublist.cons _ (List.Sublist.cons _ (List.Sublist.cons _ (List.Sublist.cons _ (List.Sublist.cons _ (List.Sublist.cons_cons _ (List.Sublist.refl _))))))))))))))) (by decide +kernel) ?_
                      refine KAt.take 13 (Val.extract rfl rfl) rfl rfl rfl rfl (fun w hw => hw.drop (List.Sublist.cons _ (List.Sublist.cons _ (List.Sublist.cons _ (List.Sublist.cons _ (List.Sublist.cons _ (List.Sublist.cons _ (List.Sublist.cons _ (List.Sublist.cons _ (List.Sublist.cons _ (List.Sublist.cons _ (List.Sublist.cons _ (List.Sublist.cons _ (List.Sublist.cons_cons _ (List.Sublist.refl _))))))))))))))) (by decide +kernel) ?_
                      refine KAt.only 15 rfl (by decide +kernel) ?_
                      refine At.rowOne (i := 0) rfl (fun ho34 => ?_)
                      refine At.storeAll (i := 1) Tryd.sizeOf74 rfl rfl rfl (by intro u hu; simp only [List.mem_cons, List.not_mem_nil, or_false] at hu; rcases hu with rfl | rfl <;> first | rfl | assumption) rfl rfl ?_
                      simp only [List.set_cons_zero, List.set_cons_succ]
                      refine At.nil ?_
                      refine KAt.go (fun w hw => hw.drop (List.Sublist.cons _ (List.Sublist.cons _ (List.Sublist.cons _ (List.Sublist.cons _ (List.Sublist.cons _ (List.Sublist.cons _ (List.Sublist.cons _ (List.Sublist.cons _ (List.Sublist.cons _ (List.Sublist.cons _ (List.Sublist.cons _ (List.Sublist.cons _ (List.Sublist.cons_cons _ (List.Sublist.refl _))))))))))))))) ?_
                      refine KAt.take 16 (Val.assign rfl) rfl rfl rfl rfl (fun w hw => hw.drop (List.Sublist.cons _ (List.Sublist.cons _ (List.Sublist.cons _ (List.Sublist.cons _ (List.Sublist.cons _ (List.Sublist.cons _ (List.Sublist.cons _ (List.Sublist.cons _ (List.Sublist.cons _ (List.Sublist.cons _ (List.Sublist.cons _ (List.Sublist.cons _ (List.Sublist.cons_cons _ (List.Sublist.refl _))))))))))))))) (by decide +kernel) ?_
                      refine KAt.done (by decide +kernel) ?_
                      refine At.thenN ?_
                      refine At.drop 3 ?_
                      simp only [List.eraseIdx_cons_zero, List.eraseIdx_cons_succ]
                      refine At.drop 2 ?_
                      simp only [List.eraseIdx_cons_zero, List.eraseIdx_cons_succ]
                      exact At.meets (b31, v33) trivial (Sub.cons rfl (Sub.cons rfl (Sub.cons rfl (Sub.cons rfl (Sub.cons rfl (Sub.cons rfl (Sub.cons rfl (Sub.cons rfl Sub.nil)))))))) ((erase_perm _ 2 _ rfl).trans (List.Perm.cons _ ((erase_perm _ 2 _ rfl).trans (List.Perm.cons _ ((erase_perm _ 2 _ rfl).trans (List.Perm.cons _ ((erase_perm _ 2 _ rfl).trans (List.Perm.cons _ ((erase_perm _ 2 _ rfl).trans (List.Perm.cons _ ((erase_perm _ 2 _ rfl).trans (List.Perm.cons _ ((erase_perm _ 2 _ rfl).trans (List.Perm.cons _ ((erase_perm _ 2 _ rfl).trans (List.Perm.cons _ ((erase_perm _ 2 _ rfl).trans (List.Perm.cons _ ((erase_perm _ 1 _ rfl).trans (List.Perm.cons _ (List.Perm.refl _)))))))))))))))))))))
                  · skip
                    refine At.alloc Tryd.zeroValue74 rfl rfl (fun b35 => ?_)
                    refine At.nil ?_
                    refine KAt.go (fun w hw => hw.drop (List.Sublist.cons _ (List.Sublist.cons _ (List.Sublist.cons _ (List.Sublist.cons _ (List.Sublist.cons _ (List.Sublist.cons _ (List.Sublist.cons _ (List.Sublist.cons _ (List.Sublist.cons _ (List.Sublist.cons _ (List.Sublist.cons_cons _ (List.Sublist.refl _))))))))))))) ?_
                    refine KAt.only 8 rfl (by decide +kernel) ?_
                    refine At.buildSl (fun a ha => by simp only [List.map_toArray, List.map_cons, List.map_nil, ha.eval (x := (.tmp 85)) rfl, ha.eval (x := (.tmp 88)) rfl, ha.eval (x := (.const (.int .u8 (9)))) rfl]; try rfl) (bs_54_3 _ _ _ ) rfl (fun b36 => ?_)
                    refine At.nil ?_
                    refine KAt.go (fun w hw => hw.drop (List.Sublist.cons _ (List.Sublist.cons _ (List.Sublist.cons _ (List.Sublist.cons _ (List.Sublist.cons _ (List.Sublist.cons _ (List.Sublist.cons _ (List.Sublist.cons _ (List.Sublist.cons _ (List.Sublist.cons _ (List.Sublist.cons _ (List.Sublist.cons_cons _ (List.Sublist.refl _)))))))))))))) ?_
                    refine KAt.only 9 rfl (by decide +kernel) ?_
                    refine At.appendBlkB (i := 2) (j := 0) (m := [(UInt8.ofNat (IntKind.u8.wrap p).toNat), (UInt8.ofNat (IntKind.u8.wrap (F.toNat : Int)).toNat), 9]) (by_ := 1) Tryd.underlying54 info_5 rfl rfl rfl rfl rfl rfl rfl rfl rfl (by omega) (by omega) rfl (fun v37 => ?_)
                    simp only [List.set_cons_zero, List.set_cons_succ]
                    refine At.nil ?_
                    refine KAt.go (fun w hw => hw.drop (List.Sublist.cons _ (List.Sublist.cons _ (List.Sublist.cons _ (List.Sublist.cons _ (List.Sublist.cons _ (List.Sublist.cons _ (List.Sublist.cons _ (List.Sublist.cons _ (List.Sublist.cons _ (List.Sublist.cons _ (List.Sublist.cons _ (List.Sublist.cons_cons _ (List.Sublist.refl _)))))))))))))) ?_
                    refine KAt.only 10 rfl (by decide +kernel) ?_
                    refine At.callNT (g := (fun v => .tuple #[.agg #[b32 (oT (svC T S ++ [(UInt8.ofNat (IntKind.u8.wrap p).toNat), (UInt8.ofNat (IntKind.u8.wrap (F.toNat : Int)).toNat), 9])), v], .int .i64 (oE (svC T S ++ [(UInt8.ofNat (IntKind.u8.wrap p).toNat), (UInt8.ofNat (IntKind.u8.wrap (F.toNat : Int)).toNat), 9]))])) (fun w hw => openSv_n _ (svC T S ++ [(UInt8.ofNat (IntKind.u8.wrap p).toNat), (UInt8.ofNat (IntKind.u8.wrap (F.toNat : Int)).toNat), 9]) w (ht.mod hw.mod) (row_rd (hw.row (i := 2) rfl) (by decide)) (by first | omega | (simp only [List.length_take, List.length_drop, spoilL_length]; omega) | (rw [List.length_append]; simp; omega))) Tryd.call48 rfl rfl (fun v38 => ?_)
                    obtain ⟨hok2, eT2, eS2, _⟩ := rec_ok hg (l := (svC T S ++ [(UInt8.ofNat (IntKind.u8.wrap p).toNat), (UInt8.ofNat (IntKind.u8.wrap (F.toNat : Int)).toNat), 9])) (by rw [List.length_append, hCl]; omega) (fun i hi => by rw [List.getElem?_append_left (by omega), svC_at hi])
                    rw [oE_yes hok2, oT_yes hok2, oL_yes hok2, eT2, eS2]
                    refine At.nil ?_
                    refine KAt.go (fun w hw => hw.drop (List.Sublist.cons _ (List.Sublist.cons _ (List.Sublist.cons _ (List.Sublist.cons _ (List.Sublist.cons _ (List.Sublist.cons _ (List.Sublist.cons _ (List.Sublist.cons _ (List.Sublist.cons _ (List.Sublist.cons _ (List.Sublist.cons _ (List.Sublist.cons _ (List.Sublist.cons_cons _ (List.Sublist.refl _))))))))))))))) ?_
                    refine KAt.take 11 (Val.move rfl) rfl rfl rfl rfl (fun w hw => hw.drop (List.Sublist.cons _ (List.Sublist.cons _ (List.Sublist.cons _ (List.Sublist.cons _ (List.Sublist.cons _ (List.Sublist.cons _ (List.Sublist.cons _ (List.Sublist.cons _ (List.Sublist.cons _ (List.Sublist.cons _ (List.Sublist.cons _ (List.Sublist.cons _ (List.Sublist.cons_cons _ (List.Sublist.refl _))))))))))))))) (by decide +kernel) ?_
                    refine KAt.take 12 (Val.extract rfl rfl) rfl rfl rfl rfl (fun w hw => hw.drop (List.Sublist.cons _ (List.Sublist.cons _ (List.Sublist.cons _ (List.Sublist.cons _ (List.Sublist.cons _ (List.Sublist.cons _ (List.Sublist.cons _ (List.Sublist.cons _ (List.Sublist.cons _ (List.Sublist.cons _ (List.Sublist.cons _ (List.Sublist.cons _ (List.Sublist.cons_cons _ (List.Sublist.refl _))))))))))))))) (by decide +kernel) ?_
                    refine KAt.take 13 (Val.extract rfl rfl) rfl rfl rfl rfl (fun w hw => hw.drop (List.Sublist.cons _ (List.Sublist.cons _ (List.Sublist.cons _ (List.Sublist.cons _ (List.Sublist.cons _ (List.Sublist.cons _ (List.Sublist.cons _ (List.Sublist.cons _ (List.Sublist.cons _ (List.Sublist.cons _ (List.Sublist.cons _ (List.Sublist.cons _ (List.Sublist.cons_cons _ (List.Sublist.refl _))))))))))))))) (by decide +kernel) ?_
                    refine KAt.only 15 rfl (by decide +kernel) ?_
                    refine At.rowOne (i := 0) rfl (fun ho39 => ?_)
                    refine At.storeAll (i := 2) Tryd.sizeOf74 rfl rfl rfl (by intro u hu; simp only [List.mem_cons, List.not_mem_nil, or_false] at hu; rcases hu with rfl | rfl <;> first | rfl | assumption) rfl rfl ?_
                    simp only [List.set_cons_zero, List.set_cons_succ]
                    refine At.nil ?_
                    refine KAt.go (fun w hw => hw.drop (List.Sublist.cons _ (List.Sublist.cons _ (List.Sublist.cons _ (List.Sublist.cons _ (List.Sublist.cons _ (List.Sublist.cons _ (List.Sublist.cons _ (List.Sublist.cons _ (List.Sublist.cons _ (List.Sublist.cons _ (List.Sublist.cons _ (List.Sublist.cons _ (List.Sublist.cons_cons _ (List.Sublist.refl _))))))))))))))) ?_
                    refine KAt.take 16 (Val.assign rfl) rfl rfl rfl rfl (fun w hw => hw.drop (List.Sublist.cons _ (List.Sublist.cons _ (List.Sublist.cons _ (List.Sublist.cons _ (List.Sublist.cons _ (List.Sublist.cons _ (List.Sublist.cons _ (List.Sublist.cons _ (List.Sublist.cons _ (List.Sublist.cons _ (List.Sublist.cons _ (List.Sublist.cons _ (List.Sublist.cons_cons _ (List.Sublist.refl _))))))))))))))) (by decide +kernel) ?_
                    refine KAt.done (by decide +kernel) ?_
                    refine At.thenN ?_
                    refine At.drop 3 ?_
                    simp only [List.eraseIdx_cons_zero, List.eraseIdx_cons_succ]
                    refine At.drop 1 ?_
                    simp only [List.eraseIdx_cons_zero, List.eraseIdx_cons_succ]
                    exact At.meets (b35, v38) trivial (Sub.cons rfl (Sub.cons rfl (Sub.cons rfl (Sub.cons rfl (Sub.cons rfl (Sub.cons rfl (Sub.cons rfl (Sub.cons rfl Sub.nil)))))))) ((erase_perm _ 2 _ rfl).trans (List.Perm.cons _ ((erase_perm _ 2 _ rfl).trans (List.Perm.cons _ ((erase_perm _ 2 _ rfl).trans (List.Perm.cons _ ((erase_perm _ 2 _ rfl).trans (List.Perm.cons _ ((erase_perm _ 2 _ rfl).trans (List.Perm.cons _ ((erase_perm _ 2 _ rfl).trans (List.Perm.cons _ ((erase_perm _ 2 _ rfl).trans (List.Perm.cons _ ((erase_perm _ 2 _ rfl).trans (List.Perm.cons _ ((erase_perm _ 2 _ rfl).trans (List.Perm.cons _ ((erase_perm _ 1 _ rfl).trans (List.Perm.cons _ (List.Perm.refl _)))))))))))))))))))))
                · skip
                  refine At.buildSl (fun a ha => by simp only [List.map_toArray, List.map_cons, List.map_nil, ha.eval (x := (.tmp 85)) rfl, ha.eval (x := (.tmp 88)) rfl, ha.eval (x := (.const (.int .u8 (9)))) rfl]; try rfl) (bs_54_3 _ _ _ ) rfl (fun b40 => ?_)
                  refine At.nil ?_
                  refine KAt.go (fun w hw => hw.drop (List.Sublist.cons _ (List.Sublist.cons _ (List.Sublist.cons _ (List.Sublist.cons _ (List.Sublist.cons _ (List.Sublist.cons _ (List.Sublist.cons _ (List.Sublist.cons _ (List.Sublist.cons _ (List.Sublist.cons_cons _ (List.Sublist.refl _)))))))))))) ?_
                  refine KAt.two 1 14 rfl rfl (by decide +kernel) ?_ ?_
                  · skip
                    refine At.callN (fun w hw => copyBytes_n _ (svC T S) w (row_rd (hw.row (i := 4) rfl) (by decide)) (by omega)) Tryd.call33 rfl rfl (fun v41 => ?_)
                    refine At.nil ?_
                    refine KAt.go (fun w hw => hw.drop (List.Sublist.cons _ (List.Sublist.cons _ (List.Sublist.cons _ (List.Sublist.cons _ (List.Sublist.cons _ (List.Sublist.cons _ (List.Sublist.cons _ (List.Sublist.cons _ (List.Sublist.cons _ (List.Sublist.cons _ (List.Sublist.cons_cons _ (List.Sublist.refl _))))))))))))) ?_
                    refine KAt.two 9 14 rfl rfl (by decide +kernel) ?_ ?_
                    · skip
                      refine At.appendBlkB (i := 0) (j := 1) (m := [(UInt8.ofNat (IntKind.u8.wrap p).toNat), (UInt8.ofNat (IntKind.u8.wrap (F.toNat : Int)).toNat), 9]) (by_ := 1) Tryd.underlying54 info_5 rfl rfl rfl rfl rfl rfl rfl rfl rfl (by omega) (by omega) rfl (fun v42 => ?_)
                      simp only [List.set_cons_zero, List.set_cons_succ]
                      refine At.nil ?_
                      refine KAt.go (fun w hw => hw.drop (List.Sublist.cons _ (List.Sublist.cons _ (List.Sublist.cons _ (List.Sublist.cons _ (List.Sublist.cons _ (List.Sublist.cons _ (List.Sublist.cons _ (List.Sublist.cons _ (List.Sublist.cons _ (List.Sublist.cons _ (List.Sublist.cons_cons _ (List.Sublist.refl _))))))))))))) ?_
                      refine KAt.two 10 14 rfl rfl (by decide +kernel) ?_ ?_
                      · skip
                        refine At.callNT (g := (fun v => .tuple #[.agg #[b32 (oT (svC T S ++ [(UInt8.ofNat (IntKind.u8.wrap p).toNat), (UInt8.ofNat (IntKind.u8.wrap (F.toNat : Int)).toNat), 9])), v], .int .i64 (oE (svC T S ++ [(UInt8.ofNat (IntKind.u8.wrap p).toNat), (UInt8.ofNat (IntKind.u8.wrap (F.toNat : Int)).toNat), 9]))])) (fun w hw => openSv_n _ (svC T S ++ [(UInt8.ofNat (IntKind.u8.wrap p).toNat), (UInt8.ofNat (IntKind.u8.wrap (F.toNat : Int)).toNat), 9]) w (ht.mod hw.mod) (row_rd (hw.row (i := 0) rfl) (by decide)) (by first | omega | (simp only [List.length_take, List.length_drop, spoilL_length]; omega) | (rw [List.length_append]; simp; omega))) Tryd.call48 rfl rfl (fun v43 => ?_)
                        obtain ⟨hok2, eT2, eS2, _⟩ := rec_ok hg (l := (svC T S ++ [(UInt8.ofNat (IntKind.u8.wrap p).toNat), (UInt8.ofNat (IntKind.u8.wrap (F.toNat : Int)).toNat), 9])) (by rw [List.length_append, hCl]; omega) (fun i hi => by rw [List.getElem?_append_left (by omega), svC_at hi])
                        rw [oE_yes hok2, oT_yes hok2, oL_yes hok2, eT2, eS2]
                        refine At.nil ?_
                        refine KAt.go (fun w hw => hw.drop (List.Sublist.cons _ (List.Sublist.cons _ (List.Sublist.cons _ (List.Sublist.cons _ (List.Sublist.cons _ (List.Sublist.cons _ (List.Sublist.cons _ (List.Sublist.cons _ (List.Sublist.cons _ (List.Sublist.cons _ (List.Sublist.cons _ (List.Sublist.cons_cons _ (List.Sublist.refl _)))))))))))))) ?_
                        refine KAt.take 11 (Val.move rfl) rfl rfl rfl rfl (fun w hw => hw.drop (List.Sublist.cons _ (List.Sublist.cons _ (List.Sublist.cons _ (List.Sublist.cons _ (List.Sublist.cons _ (List.Sublist.cons _ (List.Sublist.cons _ (List.Sublist.cons _ (List.Sublist.cons _ (List.Sublist.cons _ (List.Sublist.cons _ (List.Sublist.cons_cons _ (List.Sublist.refl _)))))))))))))) (by decide +kernel) ?_
                        refine KAt.take 12 (Val.extract rfl rfl) rfl rfl rfl rfl (fun w hw => hw.drop (List.Sublist.cons _ (List.Sublist.cons _ (List.Sublist.cons _ (List.Sublist.cons _ (List.Sublist.cons _ (List.Sublist.cons _ (List.Sublist.cons _ (List.Sublist.cons _ (List.Sublist.cons _ (List.Sublist.cons _ (List.Sublist.cons _ (List.Sublist.cons_cons _ (List.Sublist.refl _)))))))))))))) (by decide +kernel) ?_
                        refine KAt.take 13 (Val.extract rfl rfl) rfl rfl rfl rfl (fun w hw => hw.drop (List.Sublist.cons _ (List.Sublist.cons _ (List.Sublist.cons _ (List.Sublist.cons _ (List.Sublist.cons _ (List.Sublist.cons _ (List.Sublist.cons _ (List.Sublist.cons _ (List.Sublist.cons _ (List.Sublist.cons _ (List.Sublist.cons _ (List.Sublist.cons_cons _ (List.Sublist.refl _)))))))))))))) (by decide +kernel) ?_
                        refine KAt.only 14 rfl (by decide +kernel) ?_
                        refine At.alloc Tryd.zeroValue74 rfl rfl (fun b44 => ?_)
                        refine At.nil ?_
                        refine KAt.go (fun w hw => hw.drop (List.Sublist.cons _ (List.Sublist.cons _ (List.Sublist.cons _ (List.Sublist.cons _ (List.Sublist.cons _ (List.Sublist.cons _ (List.Sublist.cons _ (List.Sublist.cons _ (List.Sublist.cons _ (List.Sublist.cons _ (List.Sublist.cons _ (List.Sublist.cons _ (List.Sublist.cons_cons _ (List.Sublist.refl _))))))))))))))) ?_
                        refine KAt.only 15 rfl (by decide +kernel) ?_
                        refine At.rowOne (i := 1) rfl (fun ho45 => ?_)
                        refine At.storeAll (i := 0) Tryd.sizeOf74 rfl rfl rfl (by intro u hu; simp only [List.mem_cons, List.not_mem_nil, or_false] at hu; rcases hu with rfl | rfl <;> first | rfl | assumption) rfl rfl ?_
                        simp only [List.set_cons_zero, List.set_cons_succ]
                        refine At.nil ?_
                        refine KAt.go (fun w hw => hw.drop (List.Sublist.cons _ (List.Sublist.cons _ (List.Sublist.cons _ (List.Sublist.cons _ (List.Sublist.cons _ (List.Sublist.cons _ (List.Sublist.cons _ (List.Sublist.cons _ (List.Sublist.cons _ (List.Sublist.cons _ (List.Sublist.cons _ (List.Sublist.cons _ (List.Sublist.cons_cons _ (List.Sublist.refl _))))))))))))))) ?_
                        refine KAt.take 16 (Val.assign rfl) rfl rfl rfl rfl (fun w hw => hw.drop (List.Sublist.cons _ (List.Sublist.cons _ (List.Sublist.cons _ (List.Sublist.cons _ (List.Sublist.cons _ (List.Sublist.cons _ (List.Sublist.cons _ (List.Sublist.cons _ (List.Sublist.cons _ (List.Sublist.cons _ (List.Sublist.cons _ (List.Sublist.cons _ (List.Sublist.cons_cons _ (List.Sublist.refl _))))))))))))))) (by decide +kernel) ?_
                        refine KAt.done (by decide +kernel) ?_
                        refine At.thenN ?_
                        refine At.drop 3 ?_
                        simp only [List.eraseIdx_cons_zero, List.eraseIdx_cons_succ]
                        refine At.drop 2 ?_
                        simp only [List.eraseIdx_cons_zero, List.eraseIdx_cons_succ]
                        exact At.meets (b44, v43) trivial (Sub.cons rfl (Sub.cons rfl (Sub.cons rfl (Sub.cons rfl (Sub.cons rfl (Sub.cons rfl (Sub.cons rfl (Sub.cons rfl Sub.nil)))))))) ((erase_perm _ 2 _ rfl).trans (List.Perm.cons _ ((erase_perm _ 2 _ rfl).trans (List.Perm.cons _ ((erase_perm _ 2 _ rfl).trans (List.Perm.cons _ ((erase_perm _ 2 _ rfl).trans (List.Perm.cons _ ((erase_perm _ 2 _ rfl).trans (List.Perm.cons _ ((erase_perm _ 2 _ rfl).trans (List.Perm.cons _ ((erase_perm _ 2 _ rfl).trans (List.Perm.cons _ ((erase_perm _ 2 _ rfl).trans (List.Perm.cons _ ((erase_perm _ 2 _ rfl).trans (List.Perm.cons _ (List.Perm.refl _)))))))))))))))))))
                      · skip
                        refine At.alloc Tryd.zeroValue74 rfl rfl (fun b46 => ?_)
                        refine At.nil ?_
                        refine KAt.go (fun w hw => hw.drop (List.Sublist.cons _ (List.Sublist.cons _ (List.Sublist.cons _ (List.Sublist.cons _ (List.Sublist.cons _ (List.Sublist.cons _ (List.Sublist.cons _ (List.Sublist.cons _ (List.Sublist.cons _ (List.Sublist.cons _ (List.Sublist.cons _ (List.Sublist.cons_cons _ (List.Sublist.refl _)))))))))))))) ?_
                        refine KAt.only 10 rfl (by decide +kernel) ?_
                        refine At.callNT (g := (fun v => .tuple #[.agg #[b32 (oT (svC T S ++ [(UInt8.ofNat (IntKind.u8.wrap p).toNat), (UInt8.ofNat (IntKind.u8.wrap (F.toNat : Int)).toNat), 9])), v], .int .i64 (oE (svC T S ++ [(UInt8.ofNat (IntKind.u8.wrap p).toNat), (UInt8.ofNat (IntKind.u8.wrap (F.toNat : Int)).toNat), 9]))])) (fun w hw => openSv_n _ (svC T S ++ [(UInt8.ofNat (IntKind.u8.wrap p).toNat), (UInt8.ofNat (IntKind.u8.wrap (F.toNat : Int)).toNat), 9]) w (ht.mod hw.mod) (row_rd (hw.row (i := 1) rfl) (by decide)) (by first | omega | (simp only [List.length_take, List.length_drop, spoilL_length]; omega) | (rw [List.length_append]; simp; omega))) Tryd.call48 rfl rfl (fun v47 => ?_)
                        obtain ⟨hok2, eT2, eS2, _⟩ := rec_ok hg (l := (svC T S ++ [(UInt8.ofNat (IntKind.u8.wrap p).toNat), (UInt8.ofNat (IntKind.u8.wrap (F.toNat : Int)).toNat), 9])) (by rw [List.length_append, hCl]; omega) (fun i hi => by rw [List.getElem?_append_left (by omega), svC_at hi])
                        rw [oE_yes hok2, oT_yes hok2, oL_yes hok2, eT2, eS2]
                        refine At.nil ?_
                        refine KAt.go (fun w hw => hw.drop (List.Sublist.cons _ (List.Sublist.cons _ (List.Sublist.cons _ (List.Sublist.cons _ (List.Sublist.cons _ (List.Sublist.cons _ (List.Sublist.cons _ (List.Sublist.cons _ (List.Sublist.cons _ (List.Sublist.cons _ (List.Sublist.cons _ (List.Sublist.cons _ (List.Sublist.cons_cons _ (List.Sublist.refl _))))))))))))))) ?_
                        refine KAt.take 11 (Val.move rfl) rfl rfl rfl rfl (fun w hw => hw.drop (List.Sublist.cons _ (List.Sublist.cons _ (List.Sublist.cons _ (List.Sublist.cons _ (List.Sublist.cons _ (List.Sublist.cons _ (List.Sublist.cons _ (List.Sublist.cons _ (List.Sublist.cons _ (List.Sublist.cons _ (List.Sublist.cons _ (List.Sublist.cons _ (List.Sublist.cons_cons _ (List.Sublist.refl _))))))))))))))) (by decide +kernel) ?_
                        refine KAt.take 12 (Val.extract rfl rfl) rfl rfl rfl rfl (fun w hw => hw.drop (List.Sublist.cons _ (List.Sublist.cons _ (List.Sublist.cons _ (List.Sublist.cons _ (List.Sublist.cons _ (List.Sublist.cons _ (List.Sublist.cons _ (List.Sublist.cons _ (List.Sublist.cons _ (List.Sublist.cons _ (List.Sublist.cons _ (List.Sublist.cons _ (List.Sublist.cons_cons _ (List.Sublist.refl _))))))))))))))) (by decide +kernel) ?_
                        refine KAt.take 13 (Val.extract rfl rfl) rfl rfl rfl rfl (fun w hw => hw.drop (List.Sublist.cons _ (List.Sublist.cons _ (List.Sublist.cons _ (List.Sublist.cons _ (List.Sublist.cons _ (List.Sublist.cons _ (List.Sublist.cons _ (List.Sublist.cons _ (List.Sublist.cons _ (List.Sublist.cons _ (List.Sublist.cons _ (List.Sublist.cons _ (List.Sublist.cons_cons _ (List.Sublist.refl _))))))))))))))) (by decide +kernel) ?_
                        refine KAt.only 15 rfl (by decide +kernel) ?_
                        refine At.rowOne (i := 0) rfl (fun ho48 => ?_)
                        refine At.storeAll (i := 1) Tryd.sizeOf74 rfl rfl rfl (by intro u hu; simp only [List.mem_cons, List.not_mem_nil, or_false] at hu; rcases hu with rfl | rfl <;> first | rfl | assumption) rfl rfl ?_
                        simp only [List.set_cons_zero, List.set_cons_succ]
                        refine At.nil ?_
                        refine KAt.go (fun w hw => hw.drop (List.Sublist.cons _ (List.Sublist.cons _ (List.Sublist.cons _ (List.Sublist.cons _ (List.Sublist.cons _ (List.Sublist.cons _ (List.Sublist.cons _ (List.Sublist.cons _ (List.Sublist.cons _ (List.Sublist.cons _ (List.Sublist.cons _ (List.Sublist.cons _ (List.Sublist.cons_cons _ (List.Sublist.refl _))))))))))))))) ?_
                        refine KAt.take 16 (Val.assign rfl) rfl rfl rfl rfl (fun w hw => hw.drop (List.Sublist.cons _ (List.Sublist.cons _ (List.Sublist.cons _ (List.Sublist.cons _ (List.Sublist.cons _ (List.Sublist.cons _ (List.Sublist.cons _ (List.Sublist.cons _ (List.Sublist.cons _ (List.Sublist.cons _ (List.Sublist.cons _ (List.Sublist.cons _ (List.Sublist.cons_cons _ (List.Sublist.refl _))))))))))))))) (by decide +kernel) ?_
                        refine KAt.done (by decide +kernel) ?_
                        refine At.thenN ?_
                        refine At.drop 3 ?_
                        simp only [List.eraseIdx_cons_zero, List.eraseIdx_cons_succ]
                        refine At.drop 2 ?_
                        simp only [List.eraseIdx_cons_zero, List.eraseIdx_cons_succ]
                        exact At.meets (b46, v47) trivial (Sub.cons rfl (Sub.cons rfl (Sub.cons rfl (Sub.cons rfl (Sub.cons rfl (Sub.cons rfl (Sub.cons rfl (Sub.cons rfl Sub.nil)))))))) ((erase_perm _ 2 _ rfl).trans (List.Perm.cons _ ((erase_perm _ 2 _ rfl).trans (List.Perm.cons _ ((erase_perm _ 2 _ rfl).trans (List.Perm.cons _ ((erase_perm _ 2 _ rfl).trans (List.Perm.cons _ ((erase_perm _ 2 _ rfl).trans (List.Perm.cons _ ((erase_perm _ 2 _ rfl).trans (List.Perm.cons _ ((erase_perm _ 2 _ rfl).trans (List.Perm.cons _ ((erase_perm _ 2 _ rfl).trans (List.Perm.cons _ ((erase_perm _ 2 _ rfl).trans (List.Perm.cons _ ((erase_perm _ 1 _ rfl).trans (List.Perm.cons _ (List.Perm.refl _)))))))))))))))))))))
                    · skip
                      refine At.alloc Tryd.zeroValue74 rfl rfl (fun b49 => ?_)
                      refine At.nil ?_
                      refine KAt.go (fun w hw => hw.drop (List.Sublist.cons _ (List.Sublist.cons _ (List.Sublist.cons _ (List.Sublist.cons _ (List.Sublist.cons _ (List.Sublist.cons _ (List.Sublist.cons _ (List.Sublist.cons _ (List.Sublist.cons _ (List.Sublist.cons _ (List.Sublist.cons _ (List.Sublist.cons_cons _ (List.Sublist.refl _)))))))))))))) ?_
                      refine KAt.only 9 rfl (by decide +kernel) ?_
                      refine At.appendBlkB (i := 1) (j := 2) (m := [(UInt8.ofNat (IntKind.u8.wrap p).toNat), (UInt8.ofNat (IntKind.u8.wrap (F.toNat : Int)).toNat), 9]) (by_ := 1) Tryd.underlying54 info_5 rfl rfl rfl rfl rfl rfl rfl rfl rfl (by omega) (by omega) rfl (fun v50 => ?_)
                      simp only [List.set_cons_zero, List.set_cons_succ]
                      refine At.nil ?_
                      refine KAt.go (fun w hw => hw.drop (List.Sublist.cons _ (List.Sublist.cons _ (List.Sublist.cons _ (List.Sublist.cons _ (List.Sublist.cons _ (List.Sublist.cons _ (List.Sublist.cons _ (List.Sublist.cons _ (List.Sublist.cons _ (List.Sublist.cons _ (List.Sublist.cons _ (List.Sublist.cons_cons _ (List.Sublist.refl _)))))))))))))) ?_
                      refine KAt.only 10 rfl (by decide +kernel) ?_
                      refine At.callNT (g := (fun v => .tuple #[.agg #[b32 (oT (svC T S ++ [(UInt8.ofNat (IntKind.u8.wrap p).toNat), (UInt8.ofNat (IntKind.u8.wrap (F.toNat : Int)).toNat), 9])), v], .int .i64 (oE (svC T S ++ [(UInt8.ofNat (IntKind.u8.wrap p).toNat), (UInt8.ofNat (IntKind.u8.wrap (F.toNat : Int)).toNat), 9]))])) (fun w hw => openSv_n _ (svC T S ++ [(UInt8.ofNat (IntKind.u8.wrap p).toNat), (UInt8.ofNat (IntKind.u8.wrap (F.toNat : Int)).toNat), 9]) w (ht.mod hw.mod) (row_rd (hw.row (i := 1) rfl) (by decide)) (by first | omega | (simp only [List.length_take, List.length_drop, spoilL_length]; omega) | (rw [List.length_append]; simp; omega))) Tryd.call48 rfl rfl (fun v51 => ?_)
                      obtain ⟨hok2, eT2, eS2, _⟩ := rec_ok hg (l := (svC T S ++ [(UInt8.ofNat (IntKind.u8.wrap p).toNat), (UInt8.ofNat (IntKind.u8.wrap (F.toNat : Int)).toNat), 9])) (by rw [List.length_append, hCl]; omega) (fun i hi => by rw [List.getElem?_append_left (by omega), svC_at hi])
                      rw [oE_yes hok2, oT_yes hok2, oL_yes hok2, eT2, eS2]
                      refine At.nil ?_
                      refine KAt.go (fun w hw => hw.drop (List.Sublist.cons _ (List.Sublist.cons _ (List.Sublist.cons _ (List.Sublist.cons _ (List.Sublist.cons _ (List.Sublist.cons _ (List.Sublist.cons _ (List.Sublist.cons _ (List.Sublist.cons _ (List.Sublist.cons _ (List.Sublist.cons _ (List.Sublist.cons _ (List.Sublist.cons_cons _ (List.Sublist.refl _))))))))))))))) ?_
                      refine KAt.take 11 (Val.move rfl) rfl rfl rfl rfl (fun w hw => hw.drop (List.Sublist.cons _ (List.Sublist.cons _ (List.Sublist.cons _ (List.Sublist.cons _ (List.Sublist.cons _ (List.Sublist.cons _ (List.Sublist.cons _ (List.Sublist.cons _ (List.Sublist.cons _ (List.Sublist.cons _ (List.Sublist.cons _ (List.Sublist.cons _ (List.Sublist.cons_cons _ (List.Sublist.refl _))))))))))))))) (by decide +kernel) ?_
                      refine KAt.take 12 (Val.extract rfl rfl) rfl rfl rfl rfl (fun w hw => hw.drop (List.Sublist.cons _ (List.Sublist.cons _ (List.Sublist.cons _ (List.Sublist.cons _ (List.Sublist.cons _ (List.Sublist.cons _ (List.Sublist.cons _ (List.Sublist.cons _ (List.Sublist.cons _ (List.Sublist.cons _ (List.Sublist.cons _ (List.Sublist.cons _ (List.Sublist.cons_cons _ (List.Sublist.refl _))))))))))))))) (by decide +kernel) ?_
                      refine KAt.take 13 (Val.extract rfl rfl) rfl rfl rfl rfl (fun w hw => hw.drop (List.Sublist.cons _ (List.Sublist.cons _ (List.Sublist.cons _ (List.Sublist.cons _ (List.Sublist.cons _ (List.Sublist.cons _ (List.Sublist.cons _ (List.Sublist.cons _ (List.Sublist.cons _ (List.Sublist.cons _ (List.Sublist.cons _ (List.Sublist.cons _ (List.Sublist.cons_cons _ (List.Sublist.refl _))))))))))))))) (by decide +kernel) ?_
                      refine KAt.only 15 rfl (by decide +kernel) ?_
                      refine At.rowOne (i := 0) rfl (fun ho52 => ?_)
                      refine At.storeAll (i := 1) Tryd.sizeOf74 rfl rfl rfl (by intro u hu; simp only [List.mem_cons, List.not_mem_nil, or_false] at hu; rcases hu with rfl | rfl <;> first | rfl | assumption) rfl rfl ?_
                      simp only [List.set_cons_zero, List.set_cons_succ]
                      refine At.nil ?_
                      refine KAt.go (fun w hw => hw.drop (List.Sublist.cons _ (List.Sublist.cons _ (List.Sublist.cons _ (List.Sublist.cons _ (List.Sublist.cons _ (List.Sublist.cons _ (List.Sublist.cons _ (List.Sublist.cons _ (List.Sublist.cons _ (List.Sublist.cons _ (List.Sublist.cons _ (List.Sublist.cons _ (List.Sublist.cons_cons _ (List.Sublist.refl _))))))))))))))) ?_
                      refine KAt.take 16 (Val.assign rfl) rfl rfl rfl rfl (fun w hw => hw.drop (List.Sublist.cons _ (List.Sublist.cons _ (List.Sublist.cons _ (List.Sublist.cons _ (List.Sublist.cons _ (List.Sublist.cons _ (List.Sublist.cons _ (List.Sublist.cons _ (List.Sublist.cons _ (List.Sublist.cons _ (List.Sublist.cons _ (List.Sublist.cons _ (List.Sublist.cons_cons _ (List.Sublist.refl _))))))))))))))) (by decide +kernel) ?_
                      refine KAt.done (by decide +kernel) ?_
                      refine At.thenN ?_
                      refine At.drop 3 ?_
                      simp only [List.eraseIdx_cons_zero, List.eraseIdx_cons_succ]
                      refine At.drop 2 ?_
                      simp only [List.eraseIdx_cons_zero, List.eraseIdx_cons_succ]
                      exact At.meets (b49, v51) trivial (Sub.cons rfl (Sub.cons rfl (Sub.cons rfl (Sub.cons rfl (Sub.cons rfl (Sub.cons rfl (Sub.cons rfl (Sub.cons rfl Sub.nil)))))))) ((erase_perm _ 2 _ rfl).trans (List.Perm.cons _ ((erase_perm _ 2 _ rfl).trans (List.Perm.cons _ ((erase_perm _ 2 _ rfl).trans (List.Perm.cons _ ((erase_perm _ 2 _ rfl).trans (List.Perm.cons _ ((erase_perm _ 2 _ rfl).trans (List.Perm.cons _ ((erase_perm _ 2 _ rfl).trans (List.Perm.cons _ ((erase_perm _ 2 _ rfl).trans (List.Perm.cons _ ((erase_perm _ 2 _ rfl).trans (List.Perm.cons _ ((erase_perm _ 2 _ rfl).trans (List.Perm.cons _ ((erase_perm _ 1 _ rfl).trans (List.Perm.cons _ (List.Perm.refl _)))))))))))))))))))))
                  · skip
                    refine At.alloc Tryd.zeroValue74 rfl rfl (fun b53 => ?_)
                    refine At.nil ?_
                    refine KAt.go (fun w hw => hw.drop (List.Sublist.cons _ (List.Sublist.cons _ (List.Sublist.cons _ (List.Sublist.cons _ (List.Sublist.cons _ (List.Sublist.cons _ (List.Sublist.cons _ (List.Sublist.cons _ (List.Sublist.cons _ (List.Sublist.cons _ (List.Sublist.cons_cons _ (List.Sublist.refl _))))))))))))) ?_
                    refine KAt.only 1 rfl (by decide +kernel) ?_
                    refine At.callN (fun w hw => copyBytes_n _ (svC T S) w (row_rd (hw.row (i := 5) rfl) (by decide)) (by omega)) Tryd.call33 rfl rfl (fun v54 => ?_)
                    refine At.nil ?_
                    refine KAt.go (fun w hw => hw.drop (List.Sublist.cons _ (List.Sublist.cons _ (List.Sublist.cons _ (List.Sublist.cons _ (List.Sublist.cons _ (List.Sublist.cons _ (List.Sublist.cons _ (List.Sublist.cons _ (List.Sublist.cons _ (List.Sublist.cons _ (List.Sublist.cons _ (List.Sublist.cons_cons _ (List.Sublist.refl _)))))))))))))) ?_
                    refine KAt.only 9 rfl (by decide +kernel) ?_
                    refine At.appendBlkB (i := 0) (j := 2) (m := [(UInt8.ofNat (IntKind.u8.wrap p).toNat), (UInt8.ofNat (IntKind.u8.wrap (F.toNat : Int)).toNat), 9]) (by_ := 1) Tryd.underlying54 info_5 rfl rfl rfl rfl rfl rfl rfl rfl rfl (by omega) (by omega) rfl (fun v55 => ?_)
                    simp only [List.set_cons_zero, List.set_cons_succ]
                    refine At.nil ?_
                    refine KAt.go (fun w hw => hw.drop (List.Sublist.cons _ (List.Sublist.cons _ (List.Sublist.cons _ (List.Sublist.cons _ (List.Sublist.cons _ (List.Sublist.cons _ (List.Sublist.cons _ (List.Sublist.cons _ (List.Sublist.cons _ (List.Sublist.cons _ (List.Sublist.cons _ (List.Sublist.cons_cons _ (List.Sublist.refl _)))))))))))))) ?_
                    refine KAt.only 10 rfl (by decide +kernel) ?_
                    refine At.callNT (g := (fun v => .tuple #[.agg #[b32 (oT (svC T S ++ [(UInt8.ofNat (IntKind.u8.wrap p).toNat), (UInt8.ofNat (IntKind.u8.wrap (F.toNat : Int)).toNat), 9])), v], .int .i64 (oE (svC T S ++ [(UInt8.ofNat (IntKind.u8.wrap p).toNat), (UInt8.ofNat (IntKind.u8.wrap (F.toNat : Int)).toNat), 9]))])) (fun w hw => openSv_n _ (svC T S ++ [(UInt8.ofNat (IntKind.u8.wrap p).toNat), (UInt8.ofNat (IntKind.u8.wrap (F.toNat : Int)).toNat), 9]) w (ht.mod hw.mod) (row_rd (hw.row (i := 0) rfl) (by decide)) (by first | omega | (simp only [List.length_take, List.length_drop, spoilL_length]; omega) | (rw [List.length_append]; simp; omega))) Tryd.call48 rfl rfl (fun v56 => ?_)
                    obtain ⟨hok2, eT2, eS2, _⟩ := rec_ok hg (l := (svC T S ++ [(UInt8.ofNat (IntKind.u8.wrap p).toNat), (UInt8.ofNat (IntKind.u8.wrap (F.toNat : Int)).toNat), 9])) (by rw [List.length_append, hCl]; omega) (fun i hi => by rw [List.getElem?_append_left (by omega), svC_at hi])
                    rw [oE_yes hok2, oT_yes hok2, oL_yes hok2, eT2, eS2]
                    refine At.nil ?_
                    refine KAt.go (fun w hw => hw.drop (List.Sublist.cons _ (List.Sublist.cons _ (List.Sublist.cons _ (List.Sublist.cons _ (List.Sublist.cons _ (List.Sublist.cons _ (List.Sublist.cons _ (List.Sublist.cons _ (List.Sublist.cons _ (List.Sublist.cons _ (List.Sublist.cons _ (List.Sublist.cons _ (List.Sublist.cons_cons _ (List.Sublist.refl _))))))))))))))) ?_
                    refine KAt.take 11 (Val.move rfl) rfl rfl rfl rfl (fun w hw => hw.drop (List.Sublist.cons _ (List.Sublist.cons _ (List.Sublist.cons _ (List.Sublist.cons _ (List.Sublist.cons _ (List.Sublist.cons _ (List.Sublist.cons _ (List.Sublist.cons _ (List.Sublist.cons _ (List.Sublist.cons _ (List.Sublist.cons _ (List.Sublist.cons _ (List.Sublist.cons_cons _ (List.Sublist.refl _))))))))))))))) (by decide +kernel) ?_
                    refine KAt.take 12 (Val.extract rfl rfl) rfl rfl rfl rfl (fun w hw => hw.drop (List.Sublist.cons _ (List.Sublist.cons _ (List.Sublist.cons _ (List.Sublist.cons _ (List.Sublist.cons _ (List.Sublist.cons _ (List.Sublist.cons _ (List.Sublist.cons _ (List.Sublist.cons _ (List.Sublist.cons _ (List.Sublist.cons _ (List.Sublist.cons _ (List.Sublist.cons_cons _ (List.Sublist.refl _))))))))))))))) (by decide +kernel) ?_
                    refine KAt.take 13 (Val.extract rfl rfl) rfl rfl rfl rfl (fun w hw => hw.drop (List.Sublist.cons _ (List.Sublist.cons _ (List.Sublist.cons _ (List.Sublist.cons _ (List.Sublist.cons _ (List.Sublist.cons _ (List.Sublist.cons _ (List.Sublist.cons _ (List.Sublist.cons _ (List.Sublist.cons _ (List.Sublist.cons _ (List.Sublist.cons _ (List.Sublist.cons_cons _ (List.Sublist.refl _))))))))))))))) (by decide +kernel) ?_
                    refine KAt.only 15 rfl (by decide +kernel) ?_
                    refine At.rowOne (i := 0) rfl (fun ho57 => ?_)
                    refine At.storeAll (i := 2) Tryd.sizeOf74 rfl rfl rfl (by intro u hu; simp only [List.mem_cons, List.not_mem_nil, or_false] at hu; rcases hu with rfl | rfl <;> first | rfl | assumption) rfl rfl ?_
                    simp only [List.set_cons_zero, List.set_cons_succ]
                    refine At.nil ?_
                    refine KAt.go (fun w hw => hw.drop (List.Sublist.cons _ (List.Sublist.cons _ (List.Sublist.cons _ (List.Sublist.cons _ (List.Sublist.cons _ (List.Sublist.cons _ (List.Sublist.cons _ (List.Sublist.cons _ (List.Sublist.cons _ (List.Sublist.cons _ (List.Sublist.cons _ (List.Sublist.cons _ (List.Sublist.cons_cons _ (List.Sublist.refl _))))))))))))))) ?_
                    refine KAt.take 16 (Val.assign rfl) rfl rfl rfl rfl (fun w hw => hw.drop (List.Sublist.cons _ (List.Sublist.cons _ (List.Sublist.cons _ (List.Sublist.cons _ (List.Sublist.cons _ (List.Sublist.cons _ (List.Sublist.cons _ (List.Sublist.cons _ (List.Sublist.cons _ (List.Sublist.cons _ (List.Sublist.cons _ (List.Sublist.cons _ (List.Sublist.cons_cons _ (List.Sublist.refl _))))))))))))))) (by decide +kernel) ?_
                    refine KAt.done (by decide +kernel) ?_
                    refine At.thenN ?_
                    refine At.drop 3 ?_
                    simp only [List.eraseIdx_cons_zero, List.eraseIdx_cons_succ]
                    refine At.drop 1 ?_
                    simp only [List.eraseIdx_cons_zero, List.eraseIdx_cons_succ]
                    exact At.meets (b53, v56) trivial (Sub.cons rfl (Sub.cons rfl (Sub.cons rfl (Sub.cons rfl (Sub.cons rfl (Sub.cons rfl (Sub.cons rfl (Sub.cons rfl Sub.nil)))))))) ((erase_perm _ 2 _ rfl).trans (List.Perm.cons _ ((erase_perm _ 2 _ rfl).trans (List.Perm.cons _ ((erase_perm _ 2 _ rfl).trans (List.Perm.cons _ ((erase_perm _ 2 _ rfl).trans (List.Perm.cons _ ((erase_perm _ 2 _ rfl).trans (List.Perm.cons _ ((erase_perm _ 2 _ rfl).trans (List.Perm.cons _ ((erase_perm _ 2 _ rfl).trans (List.Perm.cons _ ((erase_perm _ 2 _ rfl).trans (List.Perm.cons _ ((erase_perm _ 2 _ rfl).trans (List.Perm.cons _ ((erase_perm _ 1 _ rfl).trans (List.Perm.cons _ (List.Perm.refl _)))))))))))))))))))))
                · skip
                  refine At.alloc Tryd.zeroValue74 rfl rfl (fun b58 => ?_)
                  refine At.nil ?_
                  refine KAt.go (fun w hw => hw.drop (List.Sublist.cons _ (List.Sublist.cons _ (List.Sublist.cons _ (List.Sublist.cons _ (List.Sublist.cons _ (List.Sublist.cons _ (List.Sublist.cons _ (List.Sublist.cons _ (List.Sublist.cons _ (List.Sublist.cons_cons _ (List.Sublist.refl _)))))))))))) ?_
                  refine KAt.two 1 8 rfl rfl (by decide +kernel) ?_ ?_
                  · skip
                    refine At.callN (fun w hw => copyBytes_n _ (svC T S) w (row_rd (hw.row (i := 4) rfl) (by decide)) (by omega)) Tryd.call33 rfl rfl (fun v59 => ?_)
                    refine At.nil ?_
                    refine KAt.go (fun w hw => hw.drop (List.Sublist.cons _ (List.Sublist.cons _ (List.Sublist.cons _ (List.Sublist.cons _ (List.Sublist.cons _ (List.Sublist.cons _ (List.Sublist.cons _ (List.Sublist.cons _ (List.Sublist.cons _ (List.Sublist.cons _ (List.Sublist.cons_cons _ (List.Sublist.refl _))))))))))))) ?_
                    refine KAt.only 8 rfl (by decide +kernel) ?_
                    refine At.buildSl (fun a ha => by simp only [List.map_toArray, List.map_cons, List.map_nil, ha.eval (x := (.tmp 85)) rfl, ha.eval (x := (.tmp 88)) rfl, ha.eval (x := (.const (.int .u8 (9)))) rfl]; try rfl) (bs_54_3 _ _ _ ) rfl (fun b60 => ?_)
                    refine At.nil ?_
                    refine KAt.go (fun w hw => hw.drop (List.Sublist.cons _ (List.Sublist.cons _ (List.Sublist.cons _ (List.Sublist.cons _ (List.Sublist.cons _ (List.Sublist.cons _ (List.Sublist.cons _ (List.Sublist.cons _ (List.Sublist.cons _ (List.Sublist.cons _ (List.Sublist.cons _ (List.Sublist.cons_cons _ (List.Sublist.refl _)))))))))))))) ?_
                    refine KAt.only 9 rfl (by decide +kernel) ?_
                    refine At.appendBlkB (i := 1) (j := 0) (m := [(UInt8.ofNat (IntKind.u8.wrap p).toNat), (UInt8.ofNat (IntKind.u8.wrap (F.toNat : Int)).toNat), 9]) (by_ := 1) Tryd.underlying54 info_5 rfl rfl rfl rfl rfl rfl rfl rfl rfl (by omega) (by omega) rfl (fun v61 => ?_)
                    simp only [List.set_cons_zero, List.set_cons_succ]
                    refine At.nil ?_
                    refine KAt.go (fun w hw => hw.drop (List.Sublist.cons _ (List.Sublist.cons _ (List.Sublist.cons _ (List.Sublist.cons _ (List.Sublist.cons _ (List.Sublist.cons _ (List.Sublist.cons _ (List.Sublist.cons _ (List.Sublist.cons _ (List.Sublist.cons _ (List.Sublist.cons _ (List.Sublist.cons_cons _ (List.Sublist.refl _)))))))))))))) ?_
                    refine KAt.only 10 rfl (by decide +kernel) ?_
                    refine At.callNT (g := (fun v => .tuple #[.agg #[b32 (oT (svC T S ++ [(UInt8.ofNat (IntKind.u8.wrap p).toNat), (UInt8.ofNat (IntKind.u8.wrap (F.toNat : Int)).toNat), 9])), v], .int .i64 (oE (svC T S ++ [(UInt8.ofNat (IntKind.u8.wrap p).toNat), (UInt8.ofNat (IntKind.u8.wrap (F.toNat : Int)).toNat), 9]))])) (fun w hw => openSv_n _ (svC T S ++ [(UInt8.ofNat (IntKind.u8.wrap p).toNat), (UInt8.ofNat (IntKind.u8.wrap (F.toNat : Int)).toNat), 9]) w (ht.mod hw.mod) (row_rd (hw.row (i := 1) rfl) (by decide)) (by first | omega | (simp only [List.length_take, List.length_drop, spoilL_length]; omega) | (rw [List.length_append]; simp; omega))) Tryd.call48 rfl rfl (fun v62 => ?_)
                    obtain ⟨hok2, eT2, eS2, _⟩ := rec_ok hg (l := (svC T S ++ [(UInt8.ofNat (IntKind.u8.wrap p).toNat), (UInt8.ofNat (IntKind.u8.wrap (F.toNat : Int)).toNat), 9])) (by rw [List.length_append, hCl]; omega) (fun i hi => by rw [List.getElem?_append_left (by omega), svC_at hi])
                    rw [oE_yes hok2, oT_yes hok2, oL_yes hok2, eT2, eS2]
                    refine At.nil ?_
                    refine KAt.go (fun w hw => hw.drop (List.Sublist.cons _ (List.Sublist.cons _ (List.Sublist.cons _ (List.Sublist.cons _ (List.Sublist.cons _ (List.Sublist.cons _ (List.Sublist.cons _ (List.Sublist.cons _ (List.Sublist.cons _ (List.Sublist.cons _ (List.Sublist.cons _ (List.Sublist.cons _ (List.Sublist.cons_cons _ (List.Sublist.refl _))))))))))))))) ?_
                    refine KAt.take 11 (Val.move rfl) rfl rfl rfl rfl (fun w hw => hw.drop (List.Sublist.cons _ (List.Sublist.cons _ (List.Sublist.cons _ (List.Sublist.cons _ (List.Sublist.cons _ (List.Sublist.cons _ (List.Sublist.cons _ (List.Sublist.cons _ (List.Sublist.cons _ (List.Sublist.cons _ (List.Sublist.cons _ (List.Sublist.cons _ (List.Sublist.cons_cons _ (List.Sublist.refl _))))))))))))))) (by decide +kernel) ?_
                    refine KAt.take 12 (Val.extract rfl rfl) rfl rfl rfl rfl (fun w hw => hw.drop (List.Sublist.cons _ (List.Sublist.cons _ (List.Sublist.cons _ (List.Sublist.cons _ (List.Sublist.cons _ (List.Sublist.cons _ (List.Sublist.cons _ (List.Sublist.cons _ (List.Sublist.cons _ (List.Sublist.cons _ (List.Sublist.cons _ (List.Sublist.cons _ (List.Sublist.cons_cons _ (List.Sublist.refl _))))))))))))))) (by decide +kernel) ?_
                    refine KAt.take 13 (Val.extract rfl rfl) rfl rfl rfl rfl (fun w hw => hw.drop (List.Sublist.cons _ (List.Sublist.cons _ (List.Sublist.cons _ (List.Sublist.cons _ (List.Sublist.cons _ (List.Sublist.cons _ (List.Sublist.cons _ (List.Sublist.cons _ (List.Sublist.cons _ (List.Sublist.cons _ (List.Sublist.cons _ (List.Sublist.cons _ (List.Sublist.cons_cons _ (List.Sublist.refl _))))))))))))))) (by decide +kernel) ?_
                    refine KAt.only 15 rfl (by decide +kernel) ?_
                    refine At.rowOne (i := 0) rfl (fun ho63 => ?_)
                    refine At.storeAll (i := 3) Tryd.sizeOf74 rfl rfl rfl (by intro u hu; simp only [List.mem_cons, List.not_mem_nil, or_false] at hu; rcases hu with rfl | rfl <;> first | rfl | assumption) rfl rfl ?_
                    simp only [List.set_cons_zero, List.set_cons_succ]
                    refine At.nil ?_
                    refine KAt.go (fun w hw => hw.drop (List.Sublist.cons _ (List.Sublist.cons _ (List.Sublist.cons _ (List.Sublist.cons _ (List.Sublist.cons _ (List.Sublist.cons _ (List.Sublist.cons _ (List.Sublist.cons _ (List.Sublist.cons _ (List.Sublist.cons _ (List.Sublist.cons _ (List.Sublist.cons _ (List.Sublist.cons_cons _ (List.Sublist.refl _))))))))))))))) ?_
                    refine KAt.take 16 (Val.assign rfl) rfl rfl rfl rfl (fun w hw => hw.drop (List.Sublist.cons _ (List.Sublist.cons _ (List.Sublist.cons _ (List.Sublist.cons _ (List.Sublist.cons _ (List.Sublist.cons _ (List.Sublist.cons _ (List.Sublist.cons _ (List.Sublist.cons _ (List.Sublist.cons _ (List.Sublist.cons _ (List.Sublist.cons _ (List.Sublist.cons_cons _ (List.Sublist.refl _))))))))))))))) (by decide +kernel) ?_
                    refine KAt.done (by decide +kernel) ?_
                    refine At.thenN ?_
                    refine At.drop 2 ?_
                    simp only [List.eraseIdx_cons_zero, List.eraseIdx_cons_succ]
                    refine At.drop 1 ?_
                    simp only [List.eraseIdx_cons_zero, List.eraseIdx_cons_succ]
                    exact At.meets (b58, v62) trivial (Sub.cons rfl (Sub.cons rfl (Sub.cons rfl (Sub.cons rfl (Sub.cons rfl (Sub.cons rfl (Sub.cons rfl (Sub.cons rfl Sub.nil)))))))) ((erase_perm _ 2 _ rfl).trans (List.Perm.cons _ ((erase_perm _ 2 _ rfl).trans (List.Perm.cons _ ((erase_perm _ 2 _ rfl).trans (List.Perm.cons _ ((erase_perm _ 2 _ rfl).trans (List.Perm.cons _ ((erase_perm _ 2 _ rfl).trans (List.Perm.cons _ ((erase_perm _ 2 _ rfl).trans (List.Perm.cons _ ((erase_perm _ 2 _ rfl).trans (List.Perm.cons _ ((erase_perm _ 2 _ rfl).trans (List.Perm.cons _ ((erase_perm _ 2 _ rfl).trans (List.Perm.cons _ ((erase_perm _ 1 _ rfl).trans (List.Perm.cons _ (List.Perm.refl _)))))))))))))))))))))
                  · skip
                    refine At.buildSl (fun a ha => by simp only [List.map_toArray, List.map_cons, List.map_nil, ha.eval (x := (.tmp 85)) rfl, ha.eval (x := (.tmp 88)) rfl, ha.eval (x := (.const (.int .u8 (9)))) rfl]; try rfl) (bs_54_3 _ _ _ ) rfl (fun b64 => ?_)
                    refine At.nil ?_
                    refine KAt.go (fun w hw => hw.drop (List.Sublist.cons _ (List.Sublist.cons _ (List.Sublist.cons _ (List.Sublist.cons _ (List.Sublist.cons _ (List.Sublist.cons _ (List.Sublist.cons _ (List.Sublist.cons _ (List.Sublist.cons _ (List.Sublist.cons _ (List.Sublist.cons_cons _ (List.Sublist.refl _))))))))))))) ?_
                    refine KAt.only 1 rfl (by decide +kernel) ?_
                    refine At.callN (fun w hw => copyBytes_n _ (svC T S) w (row_rd (hw.row (i := 5) rfl) (by decide)) (by omega)) Tryd.call33 rfl rfl (fun v65 => ?_)
                    refine At.nil ?_
                    refine KAt.go (fun w hw => hw.drop (List.Sublist.cons _ (List.Sublist.cons _ (List.Sublist.cons _ (List.Sublist.cons _ (List.Sublist.cons _ (List.Sublist.cons _ (List.Sublist.cons _ (List.Sublist.cons _ (List.Sublist.cons _ (List.Sublist.cons _ (List.Sublist.cons _ (List.Sublist.cons_cons _ (List.Sublist.refl _)))))))))))))) ?_
                    refine KAt.only 9 rfl (by decide +kernel) ?_
                    refine At.appendBlkB (i := 0) (j := 1) (m := [(UInt8.ofNat (IntKind.u8.wrap p).toNat), (UInt8.ofNat (IntKind.u8.wrap (F.toNat : Int)).toNat), 9]) (by_ := 1) Tryd.underlying54 info_5 rfl rfl rfl rfl rfl rfl rfl rfl rfl (by omega) (by omega) rfl (fun v66 => ?_)
                    simp only [List.set_cons_zero, List.set_cons_succ]
                    refine At.nil ?_
                    refine KAt.go (fun w hw => hw.drop (List.Sublist.cons _ (List.Sublist.cons _ (List.Sublist.cons _ (List.Sublist.cons _ (List.Sublist.cons _ (List.Sublist.cons _ (List.Sublist.cons _ (List.Sublist.cons _ (List.Sublist.cons _ (List.Sublist.cons _ (List.Sublist.cons _ (List.Sublist.cons_cons _ (List.Sublist.refl _)))))))))))))) ?_
                    refine KAt.only 10 rfl (by decide +kernel) ?_
                    refine At.callNT (g := (fun v => .tuple #[.agg #[b32 (oT (svC T S ++ [(UInt8.ofNat (IntKind.u8.wrap p).toNat), (UInt8.ofNat (IntKind.u8.wrap (F.toNat : Int)).toNat), 9])), v], .int .i64 (oE (svC T S ++ [(UInt8.ofNat (IntKind.u8.wrap p).toNat), (UInt8.ofNat (IntKind.u8.wrap (F.toNat : Int)).toNat), 9]))])) (fun w hw => openSv_n _ (svC T S ++ [(UInt8.ofNat (IntKind.u8.wrap p).toNat), (UInt8.ofNat (IntKind.u8.wrap (F.toNat : Int)).toNat), 9]) w (ht.mod hw.mod) (row_rd (hw.row (i := 0) rfl) (by decide)) (by first | omega | (simp only [List.length_take, List.length_drop, spoilL_length]; omega) | (rw [List.length_append]; simp; omega))) Tryd.call48 rfl rfl (fun v67 => ?_)
                    obtain ⟨hok2, eT2, eS2, _⟩ := rec_ok hg (l := (svC T S ++ [(UInt8.ofNat (IntKind.u8.wrap p).toNat), (UInt8.ofNat (IntKind.u8.wrap (F.toNat : Int)).toNat), 9])) (by rw [List.length_append, hCl]; omega) (fun i hi => by rw [List.getElem?_append_left (by omega), svC_at hi])
                    rw [oE_yes hok2, oT_yes hok2, oL_yes hok2, eT2, eS2]
                    refine At.nil ?_
                    refine KAt.go (fun w hw => hw.drop (List.Sublist.cons _ (List.Sublist.cons _ (List.Sublist.cons _ (List.Sublist.cons _ (List.Sublist.cons _ (List.Sublist.cons _ (List.Sublist.cons _ (List.Sublist.cons _ (List.Sublist.cons _ (List.Sublist.cons _ (List.Sublist.cons _ (List.Sublist.cons _ (List.Sublist.cons_cons _ (List.Sublist.refl _))))))))))))))) ?_
                    refine KAt.take 11 (Val.move rfl) rfl rfl rfl rfl (fun w hw => hw.drop (List.Sublist.cons _ (List.Sublist.cons _ (List.Sublist.cons _ (List.Sublist.cons _ (List.Sublist.cons _ (List.Sublist.cons _ (List.Sublist.cons _ (List.Sublist.cons _ (List.Sublist.cons _ (List.Sublist.cons _ (List.Sublist.cons _ (List.Sublist.cons _ (List.Sublist.cons_cons _ (List.Sublist.refl _))))))))))))))) (by decide +kernel) ?_
                    refine KAt.take 12 (Val.extract rfl rfl) rfl rfl rfl rfl (fun w hw => hw.drop (List.Sublist.cons _ (List.Sublist.cons _ (List.Sublist.cons _ (List.Sublist.cons _ (List.Sublist.cons _ (List.Sublist.cons _ (List.Sublist.cons _ (List.Sublist.cons _ (List.Sublist.cons _ (List.Sublist.cons _ (List.Sublist.cons _ (List.Sublist.cons _ (List.Sublist.cons_cons _ (List.Sublist.refl _))))))))))))))) (by decide +kernel) ?_
                    refine KAt.take 13 (Val.extract rfl rfl) rfl rfl rfl rfl (fun w hw => hw.drop (List.Sublist.cons _ (List.Sublist.cons _ (List.Sublist.cons _ (List.Sublist.cons _ (List.Sublist.cons _ (List.Sublist.cons _ (List.Sublist.cons _ (List.Sublist.cons _ (List.Sublist.cons _ (List.Sublist.cons _ (List.Sublist.cons _ (List.Sublist.cons _ (List.Sublist.cons_cons _ (List.Sublist.refl _))))))))))))))) (by decide +kernel) ?_
                    refine KAt.only 15 rfl (by decide +kernel) ?_
                    refine At.rowOne (i := 0) rfl (fun ho68 => ?_)
                    refine At.storeAll (i := 3) Tryd.sizeOf74 rfl rfl rfl (by intro u hu; simp only [List.mem_cons, List.not_mem_nil, or_false] at hu; rcases hu with rfl | rfl <;> first | rfl | assumption) rfl rfl ?_
                    simp only [List.set_cons_zero, List.set_cons_succ]
                    refine At.nil ?_
                    refine KAt.go (fun w hw => hw.drop (List.Sublist.cons _ (List.Sublist.cons _ (List.Sublist.cons _ (List.Sublist.cons _ (List.Sublist.cons _ (List.Sublist.cons _ (List.Sublist.cons _ (List.Sublist.cons _ (List.Sublist.cons _ (List.Sublist.cons _ (List.Sublist.cons _ (List.Sublist.cons _ (List.Sublist.cons_cons _ (List.Sublist.refl _))))))))))))))) ?_
                    refine KAt.take 16 (Val.assign rfl) rfl rfl rfl rfl (fun w hw => hw.drop (List.Sublist.cons _ (List.Sublist.cons _ (List.Sublist.cons _ (List.Sublist.cons _ (List.Sublist.cons _ (List.Sublist.cons _ (List.Sublist.cons _ (List.Sublist.cons _ (List.Sublist.cons _ (List.Sublist.cons _ (List.Sublist.cons _ (List.Sublist.cons _ (List.Sublist.cons_cons _ (List.Sublist.refl _))))))))))))))) (by decide +kernel) ?_
                    refine KAt.done (by decide +kernel) ?_
                    refine At.thenN ?_
                    refine At.drop 2 ?_
                    simp only [List.eraseIdx_cons_zero, List.eraseIdx_cons_succ]
                    refine At.drop 1 ?_
                    simp only [List.eraseIdx_cons_zero, List.eraseIdx_cons_succ]
                    exact At.meets (b58, v67) trivial (Sub.cons rfl (Sub.cons rfl (Sub.cons rfl (Sub.cons rfl (Sub.cons rfl (Sub.cons rfl (Sub.cons rfl (Sub.cons rfl Sub.nil)))))))) ((erase_perm _ 2 _ rfl).trans (List.Perm.cons _ ((erase_perm _ 2 _ rfl).trans (List.Perm.cons _ ((erase_perm _ 2 _ rfl).trans (List.Perm.cons _ ((erase_perm _ 2 _ rfl).trans (List.Perm.cons _ ((erase_perm _ 2 _ rfl).trans (List.Perm.cons _ ((erase_perm _ 2 _ rfl).trans (List.Perm.cons _ ((erase_perm _ 2 _ rfl).trans (List.Perm.cons _ ((erase_perm _ 2 _ rfl).trans (List.Perm.cons _ ((erase_perm _ 2 _ rfl).trans (List.Perm.cons _ ((erase_perm _ 1 _ rfl).trans (List.Perm.cons _ (List.Perm.refl _)))))))))))))))))))))
              · skip
                intro s hs
                obtain ⟨b14, v14⟩ := s
                dsimp only
                refine At.seq ?_
                refine At.seq ?_
                refine At.region ?_
                refine At.val (Val.move rfl) rfl rfl rfl ?_
                refine At.val (Val.bin rfl rfl rfl) rfl rfl rfl ?_
                refine At.val (Val.move rfl) rfl rfl rfl ?_
                refine At.yes rfl rfl ?_
                refine At.val (Val.loadAll (i := 9) Tryd.isAgg74 Tryd.sizeOf74 rfl rfl rfl) rfl rfl rfl ?_
                refine At.yes rfl rfl ?_
                refine At.val (Val.loadAll (i := 6) Tryd.isAgg74 Tryd.sizeOf74 rfl rfl rfl) rfl rfl rfl ?_
                refine At.yes rfl rfl ?_
                refine At.callP (fun w hw => sameSv_p T _ _ S w (row_rd (hw.row (i := 10) rfl) (by decide)) (row_rd (hw.row (i := 7) rfl) (by decide)) (by omega)) Tryd.call47 rfl rfl ?_
                refine At.yes rfl rfl ?_
                refine At.val (Val.not rfl) rfl rfl rfl ?_
                refine At.val (Val.pickF rfl rfl) rfl rfl rfl ?_
                refine At.nil ?_
                refine At.thenN ?_
                refine At.condF rfl ?_
                refine At.skipC ?_
                refine At.thenN ?_
                refine At.seq ?_
                refine At.seq ?_
                refine At.region ?_
                refine At.val (Val.assign rfl) rfl rfl rfl ?_
                refine At.nil ?_
                refine At.thenN ?_
                refine At.block ?_
                skip
                refine At.drop 5 ?_
                simp only [List.eraseIdx_cons_zero, List.eraseIdx_cons_succ]
                refine At.drop 2 ?_
                simp only [List.eraseIdx_cons_zero, List.eraseIdx_cons_succ]
                refine At.loop (σ := Nat × List (Int × Int)) (fun s => s.1 ≤ S.length ∧ s.2.length = S.length) (fun s => [(5, .pointer (some ⟨b1, 0, none⟩)), (7, .pointer (some ⟨b8, 0, none⟩)), (8, .int .i64 (S.length : Int)), (9, (.slice A15 (((svB T S)).length) c16)), (11, v17), (12, .pointer (some ⟨b20, 0, none⟩)), (14, .pointer (some ⟨b14, 0, none⟩)), (16, .int .i64 (s.1 : Int))]) (fun s => [blk b20 74 [b32 T, v19], srow 88 v19 s.2, rowR v17 5 1 (((svC T S)).length) (((svC T S)).map bv), rowR (.slice A15 (((svB T S)).length) c16) 5 1 (((svB T S)).length) (((svB T S)).map bv), blk b8 74 [b32 T, (.slice A6 ((S).length) c7)], rowR (.slice A6 ((S).length) c7) 88 2 ((S).length) (prS (S)), blk b1 50 [.int .i64 p, b32 F], blk b14 74 [b32 T, v14], rowR v14 88 2 ((S).length) (prS (S))]) (fun s => S.length - s.1) (0, S) ⟨Nat.zero_le _, rfl⟩ (Sub.cons rfl (Sub.cons rfl (Sub.cons rfl (Sub.cons rfl (Sub.cons rfl (Sub.cons rfl (Sub.cons rfl (Sub.cons rfl Sub.nil)))))))) (List.Perm.refl _) ?_
                intro s hs
                obtain ⟨k, M⟩ := s
                dsimp only at hs ⊢
                refine At.seq ?_
                refine At.seq ?_
                refine At.region ?_
                refine At.val (Val.move rfl) rfl rfl rfl ?_
                refine At.val (Val.field 1 rfl fo_74_1 rfl) rfl rfl rfl ?_
                refine At.val (Val.load (i := 0) Tryd.isAgg72 rfl rfl rfl) rfl rfl rfl ?_
                refine At.val (Val.lenRow (i := 1) Tryd.underlying72 rfl rfl) rfl rfl rfl ?_
                refine At.val (Val.bin rfl rfl rfl) rfl rfl rfl ?_
                refine At.nil ?_
                refine At.thenN ?_
                refine At.cond rfl (fun h69 => ?_) (fun h69 => ?_)
                · skip
                  try simp only [vN_T, vN_F, nmE_T, nmE_F, wI_T, wI_F, data_T, data_F, ino_T, ino_F, notT, notF, bneT, bneF, beqT, beqF, decT, decF] at h69
                  have hk : k < S.length := by omega
                  refine At.skipC ?_
                  refine At.thenN ?_
                  refine At.seq ?_
                  refine At.block ?_
                  refine At.region ?_
                  refine At.val (Val.field 1 rfl fo_74_1 rfl) rfl rfl rfl ?_
                  refine At.val (Val.load (i := 0) Tryd.isAgg72 rfl rfl rfl) rfl rfl rfl ?_
                  refine At.val (Val.move rfl) rfl rfl rfl ?_
                  refine At.val (Val.field 0 rfl fo_50_0 rfl) rfl rfl rfl ?_
                  refine At.val (Val.load (i := 6) Tryd.isAgg3 rfl rfl rfl) rfl rfl rfl ?_
                  refine At.val (Val.build (fun a ha => by simp only [List.map_toArray, List.map_cons, List.map_nil, ha.eval (x := (.tmp 113)) rfl, ha.eval (x := (.const (.int .i64 (3)))) rfl] <;> rfl) (bld_88_0_1 _ _ )) rfl rfl rfl ?_
                  refine At.val (Val.indexRow (i := 1) (k * 2) (by omega) Tryd.underlying72 Tryd.sizeOf88 rfl rfl rfl (by omega) (by omega)) rfl rfl rfl ?_
                  refine At.storeSpanRow (i := 1) (k := k) (a := p) (b := 3) Tryd.sizeOf88 rfl rfl rfl (by omega) ?_
                  simp only [List.set_cons_zero, List.set_cons_succ]
                  refine At.nil ?_
                  refine At.blkN ?_
                  refine At.thenN ?_
                  refine At.region ?_
                  refine At.val (Val.move rfl) rfl rfl rfl ?_
                  first | refine At.val (Val.addI rfl rfl (by omega) (by omega)) rfl rfl rfl ?_ | refine At.val (Val.bin rfl rfl rfl) rfl rfl rfl ?_
                  refine At.val (Val.assign rfl) rfl rfl rfl ?_
                  refine At.nil ?_
                  refine At.thenN ?_
                  exact At.again (k + 1, M.set k (p, 3)) ⟨(show k + 1 ≤ _ by omega), by rw [List.length_set]; exact hs.2⟩ (by dsimp only; omega) (Sub.cons rfl (Sub.cons rfl (Sub.cons rfl (Sub.cons rfl (Sub.cons rfl (Sub.cons rfl (Sub.cons rfl (Sub.cons (congrArg (fun z => some (Value.int IntKind.i64 z)) (by omega)) Sub.nil)))))))) (List.Perm.refl _)
                · skip
                  try simp only [vN_T, vN_F, nmE_T, nmE_F, wI_T, wI_F, data_T, data_F, ino_T, ino_F, notT, notF, bneT, bneF, beqT, beqF, decT, decF] at h69
                  refine At.exitC ?_
                  refine At.thenX ?_
                  refine At.thenX ?_
                  refine At.blkX ?_
                  refine At.thenN ?_
                  refine At.seq ?_
                  refine At.region ?_
                  refine At.val (Val.move rfl) rfl rfl rfl ?_
                  refine At.callU 3 rfl (fun w hw hr => marks_u _ (svB T S) 77 w hr (by omega)) Tryd.call52 rfl rfl ?_
                  simp only [List.eraseIdx_cons_zero, List.eraseIdx_cons_succ]
                  refine At.nil ?_
                  refine At.thenN ?_
                  refine At.seq ?_
                  refine At.region ?_
                  refine At.val (Val.loadAll (i := 3) Tryd.isAgg74 Tryd.sizeOf74 rfl rfl rfl) rfl rfl rfl ?_
                  refine At.callNT (g := (fun v => .agg #[b32 T, v])) (fun w hw => copySv_n T _ S w (row_rd (hw.row (i := 4) rfl) (by decide)) (by omega)) Tryd.call44 rfl rfl (fun v70 => ?_)
                  refine At.callNT (g := (fun v => .tuple #[v, .int .i64 (svE T S)])) (fun w hw => packSv_n T _ S w (row_rd (hw.row (i := 0) rfl) (by decide)) (by omega) (ht.mod hw.mod)) Tryd.call45 rfl rfl (fun v71 => ?_)
                  skip
                  · skip
                    rw [svE_T hg, svP_T hg]
                    refine At.val (Val.move rfl) rfl rfl rfl ?_
                    refine At.val (Val.extract rfl rfl) rfl rfl rfl ?_
                    refine At.val (Val.extract rfl rfl) rfl rfl rfl ?_
                    refine At.val (Val.assign rfl) rfl rfl rfl ?_
                    refine At.val (Val.assign rfl) rfl rfl rfl ?_
                    refine At.nil ?_
                    refine At.thenN ?_
                    refine At.seq ?_
                    refine At.seq ?_
                    refine At.region ?_
                    refine At.val (Val.move rfl) rfl rfl rfl ?_
                    refine At.val (Val.bin rfl rfl rfl) rfl rfl rfl ?_
                    refine At.val (Val.move rfl) rfl rfl rfl ?_
                    refine At.yes rfl rfl ?_
                    refine At.val (Val.field 1 rfl fo_74_1 rfl) rfl rfl rfl ?_
                    refine At.yes rfl rfl ?_
                    refine At.val (Val.load (i := 8) Tryd.isAgg72 rfl rfl rfl) rfl rfl rfl ?_
                    refine At.yes rfl rfl ?_
                    refine At.val (Val.lenRow (i := 9) Tryd.underlying72 rfl rfl) rfl rfl rfl ?_
                    refine At.yes rfl rfl ?_
                    refine At.val (Val.move rfl) rfl rfl rfl ?_
                    refine At.yes rfl rfl ?_
                    refine At.val (Val.bin rfl rfl rfl) rfl rfl rfl ?_
                    refine At.val (Val.pickF rfl rfl) rfl rfl rfl ?_
                    refine At.val (Val.move rfl) rfl rfl rfl ?_
                    refine At.split (t := 133) rfl (fun h72 => ?_) (fun h72 => ?_)
                    · skip
                      try simp only [vN_T, vN_F, nmE_T, nmE_F, wI_T, wI_F, data_T, data_F, ino_T, ino_F, notT, notF, bneT, bneF, beqT, beqF, decT, decF] at h72
                      exact absurd rfl h72
                    · skip
                      try simp only [vN_T, vN_F, nmE_T, nmE_F, wI_T, wI_F, data_T, data_F, ino_T, ino_F, notT, notF, bneT, bneF, beqT, beqF, decT, decF] at h72
                      refine At.yes rfl rfl ?_
                      refine At.val (Val.loadAll (i := 8) Tryd.isAgg74 Tryd.sizeOf74 rfl rfl rfl) rfl rfl rfl ?_
                      refine At.yes rfl rfl ?_
                      refine At.val (Val.loadAll (i := 5) Tryd.isAgg74 Tryd.sizeOf74 rfl rfl rfl) rfl rfl rfl ?_
                      refine At.yes rfl rfl ?_
                      refine At.callP (fun w hw => sameSv_p T _ _ S w (row_rd (hw.row (i := 9) rfl) (by decide)) (row_rd (hw.row (i := 6) rfl) (by decide)) (by omega)) Tryd.call47 rfl rfl ?_
                      refine At.yes rfl rfl ?_
                      refine At.val (Val.not rfl) rfl rfl rfl ?_
                      refine At.val (Val.pickF rfl rfl) rfl rfl rfl ?_
                      refine At.val (Val.move rfl) rfl rfl rfl ?_
                      refine At.yes rfl rfl ?_
                      refine At.val (Val.move rfl) rfl rfl rfl ?_
                      refine At.yes rfl rfl ?_
                      refine At.val (Val.lenRow (i := 0) Tryd.underlying54 rfl rfl) rfl rfl rfl ?_
                      refine At.yes rfl rfl ?_
                      refine At.val (Val.move rfl) rfl rfl rfl ?_
                      refine At.yes rfl rfl ?_
                      refine At.val (Val.lenRow (i := 4) Tryd.underlying54 rfl rfl) rfl rfl rfl ?_
                      refine At.yes rfl rfl ?_
                      refine At.val (Val.bin rfl rfl rfl) rfl rfl rfl ?_
                      refine At.val (Val.pickF rfl rfl) rfl rfl rfl ?_
                      refine At.val (Val.move rfl) rfl rfl rfl ?_
                      refine At.split (t := 146) rfl (fun h73 => ?_) (fun h73 => ?_)
                      · skip
                        try simp only [vN_T, vN_F, nmE_T, nmE_F, wI_T, wI_F, data_T, data_F, ino_T, ino_F, notT, notF, bneT, bneF, beqT, beqF, decT, decF] at h73
                        exfalso; omega
                      · skip
                        try simp only [vN_T, vN_F, nmE_T, nmE_F, wI_T, wI_F, data_T, data_F, ino_T, ino_F, notT, notF, bneT, bneF, beqT, beqF, decT, decF] at h73
                        refine At.yes rfl rfl ?_
                        refine At.val (Val.move rfl) rfl rfl rfl ?_
                        refine At.yes rfl rfl ?_
                        refine At.val (Val.move rfl) rfl rfl rfl ?_
                        refine At.yes rfl rfl ?_
                        refine At.val (Val.lenRow (i := 4) Tryd.underlying54 rfl rfl) rfl rfl rfl ?_
                        refine At.yes rfl rfl ?_
                        refine At.rowIs (i := 0) rfl (fun A74 c75 hv => ?_)
                        subst hv
                        refine At.val (Val.cutRow (i := 0) (l := 0) (h := 24 + 4 * S.length) rfl (by decide) Tryd.underlying54 Tryd.sizeOf5 rfl rfl ⟨_, _, rfl, by omega, by omega⟩ (by omega) (by omega)) rfl rfl rfl ?_
                        refine At.yes rfl rfl ?_
                        refine At.val (Val.move rfl) rfl rfl rfl ?_
                        refine At.yes rfl rfl ?_
                        refine At.callP (fun w hw => sameV_eq _ _ (svC T S) (svC T S) w (RdB.cut (l := 0) (h := 24 + 4 * S.length) (row_rd (hw.row (i := 0) rfl) (by decide)) (by omega) (by omega)) (row_rd (hw.row (i := 4) rfl) (by decide)) (by omega) rfl) Tryd.call36 rfl rfl ?_
                        refine At.yes rfl rfl ?_
                        refine At.val (Val.not rfl) rfl rfl rfl ?_
                        refine At.val (Val.pickF rfl rfl) rfl rfl rfl ?_
                        refine At.nil ?_
                        refine At.thenN ?_
                        refine At.condF rfl ?_
                        refine At.skipC ?_
                        refine At.thenN ?_
                        refine At.seq ?_
                        refine At.region ?_
                        refine At.val (Val.move rfl) rfl rfl rfl ?_
                        refine At.val (Val.field 0 rfl fo_50_0 rfl) rfl rfl rfl ?_
                        refine At.val (Val.load (i := 7) Tryd.isAgg3 rfl rfl rfl) rfl rfl rfl ?_
                        refine At.val (Val.move rfl) rfl rfl rfl ?_
                        refine At.val (Val.lenRow (i := 4) Tryd.underlying54 rfl rfl) rfl rfl rfl ?_
                        refine At.callP (fun w hw => mod_p _ _ w (by omega) (by omega)) Tryd.call32 rfl rfl ?_
                        skip
                        · skip
                          obtain ⟨m, hm, hm'⟩ : ∃ m : Nat, p % ((svC T S).length : Int) = (m : Int) ∧ m < 24 + 4 * S.length := ⟨(p % ((svC T S).length : Int)).toNat, by have := Int.emod_nonneg p (show ((svC T S).length : Int) ≠ 0 by omega); omega, by have := Int.emod_lt_of_pos p (show 0 < ((svC T S).length : Int) by omega); have := Int.emod_nonneg p (show ((svC T S).length : Int) ≠ 0 by omega); omega⟩
                          rw [hm]
                          refine At.rowIs (i := 4) rfl (fun A76 c77 hv => ?_)
                          subst hv
                          refine At.val (Val.cutRow (i := 4) (l := 0) (h := m) rfl (by decide) Tryd.underlying54 Tryd.sizeOf5 rfl rfl ⟨_, _, rfl, by omega, by omega⟩ (by omega) (by omega)) rfl rfl rfl ?_
                          refine At.callNT (g := (fun v => .tuple #[.agg #[b32 (oT (((svC T S).drop 0).take (m - 0))), v], .int .i64 (oE (((svC T S).drop 0).take (m - 0)))])) (fun w hw => openSv_n _ (((svC T S).drop 0).take (m - 0)) w (ht.mod hw.mod) (RdB.cut (l := 0) (h := m) (row_rd (hw.row (i := 4) rfl) (by decide)) (by omega) (by omega)) (by first | omega | (simp only [List.length_take, List.length_drop, spoilL_length]; omega) | (rw [List.length_append]; simp; omega))) Tryd.call48 rfl rfl (fun v78 => ?_)
                          skip
                          · skip
                            have hno3 := cut_no hg hm'
                            rw [oE_no hno3, oT_no hno3, oL_no hno3]
                            refine At.val (Val.move rfl) rfl rfl rfl ?_
                            refine At.val (Val.extract rfl rfl) rfl rfl rfl ?_
                            refine At.val (Val.extract rfl rfl) rfl rfl rfl ?_
                            refine At.alloc Tryd.zeroValue74 rfl rfl (fun b79 => ?_)
                            refine At.rowOne (i := 1) rfl (fun ho80 => ?_)
                            refine At.storeAll (i := 0) Tryd.sizeOf74 rfl rfl rfl (by intro u hu; simp only [List.mem_cons, List.not_mem_nil, or_false] at hu; rcases hu with rfl | rfl <;> first | rfl | assumption) rfl rfl ?_
                            simp only [List.set_cons_zero, List.set_cons_succ]
                            refine At.val (Val.assign rfl) rfl rfl rfl ?_
                            refine At.nil ?_
                            refine At.thenN ?_
                            refine At.seq ?_
                            refine At.seq ?_
                            refine At.region ?_
                            refine At.val (Val.move rfl) rfl rfl rfl ?_
                            refine At.val (Val.bin rfl rfl rfl) rfl rfl rfl ?_
                            refine At.val (Val.move rfl) rfl rfl rfl ?_
                            refine At.yes rfl rfl ?_
                            refine At.val (Val.field 1 rfl fo_74_1 rfl) rfl rfl rfl ?_
                            refine At.yes rfl rfl ?_
                            refine At.val (Val.load (i := 0) Tryd.isAgg72 rfl rfl rfl) rfl rfl rfl ?_
                            refine At.yes rfl rfl ?_
                            refine At.val (Val.lenRow (i := 1) Tryd.underlying72 rfl rfl) rfl rfl rfl ?_
                            refine At.yes rfl rfl ?_
                            refine At.val (Val.bin rfl rfl rfl) rfl rfl rfl ?_
                            refine At.val (Val.pickF rfl rfl) rfl rfl rfl ?_
                            refine At.val (Val.move rfl) rfl rfl rfl ?_
                            refine At.split (t := 174) rfl (fun h81 => ?_) (fun h81 => ?_)
                            · skip
                              try simp only [vN_T, vN_F, nmE_T, nmE_F, wI_T, wI_F, data_T, data_F, ino_T, ino_F, notT, notF, bneT, bneF, beqT, beqF, decT, decF] at h81
                              exact absurd rfl h81
                            · skip
                              try simp only [vN_T, vN_F, nmE_T, nmE_F, wI_T, wI_F, data_T, data_F, ino_T, ino_F, notT, notF, bneT, bneF, beqT, beqF, decT, decF] at h81
                              refine At.yes rfl rfl ?_
                              refine At.val (Val.field 0 rfl fo_74_0 rfl) rfl rfl rfl ?_
                              refine At.yes rfl rfl ?_
                              refine At.val (Val.load (i := 0) Tryd.isAgg48 rfl rfl rfl) rfl rfl rfl ?_
                              refine At.yes rfl rfl ?_
                              refine At.val (Val.bin rfl rfl rfl) rfl rfl rfl ?_
                              refine At.val (Val.pickF rfl rfl) rfl rfl rfl ?_
                              refine At.nil ?_
                              refine At.thenN ?_
                              refine At.cond rfl (fun h82 => ?_) (fun h82 => ?_)
                              · skip
                                try simp only [vN_T, vN_F, nmE_T, nmE_F, wI_T, wI_F, data_T, data_F, ino_T, ino_F, notT, notF, bneT, bneF, beqT, beqF, decT, decF] at h82
                                exact absurd rfl h82
                              · skip
                                try simp only [vN_T, vN_F, nmE_T, nmE_F, wI_T, wI_F, data_T, data_F, ino_T, ino_F, notT, notF, bneT, bneF, beqT, beqF, decT, decF] at h82
                                refine At.skipC ?_
                                refine At.thenN ?_
                                refine At.seq ?_
                                refine At.seq ?_
                                refine At.region ?_
                                refine At.val (Val.field 1 rfl fo_50_1 rfl) rfl rfl rfl ?_
                                refine At.val (Val.load (i := 9) Tryd.isAgg48 rfl rfl rfl) rfl rfl rfl ?_
                                refine At.val (Val.bin rfl rfl rfl) rfl rfl rfl ?_
                                refine At.nil ?_
                                refine At.thenN ?_
                                refine At.cond rfl (fun h83 => ?_) (fun h83 => ?_)
                                · skip
                                  try simp only [vN_T, vN_F, nmE_T, nmE_F, wI_T, wI_F, data_T, data_F, ino_T, ino_F, notT, notF, bneT, bneF, beqT, beqF, decT, decF] at h83
                                  refine At.seq ?_
                                  refine At.region ?_
                                  refine At.val (Val.assign rfl) rfl rfl rfl ?_
                                  refine At.nil ?_
                                  refine At.thenN ?_
                                  refine At.retC ?_
                                  refine At.thenR ?_
                                  refine At.ret1 (.inl rfl) rfl rfl rfl (fun w hw => ?_)
                                  exact ⟨rfl, hw.mod⟩
                                · skip
                                  try simp only [vN_T, vN_F, nmE_T, nmE_F, wI_T, wI_F, data_T, data_F, ino_T, ino_F, notT, notF, bneT, bneF, beqT, beqF, decT, decF] at h83
                                  have hF : F.toNat ≠ 0 := by omega
                                  refine At.skipC ?_
                                  refine At.thenN ?_
                                  refine At.seq ?_
                                  refine At.region ?_
                                  refine At.val (Val.move rfl) rfl rfl rfl ?_
                                  refine At.val (Val.loadAll (i := 9) Tryd.isAgg50 Tryd.sizeOf50 rfl rfl rfl) rfl rfl rfl ?_
                                  refine At.callN (fun w hw => spoilt_n _ (svC T S) p F 0 128 w (row_rd (hw.row (i := 6) rfl) (by decide)) (by omega) (by omega) (by omega) (by omega)) Tryd.call39 rfl rfl (fun v84 => ?_)
                                  refine At.val (Val.assign rfl) rfl rfl rfl ?_
                                  refine At.nil ?_
                                  refine At.thenN ?_
                                  refine At.seq ?_
                                  refine At.region ?_
                                  refine At.val (Val.move rfl) rfl rfl rfl ?_
                                  refine At.callNT (g := (fun v => .tuple #[.agg #[b32 (oT (spoilL (svC T S) (0 + p % (128 - 32 - 0 + 1)).toNat F.toNat)), v], .int .i64 (oE (spoilL (svC T S) (0 + p % (128 - 32 - 0 + 1)).toNat F.toNat))])) (fun w hw => openSv_n _ (spoilL (svC T S) (0 + p % (128 - 32 - 0 + 1)).toNat F.toNat) w (ht.mod hw.mod) (row_rd (hw.row (i := 0) rfl) (by decide)) (by first | omega | (simp only [List.length_take, List.length_drop, spoilL_length]; omega) | (rw [List.length_append]; simp; omega))) Tryd.call48 rfl rfl (fun v85 => ?_)
                                  skip
                                  · skip
                                    have hno4 := spoil_no1 (a := (0 + p % (128 - 32 - 0 + 1)).toNat) hg hF F.isLt (by omega)
                                    rw [oE_no hno4, oT_no hno4, oL_no hno4]
                                    refine At.val (Val.move rfl) rfl rfl rfl ?_
                                    refine At.val (Val.extract rfl rfl) rfl rfl rfl ?_
                                    refine At.val (Val.extract rfl rfl) rfl rfl rfl ?_
                                    refine At.alloc Tryd.zeroValue74 rfl rfl (fun b86 => ?_)
                                    refine At.rowOne (i := 1) rfl (fun ho87 => ?_)
                                    refine At.storeAll (i := 0) Tryd.sizeOf74 rfl rfl rfl (by intro u hu; simp only [List.mem_cons, List.not_mem_nil, or_false] at hu; rcases hu with rfl | rfl <;> first | rfl | assumption) rfl rfl ?_
                                    simp only [List.set_cons_zero, List.set_cons_succ]
                                    refine At.val (Val.assign rfl) rfl rfl rfl ?_
                                    refine At.nil ?_
                                    refine At.thenN ?_
                                    refine At.seq ?_
                                    refine At.seq ?_
                                    refine At.region ?_
                                    refine At.val (Val.move rfl) rfl rfl rfl ?_
                                    refine At.val (Val.bin rfl rfl rfl) rfl rfl rfl ?_
                                    refine At.nil ?_
                                    refine At.thenN ?_
                                    refine At.condF rfl ?_
                                    refine At.skipC ?_
                                    refine At.thenN ?_
                                    refine At.seq ?_
                                    refine At.seq ?_
                                    refine At.region ?_
                                    refine At.val (Val.move rfl) rfl rfl rfl ?_
                                    refine At.val (Val.bin rfl rfl rfl) rfl rfl rfl ?_
                                    refine At.nil ?_
                                    refine At.thenN ?_
                                    refine At.cond rfl (fun h88 => ?_) (fun h88 => ?_)
                                    · skip
                                      try simp only [vN_T, vN_F, nmE_T, nmE_F, wI_T, wI_F, data_T, data_F, ino_T, ino_F, notT, notF, bneT, bneF, beqT, beqF, decT, decF] at h88
                                      have hS1 : 1 ≤ S.length := by omega
                                      have hm0 := Int.emod_nonneg p (show 192 + 32 * (S.length : Int) - 32 - 192 + 1 ≠ 0 by omega)
                                      have hm1 := Int.emod_lt_of_pos p (show 0 < 192 + 32 * (S.length : Int) - 32 - 192 + 1 by omega)
                                      refine At.seq ?_
                                      refine At.region ?_
                                      refine At.val (Val.move rfl) rfl rfl rfl ?_
                                      refine At.val (Val.loadAll (i := 12) Tryd.isAgg50 Tryd.sizeOf50 rfl rfl rfl) rfl rfl rfl ?_
                                      refine At.val (Val.move rfl) rfl rfl rfl ?_
                                      first | refine At.val (Val.mulI rfl rfl (by omega) (by omega)) rfl rfl rfl ?_ | refine At.val (Val.bin rfl rfl rfl) rfl rfl rfl ?_
                                      first | refine At.val (Val.addI rfl rfl (by omega) (by omega)) rfl rfl rfl ?_ | refine At.val (Val.bin rfl rfl rfl) rfl rfl rfl ?_
                                      refine At.callN (fun w hw => spoilt_n _ (svC T S) p F 192 (192 + 32 * (S.length : Int)) w (row_rd (hw.row (i := 9) rfl) (by decide)) (by omega) (by omega) (by omega) (by omega)) Tryd.call39 rfl rfl (fun v89 => ?_)
                                      refine At.val (Val.assign rfl) rfl rfl rfl ?_
                                      refine At.nil ?_
                                      refine At.thenN ?_
                                      refine At.region ?_
                                      refine At.val (Val.move rfl) rfl rfl rfl ?_
                                      refine At.callNT (g := (fun v => .tuple #[.agg #[b32 (oT (spoilL (svC T S) (192 + p % (192 + 32 * (S.length : Int) - 32 - 192 + 1)).toNat F.toNat)), v], .int .i64 (oE (spoilL (svC T S) (192 + p % (192 + 32 * (S.length : Int) - 32 - 192 + 1)).toNat F.toNat))])) (fun w hw => openSv_n _ (spoilL (svC T S) (192 + p % (192 + 32 * (S.length : Int) - 32 - 192 + 1)).toNat F.toNat) w (ht.mod hw.mod) (row_rd (hw.row (i := 0) rfl) (by decide)) (by first | omega | (simp only [List.length_take, List.length_drop, spoilL_length]; omega) | (rw [List.length_append]; simp; omega))) Tryd.call48 rfl rfl (fun v90 => ?_)
                                      skip
                                      · skip
                                        have hno5 := spoil_no2 (a := (192 + p % (192 + 32 * (S.length : Int) - 32 - 192 + 1)).toNat) hg hF F.isLt (by omega) (by omega)
                                        rw [oE_no hno5, oT_no hno5, oL_no hno5]
                                        refine At.val (Val.move rfl) rfl rfl rfl ?_
                                        refine At.val (Val.extract rfl rfl) rfl rfl rfl ?_
                                        refine At.val (Val.extract rfl rfl) rfl rfl rfl ?_
                                        refine At.val (Val.assign rfl) rfl rfl rfl ?_
                                        refine At.nil ?_
                                        refine At.thenN ?_
                                        refine At.seq ?_
                                        refine At.region ?_
                                        refine At.val (Val.move rfl) rfl rfl rfl ?_
                                        refine At.val (Val.bin rfl rfl rfl) rfl rfl rfl ?_
                                        refine At.val (Val.assign rfl) rfl rfl rfl ?_
                                        refine At.nil ?_
                                        refine At.thenN ?_
                                        refine At.retC ?_
                                        refine At.ret1 (.inl rfl) rfl rfl rfl (fun w hw => ?_)
                                        exact ⟨rfl, hw.mod⟩
                                    · skip
                                      try simp only [vN_T, vN_F, nmE_T, nmE_F, wI_T, wI_F, data_T, data_F, ino_T, ino_F, notT, notF, bneT, bneF, beqT, beqF, decT, decF] at h88
                                      refine At.skipC ?_
                                      refine At.thenN ?_
                                      refine At.seq ?_
                                      refine At.region ?_
                                      refine At.val (Val.move rfl) rfl rfl rfl ?_
                                      refine At.val (Val.bin rfl rfl rfl) rfl rfl rfl ?_
                                      refine At.val (Val.assign rfl) rfl rfl rfl ?_
                                      refine At.nil ?_
                                      refine At.thenN ?_
                                      refine At.retC ?_
                                      refine At.ret1 (.inl rfl) rfl rfl rfl (fun w hw => ?_)
                                      exact ⟨rfl, hw.mod⟩

end Go.Proofs.YtoiebgnmknbkjaaDoor
