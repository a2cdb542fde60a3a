/- Equal lists of changes. -/
import Derived.Test.YtlplkbbnpddihaaDoorB16
set_option linter.unusedVariables false
set_option linter.unusedSimpArgs false
namespace Go.Proofs.YtlplkbbnpddihaaDoor
open Go Go.Wk

theorem chC_at : ∀ {L : List (Int × BitVec 64)} {j : Nat} {c : Int × BitVec 64}, L[j]? = some c → (chC L)[2 * j]? = some (.int .i64 c.1) ∧ (chC L)[2 * j + 1]? = some (b64 c.2)
  | d :: L, 0, c, h => by
    have : d = c := by simpa using h
    subst this; exact ⟨rfl, rfl⟩
  | d :: L, j + 1, c, h => by
    have h' : L[j]? = some c := by simpa using h
    have := chC_at h'
    rw [show 2 * (j + 1) = 2 * j + 1 + 1 by omega]
    exact this

theorem sameCh_p (A A' : Option Addr) (L : List (Int × BitVec 64)) (c c' : Nat) (w : World) (hA : Cells w A (chC L)) (hB : Cells w A' (chC L)) (hl : L.length ≤ 140737488355328) :
    PureC Tryd.prog 41 [.slice A L.length c, .slice A' L.length c'] (.bool true) w := by
  refine enter0 Tryd.func41 rfl Tryd.ntmps41 rfl ?_
  simp only [envOf]
  refine At.seq ?_
  refine At.region ?_
  refine At.val (Val.assign rfl) rfl rfl rfl ?_
  refine At.nil ?_
  refine At.thenN ?_
  refine At.seq ?_
  refine At.seq ?_
  refine At.region ?_
  refine At.val (Val.move rfl) rfl rfl rfl ?_
  refine At.val (Val.len (bt := #[]) Tryd.underlying62 rfl) rfl rfl rfl ?_
  refine At.val (Val.move rfl) rfl rfl rfl ?_
  refine At.val (Val.len (bt := #[]) Tryd.underlying62 rfl) rfl rfl rfl ?_
  refine At.val (Val.bin rfl rfl rfl) rfl rfl rfl ?_
  refine At.nil ?_
  refine At.thenN ?_
  refine At.cond rfl (fun h1 => ?_) (fun h1 => ?_)
  · skip
    exact absurd h1 (by simp)
  · skip
    refine At.skipC ?_
    refine At.thenN ?_
    refine At.seq ?_
    refine At.seq ?_
    refine At.region ?_
    refine At.val (Val.assign rfl) rfl rfl rfl ?_
    refine At.nil ?_
    refine At.thenN ?_
    refine At.block ?_
    skip
    refine At.loop (σ := Nat) (fun j => j ≤ L.length) (fun j => [(0, .slice A L.length c), (1, .slice A' L.length c'), (5, .int .i64 (j : Int))]) (fun j => []) (fun j => L.length - j) 0 (Nat.zero_le _) (Sub.cons rfl (Sub.cons rfl (Sub.cons rfl Sub.nil))) (List.Perm.refl _) ?_
    intro j hs
    refine At.seq ?_
    refine At.seq ?_
    refine At.region ?_
    refine At.val (Val.move rfl) rfl rfl rfl ?_
    refine At.val (Val.move rfl) rfl rfl rfl ?_
    refine At.val (Val.len (bt := #[]) Tryd.underlying62 rfl) rfl rfl rfl ?_
    refine At.val (Val.bin rfl rfl rfl) rfl rfl rfl ?_
    refine At.nil ?_
    refine At.thenN ?_
    refine At.cond rfl (fun h2 => ?_) (fun h2 => ?_)
    · skip
      have hj : j < L.length := by have := h2; simp at this; omega
      obtain ⟨u, hu⟩ : ∃ u, L[j]? = some u := ⟨_, List.getElem?_eq_getElem hj⟩
      obtain ⟨p0, o0, rfl, a0⟩ := hA _ _ (chC_at hu).1
      obtain ⟨p1, o1, e1, a1⟩ := hA _ _ (chC_at hu).2
      simp only [Option.some.injEq, Addr.mk.injEq] at e1
      obtain ⟨rfl, rfl, _⟩ := e1
      obtain ⟨p2, o2, rfl, b0⟩ := hB _ _ (chC_at hu).1
      obtain ⟨p3, o3, e3, b1⟩ := hB _ _ (chC_at hu).2
      simp only [Option.some.injEq, Addr.mk.injEq] at e3
      obtain ⟨rfl, rfl, _⟩ := e3
      refine At.skipC ?_
      refine At.thenN ?_
      refine At.seq ?_
      refine At.block ?_
      refine At.seq ?_
      refine At.quiet rfl (by decide +kernel) ?_
      refine QAt.val (Val.move rfl) rfl rfl rfl ?_
      refine QAt.val (Val.move rfl) rfl rfl rfl ?_
      refine QAt.val (Val.indexSl (o0 + 2 * j) (by omega) Tryd.underlying62 Tryd.sizeOf122 rfl rfl (by omega) (by omega)) rfl rfl rfl ?_
      refine QAt.val (Val.loadOldPart (vs := [.int .i64 u.1, b64 u.2]) Tryd.isAgg122 Tryd.sizeOf122 rfl rfl (fun q x hq => by match q, hq with | 0, hq => (obtain rfl := Option.some.inj hq; exact a0) | 1, hq => (obtain rfl := Option.some.inj hq; exact a1)) (fun h => h)) rfl rfl rfl ?_
      refine QAt.val (Val.move rfl) rfl rfl rfl ?_
      refine QAt.val (Val.move rfl) rfl rfl rfl ?_
      refine QAt.val (Val.indexSl (o2 + 2 * j) (by omega) Tryd.underlying62 Tryd.sizeOf122 rfl rfl (by omega) (by omega)) rfl rfl rfl ?_
      refine QAt.val (Val.loadOldPart (vs := [.int .i64 u.1, b64 u.2]) Tryd.isAgg122 Tryd.sizeOf122 rfl rfl (fun q x hq => by match q, hq with | 0, hq => (obtain rfl := Option.some.inj hq; exact b0) | 1, hq => (obtain rfl := Option.some.inj hq; exact b1)) (fun h => h)) rfl rfl rfl ?_
      refine QAt.val (Val.neAgg (b := true) Tryd.eqGuardType122 (fun w => by simpa using eq_122 u.1 (u.2.toNat : Nat) u.1 (u.2.toNat : Nat) w) rfl rfl) rfl rfl rfl ?_
      refine QAt.fin ?_
      refine At.thenN ?_
      refine At.condF rfl ?_
      refine At.skipC ?_
      refine At.blkN ?_
      refine At.thenN ?_
      refine At.region ?_
      refine At.val (Val.move rfl) rfl rfl rfl ?_
      refine At.val (Val.bin rfl rfl rfl) rfl rfl rfl ?_
      refine At.val (Val.assign rfl) rfl rfl rfl ?_
      refine At.nil ?_
      refine At.thenN ?_
      exact At.again (j + 1) (by omega) (by omega) (Sub.cons rfl (Sub.cons rfl (Sub.cons (congrArg (fun z => some (Value.int IntKind.i64 z)) (wrap_i64 (by omega) (by omega))) Sub.nil))) (List.Perm.refl _)
    · skip
      refine At.exitC ?_
      refine At.thenX ?_
      refine At.thenX ?_
      refine At.blkX ?_
      refine At.thenN ?_
      refine At.seq ?_
      refine At.region ?_
      refine At.val (Val.assign rfl) rfl rfl rfl ?_
      refine At.nil ?_
      refine At.thenN ?_
      refine At.retC ?_
      refine At.ret1 (.inl rfl) rfl rfl rfl (fun w hw => ?_)
      exact ⟨rfl, hw.mod⟩

end Go.Proofs.YtlplkbbnpddihaaDoor
