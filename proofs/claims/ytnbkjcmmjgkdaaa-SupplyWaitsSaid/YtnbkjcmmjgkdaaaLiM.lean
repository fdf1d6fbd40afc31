/-
  The document's limbo: its contracts, told of the program's limbo: what is in an empty bucket's tag does not count.
-/
import Derived.Test.YtnbkjcmmjgkdaaaLiF
import Derived.Test.YtnbkjcmmjgkdaaaLiG
import Derived.Test.YtnbkjcmmjgkdaaaSlN
set_option linter.unusedVariables false
set_option linter.unusedSimpArgs false
namespace Go.Proofs.Ytnbkjcmmjgkdaaa
open Go
attribute [local irreducible] Sx Cx Rx Fx Krg Ksq Kbl Klp Kr

/-- Tags of full buckets are what they are; the last tag. -/
structure RTag (m : Lm) (u0 u1 u2 l : Int) : Prop where
  h0 : m.x0 ≠ [] → u0 = m.t0
  h1 : m.x1 ≠ [] → u1 = m.t1
  h2 : m.x2 ≠ [] → u2 = m.t2
  hl : l = m.last ∨ (l = -1 ∧ m.last = 0)
section
variable {L F : St}
def refL (T : TypeId) (m : Lm) (a : Option Addr) (y : ((Option Addr × Nat) × (Option Addr × Nat) × (Option Addr × Nat)) × (Int × Int × Int × Int)) : St :=
    [lift (RTag m y.2.1 y.2.2.1 y.2.2.2.1 y.2.2.2.2), pt a (Blk T [.int .i64 y.2.1, .int .i64 y.2.2.1, .int .i64 y.2.2.2.1, .slice y.1.1.1 m.x0.length y.1.1.2, .slice y.1.2.1.1 m.x1.length y.1.2.1.2, .slice y.1.2.2.1 m.x2.length y.1.2.2.2, .int .i64 y.2.2.2.2]),
     pt y.1.1.1 (Row 3 1 m.x0.length y.1.1.2 (ints m.x0)), pt y.1.2.1.1 (Row 3 1 m.x1.length y.1.2.1.2 (ints m.x1)), pt y.1.2.2.1 (Row 3 1 m.x2.length y.1.2.2.2 (ints m.x2))]
def RLimboT (T : TypeId) (m : Lm) (a : Option Addr) : As := exs (refL T m a)
abbrev RLimboO := RLimboT 152
theorem RLimboO.close {T : TypeId} {a r0 r1 r2 : Option Addr} {c0 c1 c2 n0 n1 n2 : Nat} {u0 u1 u2 l : Int} {v0 v1 v2 v3 : Value} {w0 w1 w2 : List Value} {F F0 F1 G : St} (m : Lm) (hT : RTag m u0 u1 u2 l)
    [t : Take L a (Blk T [v0, v1, v2, .slice r0 n0 c0, .slice r1 n1 c1, .slice r2 n2 c2, v3]) F] [q0 : Take F r0 (Row 3 1 n0 c0 w0) F0] [q1 : Take F0 r1 (Row 3 1 n1 c1 w1) F1] [q2 : Take F1 r2 (Row 3 1 n2 c2 w2) G]
    (h0 : v0 = .int .i64 u0) (h1 : v1 = .int .i64 u1) (h2 : v2 = .int .i64 u2) (h3 : v3 = .int .i64 l) (e0 : n0 = m.x0.length) (e1 : n1 = m.x1.length) (e2 : n2 = m.x2.length)
    (g0 : w0 = ints m.x0) (g1 : w1 = ints m.x1) (g2 : w2 = ints m.x2) : Ent L (pt a (RLimboT T m) :: G) := by
  subst h0; subst h1; subst h2; subst h3; subst e0; subst e1; subst e2; subst g0; subst g1; subst g2
  refine Ent.trans (Ent.take1 (t := t) (Ent.trans (Ent.of q0.out) (Ent.cons (Ent.trans (Ent.of q1.out) (Ent.cons (Ent.of q2.out)))))) ?_
  refine Ent.trans (Ent.lift hT (Ent.refl _)) ?_
  exact Ent.close (f := refL T m a) rfl (((r0, c0), (r1, c1), (r2, c2)), (u0, u1, u2, l))
theorem RTag.nil : RTag Lm.nil 0 0 0 (-1) := ⟨fun h => absurd rfl h, fun h => absurd rfl h, fun h => absurd rfl h, .inr ⟨rfl, rfl⟩⟩

theorem refLimboNew : Fx Try.prog 63 [] L (fun v L' => ∃ g, v = .pointer (some ⟨g, 0, none⟩) ∧ L' = pt (some ⟨g, 0, none⟩) (RLimboO Lm.nil) :: L) := by
  refine Fx.mk Try.func63 k63 (Nat.le_of_ble_eq_true rfl) ?_
  dsimp only [c63, envOf, Nat.reduceAdd]
  repeat' (first | (refine Sx.pvs rfl ?_) | (refine Sx.nil ?_) | (refine Krg.i ?_) | (refine Ksq.nm ?_) | (refine Ksq.rt ?_) | (refine Ksq.ex ?_) | (refine Kbl.nm ?_) | (refine Kbl.rt ?_) | (refine Kbl.hit rfl ?_) | (refine Kbl.miss rfl ?_) | (refine Klp.rt ?_) | (refine Klp.ex ?_) | (refine Cx.sq ?_) | (refine Cx.rg ?_) | (refine Cx.bl ?_) | (refine Cx.sk ?_) | (refine Cx.rt ?_) | (refine Cx.ex ?_) | (refine Cx.yes rfl ?_) | (refine Cx.no rfl ?_) | (refine Sx.on rfl ?_) | (refine Sx.off rfl ?_) | (refine Sx.ldb rfl (by rfl) ?_) | (refine Sx.ldbs rfl rfl ?_) | (refine Sx.stb rfl rfl rfl rfl (by rfl) (by rfl) ?_) | (refine Sx.pv rfl trivial ?_) | (refine Sx.pk rfl rfl rfl ?_))
  refine Sx.bx rfl rfl fun g => ?_
  repeat' (first | (refine Sx.pvs rfl ?_) | (refine Sx.nil ?_) | (refine Krg.i ?_) | (refine Ksq.nm ?_) | (refine Ksq.rt ?_) | (refine Ksq.ex ?_) | (refine Kbl.nm ?_) | (refine Kbl.rt ?_) | (refine Kbl.hit rfl ?_) | (refine Kbl.miss rfl ?_) | (refine Klp.rt ?_) | (refine Klp.ex ?_) | (refine Cx.sq ?_) | (refine Cx.rg ?_) | (refine Cx.bl ?_) | (refine Cx.sk ?_) | (refine Cx.rt ?_) | (refine Cx.ex ?_) | (refine Cx.yes rfl ?_) | (refine Cx.no rfl ?_) | (refine Sx.on rfl ?_) | (refine Sx.off rfl ?_) | (refine Sx.ldb rfl (by rfl) ?_) | (refine Sx.ldbs rfl rfl ?_) | (refine Sx.stb rfl rfl rfl rfl (by rfl) (by rfl) ?_) | (refine Sx.pv rfl trivial ?_) | (refine Sx.pk rfl rfl rfl ?_))
  refine Kr.one (.inr rfl) rfl ?_ ⟨g, rfl, rfl⟩
  refine Ent.trans (Ent.rownil 3 1) (Ent.trans (Ent.rownil 3 1) (Ent.trans (Ent.rownil 3 1) ?_))
  exact RLimboO.close (a := some ⟨g, 0, none⟩) (r0 := none) (r1 := none) (r2 := none) Lm.nil RTag.nil rfl rfl rfl rfl rfl rfl rfl rfl rfl rfl

/-- The least bucket as the document numbers it. -/
def leastI (o : Option Nat) : Int := match o with | none => -1 | some j => j
end
end Go.Proofs.Ytnbkjcmmjgkdaaa
