/-
  BoundSays' walk: of any configuration and any kind the bounds are what the document says.
-/
import Derived.Test.YtinomeobmpaakaaBoB
set_option linter.unusedVariables false
set_option linter.unusedSimpArgs false
namespace Go.Proofs.Ytinomeobmpaakaa
open Go
attribute [local irreducible] Sx Cx Rx Fx Krg Ksq Kbl Klp Kr

section
variable {L F : St}
theorem boundFirst : Fx Try.prog 28 [] L (fun v L' => v = .bool true ∧ L = L') := by
  refine Fx.mk Try.func28 k28 (Nat.le_of_ble_eq_true rfl) ?_
  dsimp only [c28, envOf, Nat.reduceAdd]
  repeat' (first | (refine Sx.pvs rfl ?_) | (refine Sx.nil ?_) | (refine Krg.i ?_) | (refine Ksq.nm ?_) | (refine Ksq.rt ?_) | (refine Ksq.ex ?_) | (refine Kbl.nm ?_) | (refine Kbl.rt ?_) | (refine Kbl.hit rfl ?_) | (refine Kbl.miss rfl ?_) | (refine Klp.rt ?_) | (refine Klp.ex ?_) | (refine Cx.sq ?_) | (refine Cx.rg ?_) | (refine Cx.bl ?_) | (refine Cx.sk ?_) | (refine Cx.rt ?_) | (refine Cx.ex ?_) | (refine Cx.yes rfl ?_) | (refine Cx.no rfl ?_) | (refine Sx.on rfl ?_) | (refine Sx.off rfl ?_) | (refine Sx.ldb rfl (by rfl) ?_) | (refine Sx.ldbs rfl rfl ?_) | (refine Sx.stb rfl rfl rfl rfl (by rfl) (by rfl) ?_) | (refine Sx.pv rfl trivial ?_) | (refine Sx.pk rfl rfl rfl ?_))
  refine Sx.al fun g => ?_
  refine Sx.st rfl rfl rfl rfl rfl rfl ?_
  dsimp only [lay]
  repeat' (first | (refine Sx.pvs rfl ?_) | (refine Sx.nil ?_) | (refine Krg.i ?_) | (refine Ksq.nm ?_) | (refine Ksq.rt ?_) | (refine Ksq.ex ?_) | (refine Kbl.nm ?_) | (refine Kbl.rt ?_) | (refine Kbl.hit rfl ?_) | (refine Kbl.miss rfl ?_) | (refine Klp.rt ?_) | (refine Klp.ex ?_) | (refine Cx.sq ?_) | (refine Cx.rg ?_) | (refine Cx.bl ?_) | (refine Cx.sk ?_) | (refine Cx.rt ?_) | (refine Cx.ex ?_) | (refine Cx.yes rfl ?_) | (refine Cx.no rfl ?_) | (refine Sx.on rfl ?_) | (refine Sx.off rfl ?_) | (refine Sx.ldb rfl (by rfl) ?_) | (refine Sx.ldbs rfl rfl ?_) | (refine Sx.stb rfl rfl rfl rfl (by rfl) (by rfl) ?_) | (refine Sx.pv rfl trivial ?_) | (refine Sx.pk rfl rfl rfl ?_))
  refine Sx.ca rfl (alone_ 2 4 8 1 0 1) ?_
  rintro v L' ⟨rfl, rfl⟩
  rw [show aloneOf 2 4 8 1 0 1 = 35 from by decide]
  repeat' (first | (refine Sx.pvs rfl ?_) | (refine Sx.nil ?_) | (refine Krg.i ?_) | (refine Ksq.nm ?_) | (refine Ksq.rt ?_) | (refine Ksq.ex ?_) | (refine Kbl.nm ?_) | (refine Kbl.rt ?_) | (refine Kbl.hit rfl ?_) | (refine Kbl.miss rfl ?_) | (refine Klp.rt ?_) | (refine Klp.ex ?_) | (refine Cx.sq ?_) | (refine Cx.rg ?_) | (refine Cx.bl ?_) | (refine Cx.sk ?_) | (refine Cx.rt ?_) | (refine Cx.ex ?_) | (refine Cx.yes rfl ?_) | (refine Cx.no rfl ?_) | (refine Sx.on rfl ?_) | (refine Sx.off rfl ?_) | (refine Sx.ldb rfl (by rfl) ?_) | (refine Sx.ldbs rfl rfl ?_) | (refine Sx.stb rfl rfl rfl rfl (by rfl) (by rfl) ?_) | (refine Sx.pv rfl trivial ?_) | (refine Sx.pk rfl rfl rfl ?_))
  refine Sx.ca rfl (again_ 2 4 8 1 0 1) ?_
  rintro v L' ⟨rfl, rfl⟩
  rw [show againOf 2 4 8 1 0 1 = 4 from by decide]
  repeat' (first | (refine Sx.pvs rfl ?_) | (refine Sx.nil ?_) | (refine Krg.i ?_) | (refine Ksq.nm ?_) | (refine Ksq.rt ?_) | (refine Ksq.ex ?_) | (refine Kbl.nm ?_) | (refine Kbl.rt ?_) | (refine Kbl.hit rfl ?_) | (refine Kbl.miss rfl ?_) | (refine Klp.rt ?_) | (refine Klp.ex ?_) | (refine Cx.sq ?_) | (refine Cx.rg ?_) | (refine Cx.bl ?_) | (refine Cx.sk ?_) | (refine Cx.rt ?_) | (refine Cx.ex ?_) | (refine Cx.yes rfl ?_) | (refine Cx.no rfl ?_) | (refine Sx.on rfl ?_) | (refine Sx.off rfl ?_) | (refine Sx.ldb rfl (by rfl) ?_) | (refine Sx.ldbs rfl rfl ?_) | (refine Sx.stb rfl rfl rfl rfl (by rfl) (by rfl) ?_) | (refine Sx.pv rfl trivial ?_) | (refine Sx.pk rfl rfl rfl ?_))
  refine Sx.ca rfl (most_ 2 4 8 1 0 1) ?_
  rintro v L' ⟨rfl, rfl⟩
  rw [show mostOf 2 4 8 1 0 1 = 118 from by decide]
  repeat' (first | (refine Sx.pvs rfl ?_) | (refine Sx.nil ?_) | (refine Krg.i ?_) | (refine Ksq.nm ?_) | (refine Ksq.rt ?_) | (refine Ksq.ex ?_) | (refine Kbl.nm ?_) | (refine Kbl.rt ?_) | (refine Kbl.hit rfl ?_) | (refine Kbl.miss rfl ?_) | (refine Klp.rt ?_) | (refine Klp.ex ?_) | (refine Cx.sq ?_) | (refine Cx.rg ?_) | (refine Cx.bl ?_) | (refine Cx.sk ?_) | (refine Cx.rt ?_) | (refine Cx.ex ?_) | (refine Cx.yes rfl ?_) | (refine Cx.no rfl ?_) | (refine Sx.on rfl ?_) | (refine Sx.off rfl ?_) | (refine Sx.ldb rfl (by rfl) ?_) | (refine Sx.ldbs rfl rfl ?_) | (refine Sx.stb rfl rfl rfl rfl (by rfl) (by rfl) ?_) | (refine Sx.pv rfl trivial ?_) | (refine Sx.pk rfl rfl rfl ?_))
  refine Sx.ca rfl (kind_ 2 4 8 1 0 1 1) ?_
  rintro v L' ⟨rfl, rfl⟩
  rw [show kindOf 2 4 8 1 0 1 1 = 5 from by decide]
  repeat' (first | (refine Sx.pvs rfl ?_) | (refine Sx.nil ?_) | (refine Krg.i ?_) | (refine Ksq.nm ?_) | (refine Ksq.rt ?_) | (refine Ksq.ex ?_) | (refine Kbl.nm ?_) | (refine Kbl.rt ?_) | (refine Kbl.hit rfl ?_) | (refine Kbl.miss rfl ?_) | (refine Klp.rt ?_) | (refine Klp.ex ?_) | (refine Cx.sq ?_) | (refine Cx.rg ?_) | (refine Cx.bl ?_) | (refine Cx.sk ?_) | (refine Cx.rt ?_) | (refine Cx.ex ?_) | (refine Cx.yes rfl ?_) | (refine Cx.no rfl ?_) | (refine Sx.on rfl ?_) | (refine Sx.off rfl ?_) | (refine Sx.ldb rfl (by rfl) ?_) | (refine Sx.ldbs rfl rfl ?_) | (refine Sx.stb rfl rfl rfl rfl (by rfl) (by rfl) ?_) | (refine Sx.pv rfl trivial ?_) | (refine Sx.pk rfl rfl rfl ?_))
  exact Kr.one (.inr rfl) rfl Ent.drop ⟨rfl, rfl⟩
theorem boundSays (w c wd sl ca ba k : Int) : Fx Try.prog 7 [cfg w c wd sl ca ba, .int .i64 k] L (fun v L' => v = .bool true ∧ Ent L' L) := by
  refine Fx.mk Try.func7 k7 (Nat.le_of_ble_eq_true rfl) ?_
  dsimp only [c7, envOf, Nat.reduceAdd]
  repeat' (first | (refine Sx.pvs rfl ?_) | (refine Sx.nil ?_) | (refine Krg.i ?_) | (refine Ksq.nm ?_) | (refine Ksq.rt ?_) | (refine Ksq.ex ?_) | (refine Kbl.nm ?_) | (refine Kbl.rt ?_) | (refine Kbl.hit rfl ?_) | (refine Kbl.miss rfl ?_) | (refine Klp.rt ?_) | (refine Klp.ex ?_) | (refine Cx.sq ?_) | (refine Cx.rg ?_) | (refine Cx.bl ?_) | (refine Cx.sk ?_) | (refine Cx.rt ?_) | (refine Cx.ex ?_) | (refine Cx.yes rfl ?_) | (refine Cx.no rfl ?_) | (refine Sx.on rfl ?_) | (refine Sx.off rfl ?_) | (refine Sx.ldb rfl (by rfl) ?_) | (refine Sx.ldbs rfl rfl ?_) | (refine Sx.stb rfl rfl rfl rfl (by rfl) (by rfl) ?_) | (refine Sx.pv rfl trivial ?_) | (refine Sx.pk rfl rfl rfl ?_))
  refine Sx.bx rfl rfl fun g => ?_
  repeat' (first | (refine Sx.pvs rfl ?_) | (refine Sx.nil ?_) | (refine Krg.i ?_) | (refine Ksq.nm ?_) | (refine Ksq.rt ?_) | (refine Ksq.ex ?_) | (refine Kbl.nm ?_) | (refine Kbl.rt ?_) | (refine Kbl.hit rfl ?_) | (refine Kbl.miss rfl ?_) | (refine Klp.rt ?_) | (refine Klp.ex ?_) | (refine Cx.sq ?_) | (refine Cx.rg ?_) | (refine Cx.bl ?_) | (refine Cx.sk ?_) | (refine Cx.rt ?_) | (refine Cx.ex ?_) | (refine Cx.yes rfl ?_) | (refine Cx.no rfl ?_) | (refine Sx.on rfl ?_) | (refine Sx.off rfl ?_) | (refine Sx.ldb rfl (by rfl) ?_) | (refine Sx.ldbs rfl rfl ?_) | (refine Sx.stb rfl rfl rfl rfl (by rfl) (by rfl) ?_) | (refine Sx.pv rfl trivial ?_) | (refine Sx.pk rfl rfl rfl ?_))
  refine Sx.ca rfl boundFirst ?_
  rintro v L' ⟨rfl, rfl⟩
  repeat' (first | (refine Sx.pvs rfl ?_) | (refine Sx.nil ?_) | (refine Krg.i ?_) | (refine Ksq.nm ?_) | (refine Ksq.rt ?_) | (refine Ksq.ex ?_) | (refine Kbl.nm ?_) | (refine Kbl.rt ?_) | (refine Kbl.hit rfl ?_) | (refine Kbl.miss rfl ?_) | (refine Klp.rt ?_) | (refine Klp.ex ?_) | (refine Cx.sq ?_) | (refine Cx.rg ?_) | (refine Cx.bl ?_) | (refine Cx.sk ?_) | (refine Cx.rt ?_) | (refine Cx.ex ?_) | (refine Cx.yes rfl ?_) | (refine Cx.no rfl ?_) | (refine Sx.on rfl ?_) | (refine Sx.off rfl ?_) | (refine Sx.ldb rfl (by rfl) ?_) | (refine Sx.ldbs rfl rfl ?_) | (refine Sx.stb rfl rfl rfl rfl (by rfl) (by rfl) ?_) | (refine Sx.pv rfl trivial ?_) | (refine Sx.pk rfl rfl rfl ?_))
  refine Cx.calm (by kernel_rfl) ?_
  repeat' (first | (refine Cm.pvs rfl ?_) | (refine Cm.step rfl ?_) | (refine Cm.done ?_) | (refine Cm.ldb rfl rfl (by rfl) ?_) | (refine Cm.ldbs rfl rfl rfl ?_))
  refine Cm.ca rfl rfl (kind_ w c wd sl ca ba k) ?_
  repeat' (first | (refine Cm.pvs rfl ?_) | (refine Cm.step rfl ?_) | (refine Cm.done ?_) | (refine Cm.ldb rfl rfl (by rfl) ?_) | (refine Cm.ldbs rfl rfl rfl ?_))
  refine Cm.ca rfl rfl (refKind_ w c wd sl ca ba k) ?_
  repeat' (first | (refine Cm.pvs rfl ?_) | (refine Cm.step rfl ?_) | (refine Cm.done ?_) | (refine Cm.ldb rfl rfl (by rfl) ?_) | (refine Cm.ldbs rfl rfl rfl ?_))
  rw [show decide (kindOf w c wd sl ca ba k = kindOf w c wd sl ca ba k) = true from decide_eq_true rfl]
  repeat' (first | (refine Cm.pvs rfl ?_) | (refine Cm.step rfl ?_) | (refine Cm.done ?_) | (refine Cm.ldb rfl rfl (by rfl) ?_) | (refine Cm.ldbs rfl rfl rfl ?_))
  refine Cm.ca rfl rfl (alone_ w c wd sl ca ba) ?_
  repeat' (first | (refine Cm.pvs rfl ?_) | (refine Cm.step rfl ?_) | (refine Cm.done ?_) | (refine Cm.ldb rfl rfl (by rfl) ?_) | (refine Cm.ldbs rfl rfl rfl ?_))
  refine Cm.ca rfl rfl (refAlone_ w c wd sl ca ba) ?_
  repeat' (first | (refine Cm.pvs rfl ?_) | (refine Cm.step rfl ?_) | (refine Cm.done ?_) | (refine Cm.ldb rfl rfl (by rfl) ?_) | (refine Cm.ldbs rfl rfl rfl ?_))
  rw [show decide (aloneOf w c wd sl ca ba = aloneOf w c wd sl ca ba) = true from decide_eq_true rfl]
  repeat' (first | (refine Cm.pvs rfl ?_) | (refine Cm.step rfl ?_) | (refine Cm.done ?_) | (refine Cm.ldb rfl rfl (by rfl) ?_) | (refine Cm.ldbs rfl rfl rfl ?_))
  refine Cm.ca rfl rfl (again_ w c wd sl ca ba) ?_
  repeat' (first | (refine Cm.pvs rfl ?_) | (refine Cm.step rfl ?_) | (refine Cm.done ?_) | (refine Cm.ldb rfl rfl (by rfl) ?_) | (refine Cm.ldbs rfl rfl rfl ?_))
  refine Cm.ca rfl rfl (refAgain_ w c wd sl ca ba) ?_
  repeat' (first | (refine Cm.pvs rfl ?_) | (refine Cm.step rfl ?_) | (refine Cm.done ?_) | (refine Cm.ldb rfl rfl (by rfl) ?_) | (refine Cm.ldbs rfl rfl rfl ?_))
  rw [show decide (againOf w c wd sl ca ba = againOf w c wd sl ca ba) = true from decide_eq_true rfl]
  repeat' (first | (refine Cm.pvs rfl ?_) | (refine Cm.step rfl ?_) | (refine Cm.done ?_) | (refine Cm.ldb rfl rfl (by rfl) ?_) | (refine Cm.ldbs rfl rfl rfl ?_))
  refine Cm.ca rfl rfl (most_ w c wd sl ca ba) ?_
  repeat' (first | (refine Cm.pvs rfl ?_) | (refine Cm.step rfl ?_) | (refine Cm.done ?_) | (refine Cm.ldb rfl rfl (by rfl) ?_) | (refine Cm.ldbs rfl rfl rfl ?_))
  refine Cm.ca rfl rfl (refMost_ w c wd sl ca ba) ?_
  repeat' (first | (refine Cm.pvs rfl ?_) | (refine Cm.step rfl ?_) | (refine Cm.done ?_) | (refine Cm.ldb rfl rfl (by rfl) ?_) | (refine Cm.ldbs rfl rfl rfl ?_))
  repeat' (first | (refine Sx.pvs rfl ?_) | (refine Sx.nil ?_) | (refine Krg.i ?_) | (refine Ksq.nm ?_) | (refine Ksq.rt ?_) | (refine Ksq.ex ?_) | (refine Kbl.nm ?_) | (refine Kbl.rt ?_) | (refine Kbl.hit rfl ?_) | (refine Kbl.miss rfl ?_) | (refine Klp.rt ?_) | (refine Klp.ex ?_) | (refine Cx.sq ?_) | (refine Cx.rg ?_) | (refine Cx.bl ?_) | (refine Cx.sk ?_) | (refine Cx.rt ?_) | (refine Cx.ex ?_) | (refine Cx.yes rfl ?_) | (refine Cx.no rfl ?_) | (refine Sx.on rfl ?_) | (refine Sx.off rfl ?_) | (refine Sx.ldb rfl (by rfl) ?_) | (refine Sx.ldbs rfl rfl ?_) | (refine Sx.stb rfl rfl rfl rfl (by rfl) (by rfl) ?_) | (refine Sx.pv rfl trivial ?_) | (refine Sx.pk rfl rfl rfl ?_))
  exact Kr.one (.inr rfl) rfl Ent.drop ⟨by simp, Ent.refl _⟩
end
end Go.Proofs.Ytinomeobmpaakaa
