/-
  The limbo's example, and LimboRefuses' walk.
-/
import Derived.Test.YtinomeobmpaakaaLiC
set_option linter.unusedVariables false
set_option linter.unusedSimpArgs false
namespace Go.Proofs.Ytinomeobmpaakaa
open Go
attribute [local irreducible] Sx Cx Rx Fx Krg Ksq Kbl Klp Kr

section
variable {L F : St}
theorem limboFirst : Fx Try.prog 38 [] L (fun v L' => v = .bool true ∧ L = L') := by
  refine Fx.mk Try.func38 k38 (Nat.le_of_ble_eq_true rfl) ?_
  dsimp only [c38, envOf, Nat.reduceAdd]
  repeat' (first | (refine Sx.pvs rfl ?_) | (refine Sx.nil ?_) | (refine Krg.i ?_) | (refine Ksq.nm ?_) | (refine Ksq.rt ?_) | (refine Ksq.ex ?_) | (refine Kbl.nm ?_) | (refine Kbl.rt ?_) | (refine Kbl.hit rfl ?_) | (refine Kbl.miss rfl ?_) | (refine Klp.rt ?_) | (refine Klp.ex ?_) | (refine Cx.sq ?_) | (refine Cx.rg ?_) | (refine Cx.bl ?_) | (refine Cx.sk ?_) | (refine Cx.rt ?_) | (refine Cx.ex ?_) | (refine Cx.yes rfl ?_) | (refine Cx.no rfl ?_) | (refine Sx.on rfl ?_) | (refine Sx.off rfl ?_) | (refine Sx.ldb rfl (by rfl) ?_) | (refine Sx.ldbs rfl rfl ?_) | (refine Sx.stb rfl rfl rfl rfl (by rfl) (by rfl) ?_) | (refine Sx.pv rfl trivial ?_) | (refine Sx.pk rfl rfl rfl ?_))
  refine Sx.ca rfl limboNew ?_
  rintro v L' ⟨b, rfl, rfl⟩
  repeat' (first | (refine Sx.pvs rfl ?_) | (refine Sx.nil ?_) | (refine Krg.i ?_) | (refine Ksq.nm ?_) | (refine Ksq.rt ?_) | (refine Ksq.ex ?_) | (refine Kbl.nm ?_) | (refine Kbl.rt ?_) | (refine Kbl.hit rfl ?_) | (refine Kbl.miss rfl ?_) | (refine Klp.rt ?_) | (refine Klp.ex ?_) | (refine Cx.sq ?_) | (refine Cx.rg ?_) | (refine Cx.bl ?_) | (refine Cx.sk ?_) | (refine Cx.rt ?_) | (refine Cx.ex ?_) | (refine Cx.yes rfl ?_) | (refine Cx.no rfl ?_) | (refine Sx.on rfl ?_) | (refine Sx.off rfl ?_) | (refine Sx.ldb rfl (by rfl) ?_) | (refine Sx.ldbs rfl rfl ?_) | (refine Sx.stb rfl rfl rfl rfl (by rfl) (by rfl) ?_) | (refine Sx.pv rfl trivial ?_) | (refine Sx.pk rfl rfl rfl ?_))
  refine Sx.bs (sz := 1) rfl rfl fun g => ?_
  repeat' (first | (refine Sx.pvs rfl ?_) | (refine Sx.nil ?_) | (refine Krg.i ?_) | (refine Ksq.nm ?_) | (refine Ksq.rt ?_) | (refine Ksq.ex ?_) | (refine Kbl.nm ?_) | (refine Kbl.rt ?_) | (refine Kbl.hit rfl ?_) | (refine Kbl.miss rfl ?_) | (refine Klp.rt ?_) | (refine Klp.ex ?_) | (refine Cx.sq ?_) | (refine Cx.rg ?_) | (refine Cx.bl ?_) | (refine Cx.sk ?_) | (refine Cx.rt ?_) | (refine Cx.ex ?_) | (refine Cx.yes rfl ?_) | (refine Cx.no rfl ?_) | (refine Sx.on rfl ?_) | (refine Sx.off rfl ?_) | (refine Sx.ldb rfl (by rfl) ?_) | (refine Sx.ldbs rfl rfl ?_) | (refine Sx.stb rfl rfl rfl rfl (by rfl) (by rfl) ?_) | (refine Sx.pv rfl trivial ?_) | (refine Sx.pk rfl rfl rfl ?_))
  refine Sx.ca rfl (limboRetire (b := b) (m := Lm.nil) (ys := [7]) (Rd.row (b := g) (E := 3) (cap := 1) rfl) (by decide)) ?_
  rintro v L' (⟨hr, _⟩ | ⟨_, ro, co, rfl, rfl⟩)
  · rcases hr with h | h | h | h
    · cases h
    · omega
    · omega
    · exact absurd h (by decide)
  rw [show outM Lm.nil 4 = [] from rfl, show retireM Lm.nil 4 [7] = ⟨0, [], 4, [7], 0, [], 4⟩ from rfl]
  repeat' (first | (refine Sx.pvs rfl ?_) | (refine Sx.nil ?_) | (refine Krg.i ?_) | (refine Ksq.nm ?_) | (refine Ksq.rt ?_) | (refine Ksq.ex ?_) | (refine Kbl.nm ?_) | (refine Kbl.rt ?_) | (refine Kbl.hit rfl ?_) | (refine Kbl.miss rfl ?_) | (refine Klp.rt ?_) | (refine Klp.ex ?_) | (refine Cx.sq ?_) | (refine Cx.rg ?_) | (refine Cx.bl ?_) | (refine Cx.sk ?_) | (refine Cx.rt ?_) | (refine Cx.ex ?_) | (refine Cx.yes rfl ?_) | (refine Cx.no rfl ?_) | (refine Sx.on rfl ?_) | (refine Sx.off rfl ?_) | (refine Sx.ldb rfl (by rfl) ?_) | (refine Sx.ldbs rfl rfl ?_) | (refine Sx.stb rfl rfl rfl rfl (by rfl) (by rfl) ?_) | (refine Sx.pv rfl trivial ?_) | (refine Sx.pk rfl rfl rfl ?_))
  refine Sx.ca rfl (limboReady (b := b) (m := ⟨0, [], 4, [7], 0, [], 4⟩) (now := 5) (by decide) (by omega)) ?_
  rintro v L' ⟨r1, c1, rfl, rfl⟩
  rw [show readyAll 5 ⟨0, [], 4, [7], 0, [], 4⟩ = ([], ⟨0, [], 4, [7], 0, [], 4⟩) from rfl]
  repeat' (first | (refine Sx.pvs rfl ?_) | (refine Sx.nil ?_) | (refine Krg.i ?_) | (refine Ksq.nm ?_) | (refine Ksq.rt ?_) | (refine Ksq.ex ?_) | (refine Kbl.nm ?_) | (refine Kbl.rt ?_) | (refine Kbl.hit rfl ?_) | (refine Kbl.miss rfl ?_) | (refine Klp.rt ?_) | (refine Klp.ex ?_) | (refine Cx.sq ?_) | (refine Cx.rg ?_) | (refine Cx.bl ?_) | (refine Cx.sk ?_) | (refine Cx.rt ?_) | (refine Cx.ex ?_) | (refine Cx.yes rfl ?_) | (refine Cx.no rfl ?_) | (refine Sx.on rfl ?_) | (refine Sx.off rfl ?_) | (refine Sx.ldb rfl (by rfl) ?_) | (refine Sx.ldbs rfl rfl ?_) | (refine Sx.stb rfl rfl rfl rfl (by rfl) (by rfl) ?_) | (refine Sx.pv rfl trivial ?_) | (refine Sx.pk rfl rfl rfl ?_))
  refine Sx.ca rfl (limboReady (b := b) (m := ⟨0, [], 4, [7], 0, [], 4⟩) (now := 6) (by decide) (by omega)) ?_
  rintro v L' ⟨r2, c2, rfl, rfl⟩
  rw [show readyAll 6 ⟨0, [], 4, [7], 0, [], 4⟩ = ([7], ⟨0, [], 0, [], 0, [], 4⟩) from rfl]
  repeat' (first | (refine Sx.pvs rfl ?_) | (refine Sx.nil ?_) | (refine Krg.i ?_) | (refine Ksq.nm ?_) | (refine Ksq.rt ?_) | (refine Ksq.ex ?_) | (refine Kbl.nm ?_) | (refine Kbl.rt ?_) | (refine Kbl.hit rfl ?_) | (refine Kbl.miss rfl ?_) | (refine Klp.rt ?_) | (refine Klp.ex ?_) | (refine Cx.sq ?_) | (refine Cx.rg ?_) | (refine Cx.bl ?_) | (refine Cx.sk ?_) | (refine Cx.rt ?_) | (refine Cx.ex ?_) | (refine Cx.yes rfl ?_) | (refine Cx.no rfl ?_) | (refine Sx.on rfl ?_) | (refine Sx.off rfl ?_) | (refine Sx.ldb rfl (by rfl) ?_) | (refine Sx.ldbs rfl rfl ?_) | (refine Sx.stb rfl rfl rfl rfl (by rfl) (by rfl) ?_) | (refine Sx.pv rfl trivial ?_) | (refine Sx.pk rfl rfl rfl ?_))
  refine Sx.rowsome (a := r2) (by decide) fun h hr => ?_
  subst hr
  refine Sx.pv rfl ⟨by omega, by decide⟩ ?_
  refine Sx.on rfl (Sx.ldr rfl (v := .int .i64 7) rfl ?_)
  repeat' (first | (refine Sx.pvs rfl ?_) | (refine Sx.nil ?_) | (refine Krg.i ?_) | (refine Ksq.nm ?_) | (refine Ksq.rt ?_) | (refine Ksq.ex ?_) | (refine Kbl.nm ?_) | (refine Kbl.rt ?_) | (refine Kbl.hit rfl ?_) | (refine Kbl.miss rfl ?_) | (refine Klp.rt ?_) | (refine Klp.ex ?_) | (refine Cx.sq ?_) | (refine Cx.rg ?_) | (refine Cx.bl ?_) | (refine Cx.sk ?_) | (refine Cx.rt ?_) | (refine Cx.ex ?_) | (refine Cx.yes rfl ?_) | (refine Cx.no rfl ?_) | (refine Sx.on rfl ?_) | (refine Sx.off rfl ?_) | (refine Sx.ldb rfl (by rfl) ?_) | (refine Sx.ldbs rfl rfl ?_) | (refine Sx.stb rfl rfl rfl rfl (by rfl) (by rfl) ?_) | (refine Sx.pv rfl trivial ?_) | (refine Sx.pk rfl rfl rfl ?_))
  refine Kr.one (.inr rfl) rfl ?_ ⟨rfl, rfl⟩
  repeat (first | exact Ent.refl _ | (refine Ent.take1 ?_) | (refine Ent.trans Ent.drop ?_))
end
end Go.Proofs.Ytinomeobmpaakaa
