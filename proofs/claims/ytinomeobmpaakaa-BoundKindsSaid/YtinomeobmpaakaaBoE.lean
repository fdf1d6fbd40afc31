/-
  BoundKinds' walk: no kind's bound is above Alone's, nor Alone's above Most's; with more of anything no bound is less.
-/
import Derived.Test.YtinomeobmpaakaaBoD
set_option linter.unusedVariables false
set_option linter.unusedSimpArgs false
namespace Go.Proofs.Ytinomeobmpaakaa
open Go
attribute [local irreducible] Sx Cx Rx Fx Krg Ksq Kbl Klp Kr

section
variable {L F : St}
theorem aloneOf_eq {w c wd sl ca ba : Int} (h : MayC w c wd sl ca ba) : aloneOf w c wd sl ca ba = w + 2 * c + wd + ba + 16 := by simp [aloneOf, h]
theorem againOf_eq {w c wd sl ca ba : Int} (h : MayC w c wd sl ca ba) : againOf w c wd sl ca ba = ba + 3 := by simp [againOf, h]
theorem mostOf_eq {w c wd sl ca ba : Int} (h : MayC w c wd sl ca ba) (hw : w ≤ 5) : mostOf w c wd sl ca ba = w * (w + 2 * c + wd + ba + 16 + 3 * w * (ba + 3)) := by
  unfold mostOf
  rw [aloneOf_eq h, againOf_eq h]
  unfold MayC at h
  have h1 : IntKind.i64.wrap (3 * w) = 3 * w := w64 (by omega) (by omega)
  have h2 : IntKind.i64.wrap (3 * w * (ba + 3)) = 3 * w * (ba + 3) := by
    rcases (show w = 1 ∨ w = 2 ∨ w = 3 ∨ w = 4 ∨ w = 5 by omega) with rfl | rfl | rfl | rfl | rfl <;> exact w64 (by omega) (by omega)
  have h3 : IntKind.i64.wrap (w + 2 * c + wd + ba + 16 + 3 * w * (ba + 3)) = w + 2 * c + wd + ba + 16 + 3 * w * (ba + 3) := by
    rcases (show w = 1 ∨ w = 2 ∨ w = 3 ∨ w = 4 ∨ w = 5 by omega) with rfl | rfl | rfl | rfl | rfl <;> exact w64 (by omega) (by omega)
  have h4 : IntKind.i64.wrap (w * (w + 2 * c + wd + ba + 16 + 3 * w * (ba + 3))) = w * (w + 2 * c + wd + ba + 16 + 3 * w * (ba + 3)) := by
    rcases (show w = 1 ∨ w = 2 ∨ w = 3 ∨ w = 4 ∨ w = 5 by omega) with rfl | rfl | rfl | rfl | rfl <;> exact w64 (by omega) (by omega)
  rw [h1, h2, h3, h4]
/-- One of a configuration's numbers is more. -/
def MoreC (w c wd sl ca ba w' c' wd' sl' ca' ba' : Int) : Prop := MayC w' c' wd' sl' ca' ba' ∧ w ≤ w' ∧ w' ≤ w + 1 ∧ c ≤ c' ∧ wd ≤ wd' ∧ ba ≤ ba'
theorem small_may {w c wd sl ca ba : Int} (h : SmallC w c wd sl ca ba) : MayC w c wd sl ca ba := by
  unfold SmallC at h
  unfold MayC
  rcases h.2.2.1 with rfl | rfl <;> refine ⟨by omega, by omega, by omega, by decide, by omega, by omega, by omega⟩
theorem kind_bounds {w c wd sl ca ba k : Int} (h : MayC w c wd sl ca ba) (hk : 1 ≤ k ∧ k ≤ 12) : 1 ≤ kindOf w c wd sl ca ba k ∧ kindOf w c wd sl ca ba k ≤ aloneOf w c wd sl ca ba := by
  rw [aloneOf_eq h]
  unfold kindOf
  rw [if_pos h]
  unfold MayC at h
  repeat' split
  all_goals omega
theorem kind_more {w c wd sl ca ba w' c' wd' sl' ca' ba' k : Int} (h : MayC w c wd sl ca ba) (hm : MoreC w c wd sl ca ba w' c' wd' sl' ca' ba') : kindOf w c wd sl ca ba k ≤ kindOf w' c' wd' sl' ca' ba' k := by
  obtain ⟨hm, h1, h2, h3, h4, h5⟩ := hm
  unfold kindOf
  rw [if_pos h, if_pos hm]
  repeat' split
  all_goals omega
theorem alone_more {w c wd sl ca ba w' c' wd' sl' ca' ba' : Int} (h : MayC w c wd sl ca ba) (hm : MoreC w c wd sl ca ba w' c' wd' sl' ca' ba') : aloneOf w c wd sl ca ba ≤ aloneOf w' c' wd' sl' ca' ba' := by
  obtain ⟨hm, h1, h2, h3, h4, h5⟩ := hm
  rw [aloneOf_eq h, aloneOf_eq hm]; omega
theorem again_more {w c wd sl ca ba w' c' wd' sl' ca' ba' : Int} (h : MayC w c wd sl ca ba) (hm : MoreC w c wd sl ca ba w' c' wd' sl' ca' ba') : againOf w c wd sl ca ba ≤ againOf w' c' wd' sl' ca' ba' := by
  obtain ⟨hm, h1, h2, h3, h4, h5⟩ := hm
  rw [againOf_eq h, againOf_eq hm]; omega
theorem most_more {w c wd sl ca ba w' c' wd' sl' ca' ba' : Int} (hs : SmallC w c wd sl ca ba) (hm : MoreC w c wd sl ca ba w' c' wd' sl' ca' ba') : mostOf w c wd sl ca ba ≤ mostOf w' c' wd' sl' ca' ba' := by
  have h := small_may hs
  obtain ⟨hm, h1, h2, h3, h4, h5⟩ := hm
  unfold SmallC at hs
  rw [mostOf_eq h (by omega), mostOf_eq hm (by omega)]
  unfold MayC at h hm
  rcases (show w = 1 ∨ w = 2 ∨ w = 3 ∨ w = 4 by omega) with rfl | rfl | rfl | rfl <;>
    rcases (show w' = 1 ∨ w' = 2 ∨ w' = 3 ∨ w' = 4 ∨ w' = 5 by omega) with rfl | rfl | rfl | rfl | rfl <;> omega
theorem alone_most {w c wd sl ca ba : Int} (hs : SmallC w c wd sl ca ba) : aloneOf w c wd sl ca ba ≤ mostOf w c wd sl ca ba := by
  have h := small_may hs
  unfold SmallC at hs
  rw [mostOf_eq h (by omega), aloneOf_eq h]
  rcases (show w = 1 ∨ w = 2 ∨ w = 3 ∨ w = 4 by omega) with rfl | rfl | rfl | rfl <;> omega

set_option maxHeartbeats 4000000 in
theorem boundKinds (n kind how : Int) : Fx Try.prog 8 [.int .i64 n, .int .i64 kind, .int .i64 how] L (fun v L' => v = .bool true ∧ Ent L' L) := by
  have hk1 := Int.emod_nonneg kind (show (12 : Int) ≠ 0 by omega)
  have hk2 := Int.emod_lt_of_pos kind (show (0 : Int) < 12 by omega)
  have hh1 := Int.emod_nonneg how (show (6 : Int) ≠ 0 by omega)
  have hh2 := Int.emod_lt_of_pos how (show (0 : Int) < 6 by omega)
  refine Fx.mk Try.func8 k8 (Nat.le_of_ble_eq_true rfl) ?_
  dsimp only [c8, envOf, Nat.reduceAdd]
  repeat' (first | (refine Sx.pvs rfl ?_) | (refine Sx.nil ?_) | (refine Krg.i ?_) | (refine Ksq.nm ?_) | (refine Ksq.rt ?_) | (refine Ksq.ex ?_) | (refine Kbl.nm ?_) | (refine Kbl.rt ?_) | (refine Kbl.hit rfl ?_) | (refine Kbl.miss rfl ?_) | (refine Klp.rt ?_) | (refine Klp.ex ?_) | (refine Cx.sq ?_) | (refine Cx.rg ?_) | (refine Cx.bl ?_) | (refine Cx.sk ?_) | (refine Cx.rt ?_) | (refine Cx.ex ?_) | (refine Cx.yes rfl ?_) | (refine Cx.no rfl ?_) | (refine Sx.on rfl ?_) | (refine Sx.off rfl ?_) | (refine Sx.ldb rfl (by rfl) ?_) | (refine Sx.ldbs rfl rfl ?_) | (refine Sx.stb rfl rfl rfl rfl (by rfl) (by rfl) ?_) | (refine Sx.pv rfl trivial ?_) | (refine Sx.pk rfl rfl rfl ?_))
  refine Sx.ca rfl boundFirst ?_
  rintro v L' ⟨rfl, rfl⟩
  repeat' (first | (refine Sx.pvs rfl ?_) | (refine Sx.nil ?_) | (refine Krg.i ?_) | (refine Ksq.nm ?_) | (refine Ksq.rt ?_) | (refine Ksq.ex ?_) | (refine Kbl.nm ?_) | (refine Kbl.rt ?_) | (refine Kbl.hit rfl ?_) | (refine Kbl.miss rfl ?_) | (refine Klp.rt ?_) | (refine Klp.ex ?_) | (refine Cx.sq ?_) | (refine Cx.rg ?_) | (refine Cx.bl ?_) | (refine Cx.sk ?_) | (refine Cx.rt ?_) | (refine Cx.ex ?_) | (refine Cx.yes rfl ?_) | (refine Cx.no rfl ?_) | (refine Sx.on rfl ?_) | (refine Sx.off rfl ?_) | (refine Sx.ldb rfl (by rfl) ?_) | (refine Sx.ldbs rfl rfl ?_) | (refine Sx.stb rfl rfl rfl rfl (by rfl) (by rfl) ?_) | (refine Sx.pv rfl trivial ?_) | (refine Sx.pk rfl rfl rfl ?_))
  refine Sx.ca rfl (config_ n) ?_
  rintro v L' ⟨⟨w, c, wd, sl, ca, ba, rfl, hS⟩, rfl⟩
  have hM := small_may hS
  refine Sx.al fun g => ?_
  refine Sx.st (b := g) rfl rfl rfl rfl rfl rfl ?_
  dsimp only [lay]
  repeat' (first | (refine Sx.pvs rfl ?_) | (refine Sx.nil ?_) | (refine Krg.i ?_) | (refine Ksq.nm ?_) | (refine Ksq.rt ?_) | (refine Ksq.ex ?_) | (refine Kbl.nm ?_) | (refine Kbl.rt ?_) | (refine Kbl.hit rfl ?_) | (refine Kbl.miss rfl ?_) | (refine Klp.rt ?_) | (refine Klp.ex ?_) | (refine Cx.sq ?_) | (refine Cx.rg ?_) | (refine Cx.bl ?_) | (refine Cx.sk ?_) | (refine Cx.rt ?_) | (refine Cx.ex ?_) | (refine Cx.yes rfl ?_) | (refine Cx.no rfl ?_) | (refine Sx.on rfl ?_) | (refine Sx.off rfl ?_) | (refine Sx.ldb rfl (by rfl) ?_) | (refine Sx.ldbs rfl rfl ?_) | (refine Sx.stb rfl rfl rfl rfl (by rfl) (by rfl) ?_) | (refine Sx.pv rfl trivial ?_) | (refine Sx.pk rfl rfl rfl ?_))
  refine Sx.ca rfl (number kind 12 (by omega) (by omega)) ?_
  rintro v L' ⟨rfl, rfl⟩
  repeat' (first | (refine Sx.pvs rfl ?_) | (refine Sx.nil ?_) | (refine Krg.i ?_) | (refine Ksq.nm ?_) | (refine Ksq.rt ?_) | (refine Ksq.ex ?_) | (refine Kbl.nm ?_) | (refine Kbl.rt ?_) | (refine Kbl.hit rfl ?_) | (refine Kbl.miss rfl ?_) | (refine Klp.rt ?_) | (refine Klp.ex ?_) | (refine Cx.sq ?_) | (refine Cx.rg ?_) | (refine Cx.bl ?_) | (refine Cx.sk ?_) | (refine Cx.rt ?_) | (refine Cx.ex ?_) | (refine Cx.yes rfl ?_) | (refine Cx.no rfl ?_) | (refine Sx.on rfl ?_) | (refine Sx.off rfl ?_) | (refine Sx.ldb rfl (by rfl) ?_) | (refine Sx.ldbs rfl rfl ?_) | (refine Sx.stb rfl rfl rfl rfl (by rfl) (by rfl) ?_) | (refine Sx.pv rfl trivial ?_) | (refine Sx.pk rfl rfl rfl ?_))
  rw [w64 (n := 1 + kind % 12) (by omega) (by omega)]
  generalize hk : 1 + kind % 12 = k
  have hk' : 1 ≤ k ∧ k ≤ 12 := by omega
  refine Sx.al fun d => ?_
  refine Sx.st (b := d) rfl rfl rfl rfl rfl rfl ?_
  dsimp only [lay]
  repeat' (first | (refine Sx.pvs rfl ?_) | (refine Sx.nil ?_) | (refine Krg.i ?_) | (refine Ksq.nm ?_) | (refine Ksq.rt ?_) | (refine Ksq.ex ?_) | (refine Kbl.nm ?_) | (refine Kbl.rt ?_) | (refine Kbl.hit rfl ?_) | (refine Kbl.miss rfl ?_) | (refine Klp.rt ?_) | (refine Klp.ex ?_) | (refine Cx.sq ?_) | (refine Cx.rg ?_) | (refine Cx.bl ?_) | (refine Cx.sk ?_) | (refine Cx.rt ?_) | (refine Cx.ex ?_) | (refine Cx.yes rfl ?_) | (refine Cx.no rfl ?_) | (refine Sx.on rfl ?_) | (refine Sx.off rfl ?_) | (refine Sx.ldb rfl (by rfl) ?_) | (refine Sx.ldbs rfl rfl ?_) | (refine Sx.stb rfl rfl rfl rfl (by rfl) (by rfl) ?_) | (refine Sx.pv rfl trivial ?_) | (refine Sx.pk rfl rfl rfl ?_))
  refine Sx.ca rfl (number how 6 (by omega) (by omega)) ?_
  rintro v L' ⟨rfl, rfl⟩
  generalize how % 6 = z at hh1 hh2 ⊢
  refine Sx.nil ?_
  refine Krg.i ?_
  refine Ksq.nm ?_
  refine Cx.jn (β := {p : Int × Int × Int × Int × Int × Int // MoreC w c wd sl ca ba p.1 p.2.1 p.2.2.1 p.2.2.2.1 p.2.2.2.2.1 p.2.2.2.2.2})
    (fun _ => [(7, .bool true), (8, .pointer (some ⟨g, 0, none⟩)), (9, .int .i64 k), (10, .pointer (some ⟨d, 0, none⟩))])
    (fun p => pt (some ⟨d, 0, none⟩) (Blk 47 [.int .i64 p.1.1, .int .i64 p.1.2.1, .int .i64 p.1.2.2.1, .int .i64 p.1.2.2.2.1, .int .i64 p.1.2.2.2.2.1, .int .i64 p.1.2.2.2.2.2]) ::
      pt (some ⟨g, 0, none⟩) (Blk 47 [.int .i64 w, .int .i64 c, .int .i64 wd, .int .i64 sl, .int .i64 ca, .int .i64 ba]) :: L) ?_ ?_
  · have hB := hS
    unfold SmallC at hB
    rcases (show z = 0 ∨ z = 1 ∨ z = 2 ∨ z = 3 ∨ z = 4 ∨ z = 5 by omega) with rfl | rfl | rfl | rfl | rfl | rfl
    · repeat' (first | (refine Sx.pvs rfl ?_) | (refine Sx.nil ?_) | (refine Krg.i ?_) | (refine Ksq.nm ?_) | (refine Ksq.rt ?_) | (refine Ksq.ex ?_) | (refine Kbl.nm ?_) | (refine Kbl.rt ?_) | (refine Kbl.hit rfl ?_) | (refine Kbl.miss rfl ?_) | (refine Klp.rt ?_) | (refine Klp.ex ?_) | (refine Cx.sq ?_) | (refine Cx.rg ?_) | (refine Cx.bl ?_) | (refine Cx.sk ?_) | (refine Cx.rt ?_) | (refine Cx.ex ?_) | (refine Cx.yes rfl ?_) | (refine Cx.no rfl ?_) | (refine Sx.on rfl ?_) | (refine Sx.off rfl ?_) | (refine Sx.ldb rfl (by rfl) ?_) | (refine Sx.ldbs rfl rfl ?_) | (refine Sx.stb rfl rfl rfl rfl (by rfl) (by rfl) ?_) | (refine Sx.pv rfl trivial ?_) | (refine Sx.pk rfl rfl rfl ?_))
      rw [w64 (n := w + 1) (by omega) (by omega)]
      refine Kjn.nm ⟨(w + 1, c, wd, sl, ca, ba), ?_⟩ (sub.cons rfl (sub.cons rfl (sub.cons rfl (sub.cons rfl sub.nil)))) (Ent.refl _)
      dsimp only
      refine ⟨?_, by omega, by omega, by omega, by omega, by omega⟩
      rcases hB.2.2.1 with rfl | rfl <;> refine ⟨by omega, by omega, by omega, by decide, by omega, by omega, by omega⟩
    · repeat' (first | (refine Sx.pvs rfl ?_) | (refine Sx.nil ?_) | (refine Krg.i ?_) | (refine Ksq.nm ?_) | (refine Ksq.rt ?_) | (refine Ksq.ex ?_) | (refine Kbl.nm ?_) | (refine Kbl.rt ?_) | (refine Kbl.hit rfl ?_) | (refine Kbl.miss rfl ?_) | (refine Klp.rt ?_) | (refine Klp.ex ?_) | (refine Cx.sq ?_) | (refine Cx.rg ?_) | (refine Cx.bl ?_) | (refine Cx.sk ?_) | (refine Cx.rt ?_) | (refine Cx.ex ?_) | (refine Cx.yes rfl ?_) | (refine Cx.no rfl ?_) | (refine Sx.on rfl ?_) | (refine Sx.off rfl ?_) | (refine Sx.ldb rfl (by rfl) ?_) | (refine Sx.ldbs rfl rfl ?_) | (refine Sx.stb rfl rfl rfl rfl (by rfl) (by rfl) ?_) | (refine Sx.pv rfl trivial ?_) | (refine Sx.pk rfl rfl rfl ?_))
      rw [w64 (n := c + 1) (by omega) (by omega)]
      refine Kjn.nm ⟨(w, c + 1, wd, sl, ca, ba), ?_⟩ (sub.cons rfl (sub.cons rfl (sub.cons rfl (sub.cons rfl sub.nil)))) (Ent.refl _)
      dsimp only
      refine ⟨?_, by omega, by omega, by omega, by omega, by omega⟩
      rcases hB.2.2.1 with rfl | rfl <;> refine ⟨by omega, by omega, by omega, by decide, by omega, by omega, by omega⟩
    · repeat' (first | (refine Sx.pvs rfl ?_) | (refine Sx.nil ?_) | (refine Krg.i ?_) | (refine Ksq.nm ?_) | (refine Ksq.rt ?_) | (refine Ksq.ex ?_) | (refine Kbl.nm ?_) | (refine Kbl.rt ?_) | (refine Kbl.hit rfl ?_) | (refine Kbl.miss rfl ?_) | (refine Klp.rt ?_) | (refine Klp.ex ?_) | (refine Cx.sq ?_) | (refine Cx.rg ?_) | (refine Cx.bl ?_) | (refine Cx.sk ?_) | (refine Cx.rt ?_) | (refine Cx.ex ?_) | (refine Cx.yes rfl ?_) | (refine Cx.no rfl ?_) | (refine Sx.on rfl ?_) | (refine Sx.off rfl ?_) | (refine Sx.ldb rfl (by rfl) ?_) | (refine Sx.ldbs rfl rfl ?_) | (refine Sx.stb rfl rfl rfl rfl (by rfl) (by rfl) ?_) | (refine Sx.pv rfl trivial ?_) | (refine Sx.pk rfl rfl rfl ?_))
      rw [w64 (n := wd + 8) (by omega) (by omega)]
      refine Kjn.nm ⟨(w, c, wd + 8, sl, ca, ba), ?_⟩ (sub.cons rfl (sub.cons rfl (sub.cons rfl (sub.cons rfl sub.nil)))) (Ent.refl _)
      dsimp only
      refine ⟨?_, by omega, by omega, by omega, by omega, by omega⟩
      rcases hB.2.2.1 with rfl | rfl <;> refine ⟨by omega, by omega, by omega, by decide, by omega, by omega, by omega⟩
    · repeat' (first | (refine Sx.pvs rfl ?_) | (refine Sx.nil ?_) | (refine Krg.i ?_) | (refine Ksq.nm ?_) | (refine Ksq.rt ?_) | (refine Ksq.ex ?_) | (refine Kbl.nm ?_) | (refine Kbl.rt ?_) | (refine Kbl.hit rfl ?_) | (refine Kbl.miss rfl ?_) | (refine Klp.rt ?_) | (refine Klp.ex ?_) | (refine Cx.sq ?_) | (refine Cx.rg ?_) | (refine Cx.bl ?_) | (refine Cx.sk ?_) | (refine Cx.rt ?_) | (refine Cx.ex ?_) | (refine Cx.yes rfl ?_) | (refine Cx.no rfl ?_) | (refine Sx.on rfl ?_) | (refine Sx.off rfl ?_) | (refine Sx.ldb rfl (by rfl) ?_) | (refine Sx.ldbs rfl rfl ?_) | (refine Sx.stb rfl rfl rfl rfl (by rfl) (by rfl) ?_) | (refine Sx.pv rfl trivial ?_) | (refine Sx.pk rfl rfl rfl ?_))
      rw [w64 (n := sl + 1) (by omega) (by omega)]
      refine Kjn.nm ⟨(w, c, wd, sl + 1, ca, ba), ?_⟩ (sub.cons rfl (sub.cons rfl (sub.cons rfl (sub.cons rfl sub.nil)))) (Ent.refl _)
      dsimp only
      refine ⟨?_, by omega, by omega, by omega, by omega, by omega⟩
      rcases hB.2.2.1 with rfl | rfl <;> refine ⟨by omega, by omega, by omega, by decide, by omega, by omega, by omega⟩
    · repeat' (first | (refine Sx.pvs rfl ?_) | (refine Sx.nil ?_) | (refine Krg.i ?_) | (refine Ksq.nm ?_) | (refine Ksq.rt ?_) | (refine Ksq.ex ?_) | (refine Kbl.nm ?_) | (refine Kbl.rt ?_) | (refine Kbl.hit rfl ?_) | (refine Kbl.miss rfl ?_) | (refine Klp.rt ?_) | (refine Klp.ex ?_) | (refine Cx.sq ?_) | (refine Cx.rg ?_) | (refine Cx.bl ?_) | (refine Cx.sk ?_) | (refine Cx.rt ?_) | (refine Cx.ex ?_) | (refine Cx.yes rfl ?_) | (refine Cx.no rfl ?_) | (refine Sx.on rfl ?_) | (refine Sx.off rfl ?_) | (refine Sx.ldb rfl (by rfl) ?_) | (refine Sx.ldbs rfl rfl ?_) | (refine Sx.stb rfl rfl rfl rfl (by rfl) (by rfl) ?_) | (refine Sx.pv rfl trivial ?_) | (refine Sx.pk rfl rfl rfl ?_))
      rw [w64 (n := ca + 1) (by omega) (by omega)]
      refine Kjn.nm ⟨(w, c, wd, sl, ca + 1, ba), ?_⟩ (sub.cons rfl (sub.cons rfl (sub.cons rfl (sub.cons rfl sub.nil)))) (Ent.refl _)
      dsimp only
      refine ⟨?_, by omega, by omega, by omega, by omega, by omega⟩
      rcases hB.2.2.1 with rfl | rfl <;> refine ⟨by omega, by omega, by omega, by decide, by omega, by omega, by omega⟩
    · repeat' (first | (refine Sx.pvs rfl ?_) | (refine Sx.nil ?_) | (refine Krg.i ?_) | (refine Ksq.nm ?_) | (refine Ksq.rt ?_) | (refine Ksq.ex ?_) | (refine Kbl.nm ?_) | (refine Kbl.rt ?_) | (refine Kbl.hit rfl ?_) | (refine Kbl.miss rfl ?_) | (refine Klp.rt ?_) | (refine Klp.ex ?_) | (refine Cx.sq ?_) | (refine Cx.rg ?_) | (refine Cx.bl ?_) | (refine Cx.sk ?_) | (refine Cx.rt ?_) | (refine Cx.ex ?_) | (refine Cx.yes rfl ?_) | (refine Cx.no rfl ?_) | (refine Sx.on rfl ?_) | (refine Sx.off rfl ?_) | (refine Sx.ldb rfl (by rfl) ?_) | (refine Sx.ldbs rfl rfl ?_) | (refine Sx.stb rfl rfl rfl rfl (by rfl) (by rfl) ?_) | (refine Sx.pv rfl trivial ?_) | (refine Sx.pk rfl rfl rfl ?_))
      rw [w64 (n := ba + 1) (by omega) (by omega)]
      refine Kjn.nm ⟨(w, c, wd, sl, ca, ba + 1), ?_⟩ (sub.cons rfl (sub.cons rfl (sub.cons rfl (sub.cons rfl sub.nil)))) (Ent.refl _)
      dsimp only
      refine ⟨?_, by omega, by omega, by omega, by omega, by omega⟩
      rcases hB.2.2.1 with rfl | rfl <;> refine ⟨by omega, by omega, by omega, by decide, by omega, by omega, by omega⟩
  · rintro ⟨⟨w', c', wd', sl', ca', ba'⟩, hD⟩
    dsimp only at hD ⊢
    repeat' (first | (refine Sx.pvs rfl ?_) | (refine Sx.nil ?_) | (refine Krg.i ?_) | (refine Ksq.nm ?_) | (refine Ksq.rt ?_) | (refine Ksq.ex ?_) | (refine Kbl.nm ?_) | (refine Kbl.rt ?_) | (refine Kbl.hit rfl ?_) | (refine Kbl.miss rfl ?_) | (refine Klp.rt ?_) | (refine Klp.ex ?_) | (refine Cx.sq ?_) | (refine Cx.rg ?_) | (refine Cx.bl ?_) | (refine Cx.sk ?_) | (refine Cx.rt ?_) | (refine Cx.ex ?_) | (refine Cx.yes rfl ?_) | (refine Cx.no rfl ?_) | (refine Sx.on rfl ?_) | (refine Sx.off rfl ?_) | (refine Sx.ldb rfl (by rfl) ?_) | (refine Sx.ldbs rfl rfl ?_) | (refine Sx.stb rfl rfl rfl rfl (by rfl) (by rfl) ?_) | (refine Sx.pv rfl trivial ?_) | (refine Sx.pk rfl rfl rfl ?_))
    refine Cx.calm (by kernel_rfl) ?_
    repeat' (first | (refine Cm.pvs rfl ?_) | (refine Cm.step rfl ?_) | (refine Cm.done ?_) | (refine Cm.ldb rfl rfl (by rfl) ?_) | (refine Cm.ldbs rfl rfl rfl ?_))
    refine Cm.ca rfl rfl (kind_ w c wd sl ca ba k) ?_
    repeat' (first | (refine Cm.pvs rfl ?_) | (refine Cm.step rfl ?_) | (refine Cm.done ?_) | (refine Cm.ldb rfl rfl (by rfl) ?_) | (refine Cm.ldbs rfl rfl rfl ?_))
    rw [decide_eq_true (kind_bounds hM hk').1]
    repeat' (first | (refine Cm.pvs rfl ?_) | (refine Cm.step rfl ?_) | (refine Cm.done ?_) | (refine Cm.ldb rfl rfl (by rfl) ?_) | (refine Cm.ldbs rfl rfl rfl ?_))
    refine Cm.ca rfl rfl (kind_ w c wd sl ca ba k) ?_
    repeat' (first | (refine Cm.pvs rfl ?_) | (refine Cm.step rfl ?_) | (refine Cm.done ?_) | (refine Cm.ldb rfl rfl (by rfl) ?_) | (refine Cm.ldbs rfl rfl rfl ?_))
    refine Cm.ca rfl rfl (alone_ w c wd sl ca ba) ?_
    repeat' (first | (refine Cm.pvs rfl ?_) | (refine Cm.step rfl ?_) | (refine Cm.done ?_) | (refine Cm.ldb rfl rfl (by rfl) ?_) | (refine Cm.ldbs rfl rfl rfl ?_))
    rw [decide_eq_true (kind_bounds hM hk').2]
    repeat' (first | (refine Cm.pvs rfl ?_) | (refine Cm.step rfl ?_) | (refine Cm.done ?_) | (refine Cm.ldb rfl rfl (by rfl) ?_) | (refine Cm.ldbs rfl rfl rfl ?_))
    refine Cm.ca rfl rfl (alone_ w c wd sl ca ba) ?_
    repeat' (first | (refine Cm.pvs rfl ?_) | (refine Cm.step rfl ?_) | (refine Cm.done ?_) | (refine Cm.ldb rfl rfl (by rfl) ?_) | (refine Cm.ldbs rfl rfl rfl ?_))
    refine Cm.ca rfl rfl (most_ w c wd sl ca ba) ?_
    repeat' (first | (refine Cm.pvs rfl ?_) | (refine Cm.step rfl ?_) | (refine Cm.done ?_) | (refine Cm.ldb rfl rfl (by rfl) ?_) | (refine Cm.ldbs rfl rfl rfl ?_))
    rw [decide_eq_true (alone_most hS)]
    repeat' (first | (refine Cm.pvs rfl ?_) | (refine Cm.step rfl ?_) | (refine Cm.done ?_) | (refine Cm.ldb rfl rfl (by rfl) ?_) | (refine Cm.ldbs rfl rfl rfl ?_))
    refine Cm.ca rfl rfl (kind_ w' c' wd' sl' ca' ba' k) ?_
    repeat' (first | (refine Cm.pvs rfl ?_) | (refine Cm.step rfl ?_) | (refine Cm.done ?_) | (refine Cm.ldb rfl rfl (by rfl) ?_) | (refine Cm.ldbs rfl rfl rfl ?_))
    refine Cm.ca rfl rfl (kind_ w c wd sl ca ba k) ?_
    repeat' (first | (refine Cm.pvs rfl ?_) | (refine Cm.step rfl ?_) | (refine Cm.done ?_) | (refine Cm.ldb rfl rfl (by rfl) ?_) | (refine Cm.ldbs rfl rfl rfl ?_))
    rw [decide_eq_true (kind_more (k := k) hM hD)]
    repeat' (first | (refine Cm.pvs rfl ?_) | (refine Cm.step rfl ?_) | (refine Cm.done ?_) | (refine Cm.ldb rfl rfl (by rfl) ?_) | (refine Cm.ldbs rfl rfl rfl ?_))
    refine Cm.ca rfl rfl (alone_ w' c' wd' sl' ca' ba') ?_
    repeat' (first | (refine Cm.pvs rfl ?_) | (refine Cm.step rfl ?_) | (refine Cm.done ?_) | (refine Cm.ldb rfl rfl (by rfl) ?_) | (refine Cm.ldbs rfl rfl rfl ?_))
    refine Cm.ca rfl rfl (alone_ w c wd sl ca ba) ?_
    repeat' (first | (refine Cm.pvs rfl ?_) | (refine Cm.step rfl ?_) | (refine Cm.done ?_) | (refine Cm.ldb rfl rfl (by rfl) ?_) | (refine Cm.ldbs rfl rfl rfl ?_))
    rw [decide_eq_true (alone_more hM hD)]
    repeat' (first | (refine Cm.pvs rfl ?_) | (refine Cm.step rfl ?_) | (refine Cm.done ?_) | (refine Cm.ldb rfl rfl (by rfl) ?_) | (refine Cm.ldbs rfl rfl rfl ?_))
    refine Cm.ca rfl rfl (again_ w' c' wd' sl' ca' ba') ?_
    repeat' (first | (refine Cm.pvs rfl ?_) | (refine Cm.step rfl ?_) | (refine Cm.done ?_) | (refine Cm.ldb rfl rfl (by rfl) ?_) | (refine Cm.ldbs rfl rfl rfl ?_))
    refine Cm.ca rfl rfl (again_ w c wd sl ca ba) ?_
    repeat' (first | (refine Cm.pvs rfl ?_) | (refine Cm.step rfl ?_) | (refine Cm.done ?_) | (refine Cm.ldb rfl rfl (by rfl) ?_) | (refine Cm.ldbs rfl rfl rfl ?_))
    rw [decide_eq_true (again_more hM hD)]
    repeat' (first | (refine Cm.pvs rfl ?_) | (refine Cm.step rfl ?_) | (refine Cm.done ?_) | (refine Cm.ldb rfl rfl (by rfl) ?_) | (refine Cm.ldbs rfl rfl rfl ?_))
    refine Cm.ca rfl rfl (most_ w' c' wd' sl' ca' ba') ?_
    repeat' (first | (refine Cm.pvs rfl ?_) | (refine Cm.step rfl ?_) | (refine Cm.done ?_) | (refine Cm.ldb rfl rfl (by rfl) ?_) | (refine Cm.ldbs rfl rfl rfl ?_))
    refine Cm.ca rfl rfl (most_ w c wd sl ca ba) ?_
    repeat' (first | (refine Cm.pvs rfl ?_) | (refine Cm.step rfl ?_) | (refine Cm.done ?_) | (refine Cm.ldb rfl rfl (by rfl) ?_) | (refine Cm.ldbs rfl rfl rfl ?_))
    rw [decide_eq_true (most_more hS hD)]
    repeat' (first | (refine Cm.pvs rfl ?_) | (refine Cm.step rfl ?_) | (refine Cm.done ?_) | (refine Cm.ldb rfl rfl (by rfl) ?_) | (refine Cm.ldbs rfl rfl rfl ?_))
    refine Cm.ca rfl rfl (most_ w c wd sl ca ba) ?_
    repeat' (first | (refine Cm.pvs rfl ?_) | (refine Cm.step rfl ?_) | (refine Cm.done ?_) | (refine Cm.ldb rfl rfl (by rfl) ?_) | (refine Cm.ldbs rfl rfl rfl ?_))
    refine Cm.ca rfl rfl (alone_ w c wd sl ca ba) ?_
    repeat' (first | (refine Cm.pvs rfl ?_) | (refine Cm.step rfl ?_) | (refine Cm.done ?_) | (refine Cm.ldb rfl rfl (by rfl) ?_) | (refine Cm.ldbs rfl rfl rfl ?_))
    refine Cm.ca rfl rfl (again_ w c wd sl ca ba) ?_
    repeat' (first | (refine Cm.pvs rfl ?_) | (refine Cm.step rfl ?_) | (refine Cm.done ?_) | (refine Cm.ldb rfl rfl (by rfl) ?_) | (refine Cm.ldbs rfl rfl rfl ?_))
    rw [show decide (mostOf w c wd sl ca ba = IntKind.i64.wrap (w * IntKind.i64.wrap (aloneOf w c wd sl ca ba + IntKind.i64.wrap (IntKind.i64.wrap (3 * w) * againOf w c wd sl ca ba)))) = true from decide_eq_true rfl]
    repeat' (first | (refine Cm.pvs rfl ?_) | (refine Cm.step rfl ?_) | (refine Cm.done ?_) | (refine Cm.ldb rfl rfl (by rfl) ?_) | (refine Cm.ldbs rfl rfl rfl ?_))
    rw [w64 (n := 12 + k) (by omega) (by omega)]
    refine Cm.ca rfl rfl (kind_ w c wd sl ca ba (12 + k)) ?_
    rw [kindOf_far (k := 12 + k) (by omega)]
    repeat' (first | (refine Cm.pvs rfl ?_) | (refine Cm.step rfl ?_) | (refine Cm.done ?_) | (refine Cm.ldb rfl rfl (by rfl) ?_) | (refine Cm.ldbs rfl rfl rfl ?_))
    rw [w64 (n := 1 - k) (by omega) (by omega)]
    refine Cm.ca rfl rfl (kind_ w c wd sl ca ba (1 - k)) ?_
    rw [kindOf_far (k := 1 - k) (by omega)]
    repeat' (first | (refine Cm.pvs rfl ?_) | (refine Cm.step rfl ?_) | (refine Cm.done ?_) | (refine Cm.ldb rfl rfl (by rfl) ?_) | (refine Cm.ldbs rfl rfl rfl ?_))
    repeat' (first | (refine Sx.pvs rfl ?_) | (refine Sx.nil ?_) | (refine Krg.i ?_) | (refine Ksq.nm ?_) | (refine Ksq.rt ?_) | (refine Ksq.ex ?_) | (refine Kbl.nm ?_) | (refine Kbl.rt ?_) | (refine Kbl.hit rfl ?_) | (refine Kbl.miss rfl ?_) | (refine Klp.rt ?_) | (refine Klp.ex ?_) | (refine Cx.sq ?_) | (refine Cx.rg ?_) | (refine Cx.bl ?_) | (refine Cx.sk ?_) | (refine Cx.rt ?_) | (refine Cx.ex ?_) | (refine Cx.yes rfl ?_) | (refine Cx.no rfl ?_) | (refine Sx.on rfl ?_) | (refine Sx.off rfl ?_) | (refine Sx.ldb rfl (by rfl) ?_) | (refine Sx.ldbs rfl rfl ?_) | (refine Sx.stb rfl rfl rfl rfl (by rfl) (by rfl) ?_) | (refine Sx.pv rfl trivial ?_) | (refine Sx.pk rfl rfl rfl ?_))
    refine Kr.one (.inr rfl) rfl (Ent.refl _) ⟨by rfl, ?_⟩
    repeat (first | exact Ent.refl _ | (refine Ent.take1 ?_) | (refine Ent.trans Ent.drop ?_))
end
end Go.Proofs.Ytinomeobmpaakaa
