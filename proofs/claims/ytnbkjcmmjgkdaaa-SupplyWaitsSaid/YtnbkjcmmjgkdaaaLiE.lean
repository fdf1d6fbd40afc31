/-
  LimboRefuses' walk: no items, tags that are none, or less than one that was: nothing is taken in, nothing comes out.
-/
import Derived.Test.YtnbkjcmmjgkdaaaLiD
set_option linter.unusedVariables false
set_option linter.unusedSimpArgs false
namespace Go.Proofs.Ytnbkjcmmjgkdaaa
open Go
attribute [local irreducible] Sx Cx Rx Fx Krg Ksq Kbl Klp Kr

section
variable {L F : St}
/-- What one Retire into an empty limbo leaves. -/
theorem retire_nil (t item : Int) : (retireM Lm.nil t [item]).last = t ∧ (retireM Lm.nil t [item]).items (bucketOf t) = [item] ∧ (retireM Lm.nil t [item]).tag (bucketOf t) = t ∧ (retireM Lm.nil t [item]).size = 1 ∧ outM Lm.nil t = [] := by
  have hlt : bucketOf t < 3 := Nat.mod_lt _ (by omega)
  have h0 : ∀ k, Lm.nil.items k = [] := fun k => by unfold Lm.items Lm.nil; split <;> rfl
  unfold retireM outM
  rw [h0, ite_self, List.nil_append]
  generalize bucketOf t = k at *
  rcases (show k = 0 ∨ k = 1 ∨ k = 2 by omega) with rfl | rfl | rfl <;> exact ⟨rfl, rfl, rfl, rfl, rfl⟩
end
end Go.Proofs.Ytnbkjcmmjgkdaaa
