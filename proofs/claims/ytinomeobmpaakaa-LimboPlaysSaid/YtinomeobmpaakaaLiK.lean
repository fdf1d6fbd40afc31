/-
  LimboOrder's law, in plain words: three tags in a row, each with its items or with none; what is ready comes by tags rising.
-/
import Derived.Test.YtinomeobmpaakaaLiG
import Derived.Test.YtinomeobmpaakaaLiF
set_option linter.unusedVariables false
set_option linter.unusedSimpArgs false
namespace Go.Proofs.Ytinomeobmpaakaa
open Go

/-- One step: nothing, or items under a tag in a bucket that is empty. -/
def putO (m : Lm) (b : Nat) (tag : Int) (ys : List Int) : Lm := if ys = [] then m else { m.put b tag ys with last := tag }
set_option maxHeartbeats 8000000 in
theorem order_core {T0 T1 T2 now : Int} {x0 x1 x2 : List Int} {o0 o1 o2 : Bool} (h2 : o0 = true ∨ o1 = true ∨ o2 = true → 2 ≤ now)
    (h01 : T0 < T1) (h12 : T1 < T2) (e0 : openM now T0 x0 = (decide (x0 ≠ []) && o0)) (e1 : openM now T1 x1 = (decide (x1 ≠ []) && o1)) (e2 : openM now T2 x2 = (decide (x2 ≠ []) && o2))
    (b0 b1 b2 : Nat) (hb : (b0 = 0 ∧ b1 = 1 ∧ b2 = 2) ∨ (b0 = 1 ∧ b1 = 2 ∧ b2 = 0) ∨ (b0 = 2 ∧ b1 = 0 ∧ b2 = 1)) :
    let m := putO (putO (putO Lm.nil b0 T0 x0) b1 T1 x1) b2 T2 x2
    let want := (if o0 then x0 else []) ++ ((if o1 then x1 else []) ++ (if o2 then x2 else []))
    (readyAll now m).1 = want ∧ anyOpen now m = decide (0 < want.length) ∧ anyOpen now (readyAll now m).2 = false ∧ (readyAll now m).2.size + want.length = x0.length + x1.length + x2.length := by
  have h02 : T0 < T2 := by omega
  have n10 : ¬ T1 < T0 := by omega
  have n21 : ¬ T2 < T1 := by omega
  have n20 : ¬ T2 < T0 := by omega
  have z0 : openM now 0 [] = false := by simp [openM]
  rcases hb with ⟨rfl, rfl, rfl⟩ | ⟨rfl, rfl, rfl⟩ | ⟨rfl, rfl, rfl⟩ <;>
  (by_cases hx0 : x0 = [] <;> by_cases hx1 : x1 = [] <;> by_cases hx2 : x2 = [] <;> cases o0 <;> cases o1 <;> cases o2 <;>
    simp [putO, Lm.nil, Lm.put, readyAll, readyM, leastUp, Lm.open_, Lm.tag, Lm.items, Lm.cnt, one, anyOpen, Lm.size, *] <;> (try first | omega | (have q1 := List.length_pos_iff.2 hx1; omega) | (have q0 := List.length_pos_iff.2 hx0; omega) | (have q2 := List.length_pos_iff.2 hx2; omega)))
end Go.Proofs.Ytinomeobmpaakaa
