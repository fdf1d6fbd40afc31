/-
  The limbo's contract: Open.
-/
import Derived.Test.YtnbkjcmmjgkdaaaGreatLiC
import Derived.Test.YtnbkjcmmjgkdaaaGreatSlM
set_option linter.unusedVariables false
set_option linter.unusedSimpArgs false
namespace Go.Proofs.YtnbkjcmmjgkdaaaGreat
open Go
attribute [local irreducible] Sx Cx Rx Fx Krg Ksq Kbl Klp Kr

section
variable {L F : St}
/-- The first open bucket, or none. -/
def firstOpen (now : Int) (m : Lm) : Int := if m.open_ now 0 then 0 else if m.open_ now 1 then 1 else if m.open_ now 2 then 2 else -1
/-- Are there any? -/
def anyOpen (now : Int) (m : Lm) : Bool := decide (2 ≤ now ∧ (m.open_ now 0 = true ∨ m.open_ now 1 = true ∨ m.open_ now 2 = true))
end
end Go.Proofs.YtnbkjcmmjgkdaaaGreat
