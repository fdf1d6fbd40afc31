/-
  The limbo's example, and LimboRefuses' walk.
-/
import Derived.Test.YtnbkjcmmjgkdaaaLiC
set_option linter.unusedVariables false
set_option linter.unusedSimpArgs false
namespace Go.Proofs.Ytnbkjcmmjgkdaaa
open Go
attribute [local irreducible] Sx Cx Rx Fx Krg Ksq Kbl Klp Kr

section
variable {L F : St}
end
end Go.Proofs.Ytnbkjcmmjgkdaaa
