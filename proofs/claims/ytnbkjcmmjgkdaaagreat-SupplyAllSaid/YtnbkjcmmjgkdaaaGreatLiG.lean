/-
  What a limbo's Ready hands out, in plain words: the items of the open buckets, once each; the other buckets stay.
-/
import Derived.Test.YtnbkjcmmjgkdaaaGreatLiC
set_option linter.unusedVariables false
set_option linter.unusedSimpArgs false
namespace Go.Proofs.YtnbkjcmmjgkdaaaGreat
open Go

end Go.Proofs.YtnbkjcmmjgkdaaaGreat
