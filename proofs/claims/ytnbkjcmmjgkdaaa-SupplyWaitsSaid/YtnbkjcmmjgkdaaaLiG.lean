/-
  What a limbo's Ready hands out, in plain words: the items of the open buckets, once each; the other buckets stay.
-/
import Derived.Test.YtnbkjcmmjgkdaaaLiC
set_option linter.unusedVariables false
set_option linter.unusedSimpArgs false
namespace Go.Proofs.Ytnbkjcmmjgkdaaa
open Go

end Go.Proofs.Ytnbkjcmmjgkdaaa
