/-
  No cell of these rows narrows 'for every input' (looked for: loops, veiled, ifaces, maps, wideKeys, modest, calm, conditions, laid).
  DERIVED. THE GIVEN ROWS OF THIS SEAT. 10 by the template 'for every input the law returns true; each argument reads behind the call as it read before'; 0 by the template 'total and deterministic' (their statements: YtinomeobmpaakaaTotals.lean).
  GIVEN WITH THE SEED: the statements are not yours to turn. If you find one false, say at which input.
  Laid BY PROGRAM, IN A SANDBOX (cutbox-rows.mjs): the forced cells as the released guide's own fill.sh prints them over the translation 8ce6d43565ab4137… (all of the seat's roots in one cut). By AI agents, Wed Nov 11 2026. No macro, syntax, notation, axiom, sorry.
-/
import Derived.Test.YtinomeobmpaakaaChecked
import GoSem.Claim
import GoSem.ClaimJoined
import GoSem.ClaimMapViews
import Derived.JoinedTies
import Derived.KernelRfl
namespace Go.Proofs.Ytinomeobmpaakaa
/- THE CELL 'sum', in the pinned program and in every row, IS THE sha256 OF THE DUMP (.gsa) THAT YtinomeobmpaakaaProg.lean LOADS. Nothing in Lean hashes anything: it is a label: what it is worth is what the hold of that sum in a sandbox is worth. -/
noncomputable def Try.pinned : Pinned := { name := "ytinomeobmpaakaa", sum := "8ce6d43565ab41374d55deaa79395a853629b2e5b199531fc3e5077a726ea642", checked := Try.checked }
namespace Rows
def none {H : Type} : Left H := { results := [], args := [] }

/-- 'rundalelaw8.StashCuts': WHATEVER THE INPUT: true; the input reads as it did. -/
def stashCutsSpec : ChangeSpec := { name := "stashCuts", fn := fun _ => fun
  | [d1, d2] => { results := [.lit (.bool true)], args := [d1, d2] }
  | _ => none }
def stashCutsRow : OpenClaim := { program := "ytinomeobmpaakaa", sum := "8ce6d43565ab41374d55deaa79395a853629b2e5b199531fc3e5077a726ea642", func := "rundale/rundalelaw8.StashCuts", spec := "stashCuts", apart := false }
def StashCutsSaid : Prop := stashCutsRow.holds Try.pinned (OpenSpec.ofChange stashCutsSpec)

/-- ITS FALSE NEIGHBOUR: 'it returns false'. Refute it at one input. -/
def stashCutsWrong : ChangeSpec := { name := "stashCuts", fn := fun _ => fun
  | [d1, d2] => { results := [.lit (.bool false)], args := [d1, d2] }
  | _ => none }
def StashCutsWrongFalsely : Prop := stashCutsRow.holds Try.pinned (OpenSpec.ofChange stashCutsWrong)

/-- 'rundalelaw8.StashBack': WHATEVER THE INPUT: true; the input reads as it did. -/
def stashBackSpec : ChangeSpec := { name := "stashBack", fn := fun _ => fun
  | [d1, d2, d3] => { results := [.lit (.bool true)], args := [d1, d2, d3] }
  | _ => none }
def stashBackRow : OpenClaim := { program := "ytinomeobmpaakaa", sum := "8ce6d43565ab41374d55deaa79395a853629b2e5b199531fc3e5077a726ea642", func := "rundale/rundalelaw8.StashBack", spec := "stashBack", apart := false }
def StashBackSaid : Prop := stashBackRow.holds Try.pinned (OpenSpec.ofChange stashBackSpec)

/-- ITS FALSE NEIGHBOUR: 'it returns false'. Refute it at one input. -/
def stashBackWrong : ChangeSpec := { name := "stashBack", fn := fun _ => fun
  | [d1, d2, d3] => { results := [.lit (.bool false)], args := [d1, d2, d3] }
  | _ => none }
def StashBackWrongFalsely : Prop := stashBackRow.holds Try.pinned (OpenSpec.ofChange stashBackWrong)

/-- 'rundalelaw8.StashPlays': WHATEVER THE INPUT: true; the input reads as it did. -/
def stashPlaysSpec : ChangeSpec := { name := "stashPlays", fn := fun _ => fun
  | [d1, d2] => { results := [.lit (.bool true)], args := [d1, d2] }
  | _ => none }
def stashPlaysRow : OpenClaim := { program := "ytinomeobmpaakaa", sum := "8ce6d43565ab41374d55deaa79395a853629b2e5b199531fc3e5077a726ea642", func := "rundale/rundalelaw8.StashPlays", spec := "stashPlays", apart := false }
def StashPlaysSaid : Prop := stashPlaysRow.holds Try.pinned (OpenSpec.ofChange stashPlaysSpec)

/-- ITS FALSE NEIGHBOUR: 'it returns false'. Refute it at one input. -/
def stashPlaysWrong : ChangeSpec := { name := "stashPlays", fn := fun _ => fun
  | [d1, d2] => { results := [.lit (.bool false)], args := [d1, d2] }
  | _ => none }
def StashPlaysWrongFalsely : Prop := stashPlaysRow.holds Try.pinned (OpenSpec.ofChange stashPlaysWrong)

/-- 'rundalelaw8.StashLots': WHATEVER THE INPUT: true; the input reads as it did. -/
def stashLotsSpec : ChangeSpec := { name := "stashLots", fn := fun _ => fun
  | [d1, d2] => { results := [.lit (.bool true)], args := [d1, d2] }
  | _ => none }
def stashLotsRow : OpenClaim := { program := "ytinomeobmpaakaa", sum := "8ce6d43565ab41374d55deaa79395a853629b2e5b199531fc3e5077a726ea642", func := "rundale/rundalelaw8.StashLots", spec := "stashLots", apart := false }
def StashLotsSaid : Prop := stashLotsRow.holds Try.pinned (OpenSpec.ofChange stashLotsSpec)

/-- ITS FALSE NEIGHBOUR: 'it returns false'. Refute it at one input. -/
def stashLotsWrong : ChangeSpec := { name := "stashLots", fn := fun _ => fun
  | [d1, d2] => { results := [.lit (.bool false)], args := [d1, d2] }
  | _ => none }
def StashLotsWrongFalsely : Prop := stashLotsRow.holds Try.pinned (OpenSpec.ofChange stashLotsWrong)

/-- 'rundalelaw28.BoundSays': WHATEVER THE INPUT: true; the input reads as it did. -/
def boundSaysSpec : ChangeSpec := { name := "boundSays", fn := fun _ => fun
  | [d1, d2] => { results := [.lit (.bool true)], args := [d1, d2] }
  | _ => none }
def boundSaysRow : OpenClaim := { program := "ytinomeobmpaakaa", sum := "8ce6d43565ab41374d55deaa79395a853629b2e5b199531fc3e5077a726ea642", func := "rundale/rundalelaw28.BoundSays", spec := "boundSays", apart := false }
def BoundSaysSaid : Prop := boundSaysRow.holds Try.pinned (OpenSpec.ofChange boundSaysSpec)

/-- ITS FALSE NEIGHBOUR: 'it returns false'. Refute it at one input. -/
def boundSaysWrong : ChangeSpec := { name := "boundSays", fn := fun _ => fun
  | [d1, d2] => { results := [.lit (.bool false)], args := [d1, d2] }
  | _ => none }
def BoundSaysWrongFalsely : Prop := boundSaysRow.holds Try.pinned (OpenSpec.ofChange boundSaysWrong)

/-- 'rundalelaw28.BoundKinds': WHATEVER THE INPUT: true; the input reads as it did. -/
def boundKindsSpec : ChangeSpec := { name := "boundKinds", fn := fun _ => fun
  | [d1, d2, d3] => { results := [.lit (.bool true)], args := [d1, d2, d3] }
  | _ => none }
def boundKindsRow : OpenClaim := { program := "ytinomeobmpaakaa", sum := "8ce6d43565ab41374d55deaa79395a853629b2e5b199531fc3e5077a726ea642", func := "rundale/rundalelaw28.BoundKinds", spec := "boundKinds", apart := false }
def BoundKindsSaid : Prop := boundKindsRow.holds Try.pinned (OpenSpec.ofChange boundKindsSpec)

/-- ITS FALSE NEIGHBOUR: 'it returns false'. Refute it at one input. -/
def boundKindsWrong : ChangeSpec := { name := "boundKinds", fn := fun _ => fun
  | [d1, d2, d3] => { results := [.lit (.bool false)], args := [d1, d2, d3] }
  | _ => none }
def BoundKindsWrongFalsely : Prop := boundKindsRow.holds Try.pinned (OpenSpec.ofChange boundKindsWrong)

/-- 'rundalelaw7.LimboOnce': WHATEVER THE INPUT: true; the input reads as it did. -/
def limboOnceSpec : ChangeSpec := { name := "limboOnce", fn := fun _ => fun
  | [d] => { results := [.lit (.bool true)], args := [d] }
  | _ => none }
def limboOnceRow : OpenClaim := { program := "ytinomeobmpaakaa", sum := "8ce6d43565ab41374d55deaa79395a853629b2e5b199531fc3e5077a726ea642", func := "rundale/rundalelaw7.LimboOnce", spec := "limboOnce", apart := false }
def LimboOnceSaid : Prop := limboOnceRow.holds Try.pinned (OpenSpec.ofChange limboOnceSpec)

/-- ITS FALSE NEIGHBOUR: 'it returns false'. Refute it at one input. -/
def limboOnceWrong : ChangeSpec := { name := "limboOnce", fn := fun _ => fun
  | [d] => { results := [.lit (.bool false)], args := [d] }
  | _ => none }
def LimboOnceWrongFalsely : Prop := limboOnceRow.holds Try.pinned (OpenSpec.ofChange limboOnceWrong)

/-- 'rundalelaw7.LimboOrder': WHATEVER THE INPUT: true; the input reads as it did. -/
def limboOrderSpec : ChangeSpec := { name := "limboOrder", fn := fun _ => fun
  | [d1, d2, d3, d4, d5] => { results := [.lit (.bool true)], args := [d1, d2, d3, d4, d5] }
  | _ => none }
def limboOrderRow : OpenClaim := { program := "ytinomeobmpaakaa", sum := "8ce6d43565ab41374d55deaa79395a853629b2e5b199531fc3e5077a726ea642", func := "rundale/rundalelaw7.LimboOrder", spec := "limboOrder", unfollowed := true, recurses := true, apart := false }
def LimboOrderSaid : Prop := limboOrderRow.holds Try.pinned (OpenSpec.ofChange limboOrderSpec)

/-- ITS FALSE NEIGHBOUR: 'it returns false'. Refute it at one input. -/
def limboOrderWrong : ChangeSpec := { name := "limboOrder", fn := fun _ => fun
  | [d1, d2, d3, d4, d5] => { results := [.lit (.bool false)], args := [d1, d2, d3, d4, d5] }
  | _ => none }
def LimboOrderWrongFalsely : Prop := limboOrderRow.holds Try.pinned (OpenSpec.ofChange limboOrderWrong)

/-- 'rundalelaw7.LimboRefuses': WHATEVER THE INPUT: true; the input reads as it did. -/
def limboRefusesSpec : ChangeSpec := { name := "limboRefuses", fn := fun _ => fun
  | [d1, d2, d3] => { results := [.lit (.bool true)], args := [d1, d2, d3] }
  | _ => none }
def limboRefusesRow : OpenClaim := { program := "ytinomeobmpaakaa", sum := "8ce6d43565ab41374d55deaa79395a853629b2e5b199531fc3e5077a726ea642", func := "rundale/rundalelaw7.LimboRefuses", spec := "limboRefuses", apart := false }
def LimboRefusesSaid : Prop := limboRefusesRow.holds Try.pinned (OpenSpec.ofChange limboRefusesSpec)

/-- ITS FALSE NEIGHBOUR: 'it returns false'. Refute it at one input. -/
def limboRefusesWrong : ChangeSpec := { name := "limboRefuses", fn := fun _ => fun
  | [d1, d2, d3] => { results := [.lit (.bool false)], args := [d1, d2, d3] }
  | _ => none }
def LimboRefusesWrongFalsely : Prop := limboRefusesRow.holds Try.pinned (OpenSpec.ofChange limboRefusesWrong)

/-- 'rundalelaw7.LimboPlays': WHATEVER THE INPUT: true; the input reads as it did. -/
def limboPlaysSpec : ChangeSpec := { name := "limboPlays", fn := fun _ => fun
  | [d] => { results := [.lit (.bool true)], args := [d] }
  | _ => none }
def limboPlaysRow : OpenClaim := { program := "ytinomeobmpaakaa", sum := "8ce6d43565ab41374d55deaa79395a853629b2e5b199531fc3e5077a726ea642", func := "rundale/rundalelaw7.LimboPlays", spec := "limboPlays", unfollowed := true, recurses := true, apart := false }
def LimboPlaysSaid : Prop := limboPlaysRow.holds Try.pinned (OpenSpec.ofChange limboPlaysSpec)

/-- ITS FALSE NEIGHBOUR: 'it returns false'. Refute it at one input. -/
def limboPlaysWrong : ChangeSpec := { name := "limboPlays", fn := fun _ => fun
  | [d] => { results := [.lit (.bool false)], args := [d] }
  | _ => none }
def LimboPlaysWrongFalsely : Prop := limboPlaysRow.holds Try.pinned (OpenSpec.ofChange limboPlaysWrong)

/- THE SECOND FORM. 'bulk': how many values and letters a reading holds, each counted each time it is reached (what is shared counts as often as it is met; a slice's spare places count too). A statement '..UptoSaid' is the law's where the arguments, and the package variables that the reading takes, are together of bulk at most 1048576: NARROWER than '..Said'. Prove '..Said' where nothing that the law and all that it calls make is longer than what came in: it says more and counts as full. Else prove '..UptoSaid'. A law counts once. -/
mutual
def uptoBulk {H : Type} : DataW H → Nat
  | .lit (.string bytes) => bytes.length + 1
  | .lit _ => 1
  | .nil => 1
  | .ptr d => uptoBulk d + 1
  | .slice elems spare => uptoBulkAll elems + uptoBulkAll spare + 1
  | .agg parts => uptoBulkAll parts + 1
  | .iface _ d => uptoBulk d + 1
  | .map entries => uptoBulkEntries entries + 1
  | .held _ => 1
def uptoBulkAll {H : Type} : List (DataW H) → Nat
  | [] => 0
  | d :: r => uptoBulk d + uptoBulkAll r
def uptoBulkEntries {H : Type} : List (Lit × DataW H) → Nat
  | [] => 0
  | x :: r => uptoBulkEntry x + uptoBulkEntries r
def uptoBulkEntry {H : Type} : Lit × DataW H → Nat
  | (.string bytes, d) => bytes.length + uptoBulk d + 1
  | (_, d) => uptoBulk d + 1
 end
def uptoSmall : (H : Type) → List (DataW H) → Bool := fun _ ds => decide (uptoBulkAll ds ≤ 1048576)
def OpenSpec.upto (s : _root_.Go.ChangeSpec) : _root_.Go.OpenSpec := { _root_.Go.OpenSpec.ofChange s with cond := some uptoSmall }

/-- 'rundalelaw8.StashCuts', WHERE WHAT IT READS IS OF BULK AT MOST 1048576: true; the input reads as it did. -/
def stashCutsUptoRow : OpenClaim := { program := "ytinomeobmpaakaa", sum := "8ce6d43565ab41374d55deaa79395a853629b2e5b199531fc3e5077a726ea642", func := "rundale/rundalelaw8.StashCuts", spec := "stashCuts", apart := false, narrowed := true }
def StashCutsUptoSaid : Prop := stashCutsUptoRow.holds Try.pinned (OpenSpec.upto stashCutsSpec)

/-- 'rundalelaw8.StashBack', WHERE WHAT IT READS IS OF BULK AT MOST 1048576: true; the input reads as it did. -/
def stashBackUptoRow : OpenClaim := { program := "ytinomeobmpaakaa", sum := "8ce6d43565ab41374d55deaa79395a853629b2e5b199531fc3e5077a726ea642", func := "rundale/rundalelaw8.StashBack", spec := "stashBack", apart := false, narrowed := true }
def StashBackUptoSaid : Prop := stashBackUptoRow.holds Try.pinned (OpenSpec.upto stashBackSpec)

/-- 'rundalelaw8.StashPlays', WHERE WHAT IT READS IS OF BULK AT MOST 1048576: true; the input reads as it did. -/
def stashPlaysUptoRow : OpenClaim := { program := "ytinomeobmpaakaa", sum := "8ce6d43565ab41374d55deaa79395a853629b2e5b199531fc3e5077a726ea642", func := "rundale/rundalelaw8.StashPlays", spec := "stashPlays", apart := false, narrowed := true }
def StashPlaysUptoSaid : Prop := stashPlaysUptoRow.holds Try.pinned (OpenSpec.upto stashPlaysSpec)

/-- 'rundalelaw8.StashLots', WHERE WHAT IT READS IS OF BULK AT MOST 1048576: true; the input reads as it did. -/
def stashLotsUptoRow : OpenClaim := { program := "ytinomeobmpaakaa", sum := "8ce6d43565ab41374d55deaa79395a853629b2e5b199531fc3e5077a726ea642", func := "rundale/rundalelaw8.StashLots", spec := "stashLots", apart := false, narrowed := true }
def StashLotsUptoSaid : Prop := stashLotsUptoRow.holds Try.pinned (OpenSpec.upto stashLotsSpec)

/-- 'rundalelaw28.BoundSays', WHERE WHAT IT READS IS OF BULK AT MOST 1048576: true; the input reads as it did. -/
def boundSaysUptoRow : OpenClaim := { program := "ytinomeobmpaakaa", sum := "8ce6d43565ab41374d55deaa79395a853629b2e5b199531fc3e5077a726ea642", func := "rundale/rundalelaw28.BoundSays", spec := "boundSays", apart := false, narrowed := true }
def BoundSaysUptoSaid : Prop := boundSaysUptoRow.holds Try.pinned (OpenSpec.upto boundSaysSpec)

/-- 'rundalelaw28.BoundKinds', WHERE WHAT IT READS IS OF BULK AT MOST 1048576: true; the input reads as it did. -/
def boundKindsUptoRow : OpenClaim := { program := "ytinomeobmpaakaa", sum := "8ce6d43565ab41374d55deaa79395a853629b2e5b199531fc3e5077a726ea642", func := "rundale/rundalelaw28.BoundKinds", spec := "boundKinds", apart := false, narrowed := true }
def BoundKindsUptoSaid : Prop := boundKindsUptoRow.holds Try.pinned (OpenSpec.upto boundKindsSpec)

/-- 'rundalelaw7.LimboOnce', WHERE WHAT IT READS IS OF BULK AT MOST 1048576: true; the input reads as it did. -/
def limboOnceUptoRow : OpenClaim := { program := "ytinomeobmpaakaa", sum := "8ce6d43565ab41374d55deaa79395a853629b2e5b199531fc3e5077a726ea642", func := "rundale/rundalelaw7.LimboOnce", spec := "limboOnce", apart := false, narrowed := true }
def LimboOnceUptoSaid : Prop := limboOnceUptoRow.holds Try.pinned (OpenSpec.upto limboOnceSpec)

/-- 'rundalelaw7.LimboOrder', WHERE WHAT IT READS IS OF BULK AT MOST 1048576: true; the input reads as it did. -/
def limboOrderUptoRow : OpenClaim := { program := "ytinomeobmpaakaa", sum := "8ce6d43565ab41374d55deaa79395a853629b2e5b199531fc3e5077a726ea642", func := "rundale/rundalelaw7.LimboOrder", spec := "limboOrder", unfollowed := true, recurses := true, apart := false, narrowed := true }
def LimboOrderUptoSaid : Prop := limboOrderUptoRow.holds Try.pinned (OpenSpec.upto limboOrderSpec)

/-- 'rundalelaw7.LimboRefuses', WHERE WHAT IT READS IS OF BULK AT MOST 1048576: true; the input reads as it did. -/
def limboRefusesUptoRow : OpenClaim := { program := "ytinomeobmpaakaa", sum := "8ce6d43565ab41374d55deaa79395a853629b2e5b199531fc3e5077a726ea642", func := "rundale/rundalelaw7.LimboRefuses", spec := "limboRefuses", apart := false, narrowed := true }
def LimboRefusesUptoSaid : Prop := limboRefusesUptoRow.holds Try.pinned (OpenSpec.upto limboRefusesSpec)

/-- 'rundalelaw7.LimboPlays', WHERE WHAT IT READS IS OF BULK AT MOST 1048576: true; the input reads as it did. -/
def limboPlaysUptoRow : OpenClaim := { program := "ytinomeobmpaakaa", sum := "8ce6d43565ab41374d55deaa79395a853629b2e5b199531fc3e5077a726ea642", func := "rundale/rundalelaw7.LimboPlays", spec := "limboPlays", unfollowed := true, recurses := true, apart := false, narrowed := true }
def LimboPlaysUptoSaid : Prop := limboPlaysUptoRow.holds Try.pinned (OpenSpec.upto limboPlaysSpec)

end Rows
end Go.Proofs.Ytinomeobmpaakaa
