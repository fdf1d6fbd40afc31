/-
  No cell of these rows narrows 'for every input' (looked for: loops, veiled, ifaces, maps, wideKeys, modest, calm, conditions, laid).
  DERIVED. THE GIVEN ROWS OF THIS SEAT. 3 by the template 'for every input the law returns true; each argument reads behind the call as it read before'; 0 by the template 'total and deterministic' (their statements: YtggnbdeokmdjbaaGreatTotals.lean).
  GIVEN WITH THE SEED: the statements are not yours to turn. If you find one false, say at which input.
  Laid BY PROGRAM, IN A SANDBOX (cutbox-rows.mjs): the forced cells as the released guide's own fill.sh prints them over the translation abd488aff7041547… (all of the seat's roots in one cut). By AI agents, Wed Nov 11 2026. No macro, syntax, notation, axiom, sorry.
-/
import Derived.Test.YtggnbdeokmdjbaaGreatChecked
import GoSem.Claim
import GoSem.ClaimJoined
import GoSem.ClaimMapViews
import Derived.JoinedTies
import Derived.KernelRfl
namespace Go.Proofs.YtggnbdeokmdjbaaGreat
/- THE CELL 'sum', in the pinned program and in every row, IS THE sha256 OF THE DUMP (.gsa) THAT YtggnbdeokmdjbaaGreatProg.lean LOADS. Nothing in Lean hashes anything: it is a label: what it is worth is what the hold of that sum in a sandbox is worth. -/
noncomputable def Tryz.pinned : Pinned := { name := "ytggnbdeokmdjbaagreat", sum := "abd488aff70415474516bfcba9da37d0bb4716c21f19baf898f101dbf49da114", checked := Tryz.checked }
namespace Rows
def none {H : Type} : Left H := { results := [], args := [] }

/-- 'rundalelaw13.SupplyPlays': WHATEVER THE INPUT: true; the input reads as it did. -/
def supplyPlaysSpec : ChangeSpec := { name := "supplyPlays", fn := fun _ => fun
  | [d1, d2] => { results := [.lit (.bool true)], args := [d1, d2] }
  | _ => none }
def supplyPlaysRow : OpenClaim := { program := "ytggnbdeokmdjbaagreat", sum := "abd488aff70415474516bfcba9da37d0bb4716c21f19baf898f101dbf49da114", func := "rundale/rundalelaw13.SupplyPlays", spec := "supplyPlays", unfollowed := true, recurses := true, apart := false }
def SupplyPlaysSaid : Prop := supplyPlaysRow.holds Tryz.pinned (OpenSpec.ofChange supplyPlaysSpec)

/-- ITS FALSE NEIGHBOUR: 'it returns false'. Refute it at one input. -/
def supplyPlaysWrong : ChangeSpec := { name := "supplyPlays", fn := fun _ => fun
  | [d1, d2] => { results := [.lit (.bool false)], args := [d1, d2] }
  | _ => none }
def SupplyPlaysWrongFalsely : Prop := supplyPlaysRow.holds Tryz.pinned (OpenSpec.ofChange supplyPlaysWrong)

/-- 'rundalelaw17.GatherPlays': WHATEVER THE INPUT: true; the input reads as it did. -/
def gatherPlaysSpec : ChangeSpec := { name := "gatherPlays", fn := fun _ => fun
  | [d1, d2] => { results := [.lit (.bool true)], args := [d1, d2] }
  | _ => none }
def gatherPlaysRow : OpenClaim := { program := "ytggnbdeokmdjbaagreat", sum := "abd488aff70415474516bfcba9da37d0bb4716c21f19baf898f101dbf49da114", func := "rundale/rundalelaw17.GatherPlays", spec := "gatherPlays", unfollowed := true, recurses := true, apart := false }
def GatherPlaysSaid : Prop := gatherPlaysRow.holds Tryz.pinned (OpenSpec.ofChange gatherPlaysSpec)

/-- ITS FALSE NEIGHBOUR: 'it returns false'. Refute it at one input. -/
def gatherPlaysWrong : ChangeSpec := { name := "gatherPlays", fn := fun _ => fun
  | [d1, d2] => { results := [.lit (.bool false)], args := [d1, d2] }
  | _ => none }
def GatherPlaysWrongFalsely : Prop := gatherPlaysRow.holds Tryz.pinned (OpenSpec.ofChange gatherPlaysWrong)

/-- 'rundalelaw15.EndingPlays': WHATEVER THE INPUT: true; the input reads as it did. -/
def endingPlaysSpec : ChangeSpec := { name := "endingPlays", fn := fun _ => fun
  | [d1, d2] => { results := [.lit (.bool true)], args := [d1, d2] }
  | _ => none }
def endingPlaysRow : OpenClaim := { program := "ytggnbdeokmdjbaagreat", sum := "abd488aff70415474516bfcba9da37d0bb4716c21f19baf898f101dbf49da114", func := "rundale/rundalelaw15.EndingPlays", spec := "endingPlays", unfollowed := true, recurses := true, apart := false }
def EndingPlaysSaid : Prop := endingPlaysRow.holds Tryz.pinned (OpenSpec.ofChange endingPlaysSpec)

/-- ITS FALSE NEIGHBOUR: 'it returns false'. Refute it at one input. -/
def endingPlaysWrong : ChangeSpec := { name := "endingPlays", fn := fun _ => fun
  | [d1, d2] => { results := [.lit (.bool false)], args := [d1, d2] }
  | _ => none }
def EndingPlaysWrongFalsely : Prop := endingPlaysRow.holds Tryz.pinned (OpenSpec.ofChange endingPlaysWrong)

/- THE SECOND FORM. 'bulk': how many values and letters a reading holds, each counted each time it is reached (what is shared counts as often as it is met; a slice's spare places count too). A statement '..UptoSaid' is the law's where the arguments, and the package variables that the reading takes, are together of bulk at most 1048576: NARROWER than '..Said'. Prove '..Said' where nothing that the law and all that it calls make is longer than what came in: it says more and counts as full. Else prove '..UptoSaid'. A law counts once. -/
mutual
def uptoBulk {H : Type} : DataW H → Nat
  | .lit (.string bytes) => bytes.length + 1
  | .lit _ => 1
  | .nil => 1
  | .ptr d => uptoBulk d + 1
  | .slice elems spare => uptoBulkAll elems + uptoBulkAll spare + 1
  | .agg parts => uptoBulkAll parts + 1
  | .iface _ d => uptoBulk d + 1
  | .map entries => uptoBulkEntries entries + 1
  | .held _ => 1
def uptoBulkAll {H : Type} : List (DataW H) → Nat
  | [] => 0
  | d :: r => uptoBulk d + uptoBulkAll r
def uptoBulkEntries {H : Type} : List (Lit × DataW H) → Nat
  | [] => 0
  | x :: r => uptoBulkEntry x + uptoBulkEntries r
def uptoBulkEntry {H : Type} : Lit × DataW H → Nat
  | (.string bytes, d) => bytes.length + uptoBulk d + 1
  | (_, d) => uptoBulk d + 1
 end
def uptoSmall : (H : Type) → List (DataW H) → Bool := fun _ ds => decide (uptoBulkAll ds ≤ 1048576)
def OpenSpec.upto (s : _root_.Go.ChangeSpec) : _root_.Go.OpenSpec := { _root_.Go.OpenSpec.ofChange s with cond := some uptoSmall }

/-- 'rundalelaw13.SupplyPlays', WHERE WHAT IT READS IS OF BULK AT MOST 1048576: true; the input reads as it did. -/
def supplyPlaysUptoRow : OpenClaim := { program := "ytggnbdeokmdjbaagreat", sum := "abd488aff70415474516bfcba9da37d0bb4716c21f19baf898f101dbf49da114", func := "rundale/rundalelaw13.SupplyPlays", spec := "supplyPlays", unfollowed := true, recurses := true, apart := false, narrowed := true }
def SupplyPlaysUptoSaid : Prop := supplyPlaysUptoRow.holds Tryz.pinned (OpenSpec.upto supplyPlaysSpec)

/-- 'rundalelaw17.GatherPlays', WHERE WHAT IT READS IS OF BULK AT MOST 1048576: true; the input reads as it did. -/
def gatherPlaysUptoRow : OpenClaim := { program := "ytggnbdeokmdjbaagreat", sum := "abd488aff70415474516bfcba9da37d0bb4716c21f19baf898f101dbf49da114", func := "rundale/rundalelaw17.GatherPlays", spec := "gatherPlays", unfollowed := true, recurses := true, apart := false, narrowed := true }
def GatherPlaysUptoSaid : Prop := gatherPlaysUptoRow.holds Tryz.pinned (OpenSpec.upto gatherPlaysSpec)

/-- 'rundalelaw15.EndingPlays', WHERE WHAT IT READS IS OF BULK AT MOST 1048576: true; the input reads as it did. -/
def endingPlaysUptoRow : OpenClaim := { program := "ytggnbdeokmdjbaagreat", sum := "abd488aff70415474516bfcba9da37d0bb4716c21f19baf898f101dbf49da114", func := "rundale/rundalelaw15.EndingPlays", spec := "endingPlays", unfollowed := true, recurses := true, apart := false, narrowed := true }
def EndingPlaysUptoSaid : Prop := endingPlaysUptoRow.holds Tryz.pinned (OpenSpec.upto endingPlaysSpec)

end Rows
end Go.Proofs.YtggnbdeokmdjbaaGreat
