/-
  No cell of these rows narrows 'for every input' (looked for: loops, veiled, ifaces, maps, wideKeys, modest, calm, conditions, laid).
  DERIVED. THE GIVEN ROWS OF THIS SEAT. 9 by the template 'for every input the law returns true; each argument reads behind the call as it read before'; 0 by the template 'total and deterministic' (their statements: YtflalhdofhobmaaGreatTotals.lean).
  GIVEN WITH THE SEED: the statements are not yours to turn. If you find one false, say at which input.
  Laid BY PROGRAM, IN A SANDBOX (cutbox-rows.mjs): the forced cells as the released guide's own fill.sh prints them over the translation 8716b1d0824976ca… (all of the seat's roots in one cut). By AI agents, Wed Nov 11 2026. No macro, syntax, notation, axiom, sorry.
-/
import Derived.Test.YtflalhdofhobmaaGreatChecked
import GoSem.Claim
import GoSem.ClaimJoined
import GoSem.ClaimMapViews
import Derived.JoinedTies
import Derived.KernelRfl
namespace Go.Proofs.YtflalhdofhobmaaGreat
/- THE CELL 'sum', in the pinned program and in every row, IS THE sha256 OF THE DUMP (.gsa) THAT YtflalhdofhobmaaGreatProg.lean LOADS. Nothing in Lean hashes anything: it is a label: what it is worth is what the hold of that sum in a sandbox is worth. -/
noncomputable def Tryz.pinned : Pinned := { name := "ytflalhdofhobmaagreat", sum := "8716b1d0824976ca04e8d6ca2ce1abe4e26f5a3a35b927ec132f9807ea095e8d", checked := Tryz.checked }
namespace Rows
def none {H : Type} : Left H := { results := [], args := [] }

/-- 'rundalelaw14.GrantArgs': WHATEVER THE INPUT: true; the input reads as it did. -/
def grantArgsSpec : ChangeSpec := { name := "grantArgs", fn := fun _ => fun
  | [d1, d2, d3] => { results := [.lit (.bool true)], args := [d1, d2, d3] }
  | _ => none }
def grantArgsRow : OpenClaim := { program := "ytflalhdofhobmaagreat", sum := "8716b1d0824976ca04e8d6ca2ce1abe4e26f5a3a35b927ec132f9807ea095e8d", func := "rundale/rundalelaw14.GrantArgs", spec := "grantArgs", unfollowed := true, recurses := true, apart := false }
def GrantArgsSaid : Prop := grantArgsRow.holds Tryz.pinned (OpenSpec.ofChange grantArgsSpec)

/-- ITS FALSE NEIGHBOUR: 'it returns false'. Refute it at one input. -/
def grantArgsWrong : ChangeSpec := { name := "grantArgs", fn := fun _ => fun
  | [d1, d2, d3] => { results := [.lit (.bool false)], args := [d1, d2, d3] }
  | _ => none }
def GrantArgsWrongFalsely : Prop := grantArgsRow.holds Tryz.pinned (OpenSpec.ofChange grantArgsWrong)

/-- 'rundalelaw14.GrantApart': WHATEVER THE INPUT: true; the input reads as it did. -/
def grantApartSpec : ChangeSpec := { name := "grantApart", fn := fun _ => fun
  | [d1, d2, d3] => { results := [.lit (.bool true)], args := [d1, d2, d3] }
  | _ => none }
def grantApartRow : OpenClaim := { program := "ytflalhdofhobmaagreat", sum := "8716b1d0824976ca04e8d6ca2ce1abe4e26f5a3a35b927ec132f9807ea095e8d", func := "rundale/rundalelaw14.GrantApart", spec := "grantApart", unfollowed := true, recurses := true, apart := false }
def GrantApartSaid : Prop := grantApartRow.holds Tryz.pinned (OpenSpec.ofChange grantApartSpec)

/-- ITS FALSE NEIGHBOUR: 'it returns false'. Refute it at one input. -/
def grantApartWrong : ChangeSpec := { name := "grantApart", fn := fun _ => fun
  | [d1, d2, d3] => { results := [.lit (.bool false)], args := [d1, d2, d3] }
  | _ => none }
def GrantApartWrongFalsely : Prop := grantApartRow.holds Tryz.pinned (OpenSpec.ofChange grantApartWrong)

/-- 'rundalelaw14.GrantAlone': WHATEVER THE INPUT: true; the input reads as it did. -/
def grantAloneSpec : ChangeSpec := { name := "grantAlone", fn := fun _ => fun
  | [d1, d2, d3] => { results := [.lit (.bool true)], args := [d1, d2, d3] }
  | _ => none }
def grantAloneRow : OpenClaim := { program := "ytflalhdofhobmaagreat", sum := "8716b1d0824976ca04e8d6ca2ce1abe4e26f5a3a35b927ec132f9807ea095e8d", func := "rundale/rundalelaw14.GrantAlone", spec := "grantAlone", unfollowed := true, recurses := true, apart := false }
def GrantAloneSaid : Prop := grantAloneRow.holds Tryz.pinned (OpenSpec.ofChange grantAloneSpec)

/-- ITS FALSE NEIGHBOUR: 'it returns false'. Refute it at one input. -/
def grantAloneWrong : ChangeSpec := { name := "grantAlone", fn := fun _ => fun
  | [d1, d2, d3] => { results := [.lit (.bool false)], args := [d1, d2, d3] }
  | _ => none }
def GrantAloneWrongFalsely : Prop := grantAloneRow.holds Tryz.pinned (OpenSpec.ofChange grantAloneWrong)

/-- 'rundalelaw14.GrantPlays': WHATEVER THE INPUT: true; the input reads as it did. -/
def grantPlaysSpec : ChangeSpec := { name := "grantPlays", fn := fun _ => fun
  | [d1, d2] => { results := [.lit (.bool true)], args := [d1, d2] }
  | _ => none }
def grantPlaysRow : OpenClaim := { program := "ytflalhdofhobmaagreat", sum := "8716b1d0824976ca04e8d6ca2ce1abe4e26f5a3a35b927ec132f9807ea095e8d", func := "rundale/rundalelaw14.GrantPlays", spec := "grantPlays", unfollowed := true, recurses := true, apart := false }
def GrantPlaysSaid : Prop := grantPlaysRow.holds Tryz.pinned (OpenSpec.ofChange grantPlaysSpec)

/-- ITS FALSE NEIGHBOUR: 'it returns false'. Refute it at one input. -/
def grantPlaysWrong : ChangeSpec := { name := "grantPlays", fn := fun _ => fun
  | [d1, d2] => { results := [.lit (.bool false)], args := [d1, d2] }
  | _ => none }
def GrantPlaysWrongFalsely : Prop := grantPlaysRow.holds Tryz.pinned (OpenSpec.ofChange grantPlaysWrong)

/-- 'rundalelaw14.GrantStale': WHATEVER THE INPUT: true; the input reads as it did. -/
def grantStaleSpec : ChangeSpec := { name := "grantStale", fn := fun _ => fun
  | [d1, d2, d3] => { results := [.lit (.bool true)], args := [d1, d2, d3] }
  | _ => none }
def grantStaleRow : OpenClaim := { program := "ytflalhdofhobmaagreat", sum := "8716b1d0824976ca04e8d6ca2ce1abe4e26f5a3a35b927ec132f9807ea095e8d", func := "rundale/rundalelaw14.GrantStale", spec := "grantStale", unfollowed := true, recurses := true, apart := false }
def GrantStaleSaid : Prop := grantStaleRow.holds Tryz.pinned (OpenSpec.ofChange grantStaleSpec)

/-- ITS FALSE NEIGHBOUR: 'it returns false'. Refute it at one input. -/
def grantStaleWrong : ChangeSpec := { name := "grantStale", fn := fun _ => fun
  | [d1, d2, d3] => { results := [.lit (.bool false)], args := [d1, d2, d3] }
  | _ => none }
def GrantStaleWrongFalsely : Prop := grantStaleRow.holds Tryz.pinned (OpenSpec.ofChange grantStaleWrong)

/-- 'rundalelaw15.EndingNone': WHATEVER THE INPUT: true; the input reads as it did. -/
def endingNoneSpec : ChangeSpec := { name := "endingNone", fn := fun _ => fun
  | [d1, d2, d3] => { results := [.lit (.bool true)], args := [d1, d2, d3] }
  | _ => none }
def endingNoneRow : OpenClaim := { program := "ytflalhdofhobmaagreat", sum := "8716b1d0824976ca04e8d6ca2ce1abe4e26f5a3a35b927ec132f9807ea095e8d", func := "rundale/rundalelaw15.EndingNone", spec := "endingNone", unfollowed := true, recurses := true, apart := false }
def EndingNoneSaid : Prop := endingNoneRow.holds Tryz.pinned (OpenSpec.ofChange endingNoneSpec)

/-- ITS FALSE NEIGHBOUR: 'it returns false'. Refute it at one input. -/
def endingNoneWrong : ChangeSpec := { name := "endingNone", fn := fun _ => fun
  | [d1, d2, d3] => { results := [.lit (.bool false)], args := [d1, d2, d3] }
  | _ => none }
def EndingNoneWrongFalsely : Prop := endingNoneRow.holds Tryz.pinned (OpenSpec.ofChange endingNoneWrong)

/-- 'rundalelaw15.EndingOnce': WHATEVER THE INPUT: true; the input reads as it did. -/
def endingOnceSpec : ChangeSpec := { name := "endingOnce", fn := fun _ => fun
  | [d1, d2] => { results := [.lit (.bool true)], args := [d1, d2] }
  | _ => none }
def endingOnceRow : OpenClaim := { program := "ytflalhdofhobmaagreat", sum := "8716b1d0824976ca04e8d6ca2ce1abe4e26f5a3a35b927ec132f9807ea095e8d", func := "rundale/rundalelaw15.EndingOnce", spec := "endingOnce", unfollowed := true, recurses := true, apart := false }
def EndingOnceSaid : Prop := endingOnceRow.holds Tryz.pinned (OpenSpec.ofChange endingOnceSpec)

/-- ITS FALSE NEIGHBOUR: 'it returns false'. Refute it at one input. -/
def endingOnceWrong : ChangeSpec := { name := "endingOnce", fn := fun _ => fun
  | [d1, d2] => { results := [.lit (.bool false)], args := [d1, d2] }
  | _ => none }
def EndingOnceWrongFalsely : Prop := endingOnceRow.holds Tryz.pinned (OpenSpec.ofChange endingOnceWrong)

/-- 'rundalelaw15.EndingPlays': WHATEVER THE INPUT: true; the input reads as it did. -/
def endingPlaysSpec : ChangeSpec := { name := "endingPlays", fn := fun _ => fun
  | [d1, d2] => { results := [.lit (.bool true)], args := [d1, d2] }
  | _ => none }
def endingPlaysRow : OpenClaim := { program := "ytflalhdofhobmaagreat", sum := "8716b1d0824976ca04e8d6ca2ce1abe4e26f5a3a35b927ec132f9807ea095e8d", func := "rundale/rundalelaw15.EndingPlays", spec := "endingPlays", unfollowed := true, recurses := true, apart := false }
def EndingPlaysSaid : Prop := endingPlaysRow.holds Tryz.pinned (OpenSpec.ofChange endingPlaysSpec)

/-- ITS FALSE NEIGHBOUR: 'it returns false'. Refute it at one input. -/
def endingPlaysWrong : ChangeSpec := { name := "endingPlays", fn := fun _ => fun
  | [d1, d2] => { results := [.lit (.bool false)], args := [d1, d2] }
  | _ => none }
def EndingPlaysWrongFalsely : Prop := endingPlaysRow.holds Tryz.pinned (OpenSpec.ofChange endingPlaysWrong)

/-- 'rundalelaw15.EndingWaits': WHATEVER THE INPUT: true; the input reads as it did. -/
def endingWaitsSpec : ChangeSpec := { name := "endingWaits", fn := fun _ => fun
  | [d1, d2, d3] => { results := [.lit (.bool true)], args := [d1, d2, d3] }
  | _ => none }
def endingWaitsRow : OpenClaim := { program := "ytflalhdofhobmaagreat", sum := "8716b1d0824976ca04e8d6ca2ce1abe4e26f5a3a35b927ec132f9807ea095e8d", func := "rundale/rundalelaw15.EndingWaits", spec := "endingWaits", unfollowed := true, recurses := true, apart := false }
def EndingWaitsSaid : Prop := endingWaitsRow.holds Tryz.pinned (OpenSpec.ofChange endingWaitsSpec)

/-- ITS FALSE NEIGHBOUR: 'it returns false'. Refute it at one input. -/
def endingWaitsWrong : ChangeSpec := { name := "endingWaits", fn := fun _ => fun
  | [d1, d2, d3] => { results := [.lit (.bool false)], args := [d1, d2, d3] }
  | _ => none }
def EndingWaitsWrongFalsely : Prop := endingWaitsRow.holds Tryz.pinned (OpenSpec.ofChange endingWaitsWrong)

/- THE SECOND FORM. 'bulk': how many values and letters a reading holds, each counted each time it is reached (what is shared counts as often as it is met; a slice's spare places count too). A statement '..UptoSaid' is the law's where the arguments, and the package variables that the reading takes, are together of bulk at most 1048576: NARROWER than '..Said'. Prove '..Said' where nothing that the law and all that it calls make is longer than what came in: it says more and counts as full. Else prove '..UptoSaid'. A law counts once. -/
mutual
def uptoBulk {H : Type} : DataW H → Nat
  | .lit (.string bytes) => bytes.length + 1
  | .lit _ => 1
  | .nil => 1
  | .ptr d => uptoBulk d + 1
  | .slice elems spare => uptoBulkAll elems + uptoBulkAll spare + 1
  | .agg parts => uptoBulkAll parts + 1
  | .iface _ d => uptoBulk d + 1
  | .map entries => uptoBulkEntries entries + 1
  | .held _ => 1
def uptoBulkAll {H : Type} : List (DataW H) → Nat
  | [] => 0
  | d :: r => uptoBulk d + uptoBulkAll r
def uptoBulkEntries {H : Type} : List (Lit × DataW H) → Nat
  | [] => 0
  | x :: r => uptoBulkEntry x + uptoBulkEntries r
def uptoBulkEntry {H : Type} : Lit × DataW H → Nat
  | (.string bytes, d) => bytes.length + uptoBulk d + 1
  | (_, d) => uptoBulk d + 1
 end
def uptoSmall : (H : Type) → List (DataW H) → Bool := fun _ ds => decide (uptoBulkAll ds ≤ 1048576)
def OpenSpec.upto (s : _root_.Go.ChangeSpec) : _root_.Go.OpenSpec := { _root_.Go.OpenSpec.ofChange s with cond := some uptoSmall }

/-- 'rundalelaw14.GrantArgs', WHERE WHAT IT READS IS OF BULK AT MOST 1048576: true; the input reads as it did. -/
def grantArgsUptoRow : OpenClaim := { program := "ytflalhdofhobmaagreat", sum := "8716b1d0824976ca04e8d6ca2ce1abe4e26f5a3a35b927ec132f9807ea095e8d", func := "rundale/rundalelaw14.GrantArgs", spec := "grantArgs", unfollowed := true, recurses := true, apart := false, narrowed := true }
def GrantArgsUptoSaid : Prop := grantArgsUptoRow.holds Tryz.pinned (OpenSpec.upto grantArgsSpec)

/-- 'rundalelaw14.GrantApart', WHERE WHAT IT READS IS OF BULK AT MOST 1048576: true; the input reads as it did. -/
def grantApartUptoRow : OpenClaim := { program := "ytflalhdofhobmaagreat", sum := "8716b1d0824976ca04e8d6ca2ce1abe4e26f5a3a35b927ec132f9807ea095e8d", func := "rundale/rundalelaw14.GrantApart", spec := "grantApart", unfollowed := true, recurses := true, apart := false, narrowed := true }
def GrantApartUptoSaid : Prop := grantApartUptoRow.holds Tryz.pinned (OpenSpec.upto grantApartSpec)

/-- 'rundalelaw14.GrantAlone', WHERE WHAT IT READS IS OF BULK AT MOST 1048576: true; the input reads as it did. -/
def grantAloneUptoRow : OpenClaim := { program := "ytflalhdofhobmaagreat", sum := "8716b1d0824976ca04e8d6ca2ce1abe4e26f5a3a35b927ec132f9807ea095e8d", func := "rundale/rundalelaw14.GrantAlone", spec := "grantAlone", unfollowed := true, recurses := true, apart := false, narrowed := true }
def GrantAloneUptoSaid : Prop := grantAloneUptoRow.holds Tryz.pinned (OpenSpec.upto grantAloneSpec)

/-- 'rundalelaw14.GrantPlays', WHERE WHAT IT READS IS OF BULK AT MOST 1048576: true; the input reads as it did. -/
def grantPlaysUptoRow : OpenClaim := { program := "ytflalhdofhobmaagreat", sum := "8716b1d0824976ca04e8d6ca2ce1abe4e26f5a3a35b927ec132f9807ea095e8d", func := "rundale/rundalelaw14.GrantPlays", spec := "grantPlays", unfollowed := true, recurses := true, apart := false, narrowed := true }
def GrantPlaysUptoSaid : Prop := grantPlaysUptoRow.holds Tryz.pinned (OpenSpec.upto grantPlaysSpec)

/-- 'rundalelaw14.GrantStale', WHERE WHAT IT READS IS OF BULK AT MOST 1048576: true; the input reads as it did. -/
def grantStaleUptoRow : OpenClaim := { program := "ytflalhdofhobmaagreat", sum := "8716b1d0824976ca04e8d6ca2ce1abe4e26f5a3a35b927ec132f9807ea095e8d", func := "rundale/rundalelaw14.GrantStale", spec := "grantStale", unfollowed := true, recurses := true, apart := false, narrowed := true }
def GrantStaleUptoSaid : Prop := grantStaleUptoRow.holds Tryz.pinned (OpenSpec.upto grantStaleSpec)

/-- 'rundalelaw15.EndingNone', WHERE WHAT IT READS IS OF BULK AT MOST 1048576: true; the input reads as it did. -/
def endingNoneUptoRow : OpenClaim := { program := "ytflalhdofhobmaagreat", sum := "8716b1d0824976ca04e8d6ca2ce1abe4e26f5a3a35b927ec132f9807ea095e8d", func := "rundale/rundalelaw15.EndingNone", spec := "endingNone", unfollowed := true, recurses := true, apart := false, narrowed := true }
def EndingNoneUptoSaid : Prop := endingNoneUptoRow.holds Tryz.pinned (OpenSpec.upto endingNoneSpec)

/-- 'rundalelaw15.EndingOnce', WHERE WHAT IT READS IS OF BULK AT MOST 1048576: true; the input reads as it did. -/
def endingOnceUptoRow : OpenClaim := { program := "ytflalhdofhobmaagreat", sum := "8716b1d0824976ca04e8d6ca2ce1abe4e26f5a3a35b927ec132f9807ea095e8d", func := "rundale/rundalelaw15.EndingOnce", spec := "endingOnce", unfollowed := true, recurses := true, apart := false, narrowed := true }
def EndingOnceUptoSaid : Prop := endingOnceUptoRow.holds Tryz.pinned (OpenSpec.upto endingOnceSpec)

/-- 'rundalelaw15.EndingPlays', WHERE WHAT IT READS IS OF BULK AT MOST 1048576: true; the input reads as it did. -/
def endingPlaysUptoRow : OpenClaim := { program := "ytflalhdofhobmaagreat", sum := "8716b1d0824976ca04e8d6ca2ce1abe4e26f5a3a35b927ec132f9807ea095e8d", func := "rundale/rundalelaw15.EndingPlays", spec := "endingPlays", unfollowed := true, recurses := true, apart := false, narrowed := true }
def EndingPlaysUptoSaid : Prop := endingPlaysUptoRow.holds Tryz.pinned (OpenSpec.upto endingPlaysSpec)

/-- 'rundalelaw15.EndingWaits', WHERE WHAT IT READS IS OF BULK AT MOST 1048576: true; the input reads as it did. -/
def endingWaitsUptoRow : OpenClaim := { program := "ytflalhdofhobmaagreat", sum := "8716b1d0824976ca04e8d6ca2ce1abe4e26f5a3a35b927ec132f9807ea095e8d", func := "rundale/rundalelaw15.EndingWaits", spec := "endingWaits", unfollowed := true, recurses := true, apart := false, narrowed := true }
def EndingWaitsUptoSaid : Prop := endingWaitsUptoRow.holds Tryz.pinned (OpenSpec.upto endingWaitsSpec)

end Rows
end Go.Proofs.YtflalhdofhobmaaGreat
