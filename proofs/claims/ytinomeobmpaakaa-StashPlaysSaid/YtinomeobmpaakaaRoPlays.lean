/-
  StashPlays: whatever the number and the things done: what each call answers, and what is there, are what the document's stash says. No condition.
-/
import Derived.Test.YtinomeobmpaakaaRows
import Derived.WalkKit
import Derived.ProofKit
import Derived.OpenShut
import Derived.Carry
import Derived.Deep.FieldsWide
import Derived.Test.YtinomeobmpaakaaSlR
import Derived.Test.YtinomeobmpaakaaStF
set_option linter.unusedVariables false
namespace Go.Proofs.Ytinomeobmpaakaa.stashPlays
open Go.ChangeShapes Go.WideShapes Go.ChangeAt Go.RowKit

theorem own : ownKnob Try.prog.godebug = none := by kernel_rfl
theorem laidOut : laidOutB Try.prog = true := by kernel_rfl
set_option maxRecDepth 100000 in
theorem lifted (os : Os) (started : os.Started) (H : Type) (enc : TypeId × Value → H) :
    ReturnsInHanded {} Try.checked os 5 .any (Rows.stashPlaysSpec.pre6 enc Try.prog Try.f5 Rows.stashPlaysRow.domain false) (Rows.stashPlaysSpec.post enc Try.prog Try.f5 false true false false) := by
  refine returnsInHanded_of_change (C := Try.checked) own started (by kernel_rfl) Try.func5
    (ChangeSpec.witness6 (enc := enc) (C := Try.checked) false ⟨#[], #[.int .i64 0, .slice none 0 0], []⟩ 8 (by kernel_rfl) (by kernel_rfl) (by kernel_rfl) (by kernel_rfl)) ?_
  intro W base args ds gs before hval0 hW hcnd _
  have hval : ∀ (j : Nat) t v, Try.f5.params[j]? = some t → args[j]? = some v → Value.okWide Try.prog W .any base t v := hval0
  have hW' := hW
  obtain ⟨p, q, hA0, hV, rfl, hfz, hnd⟩ := hW
  have hA : DataW.TrodAll enc Try.prog W 0 (fun _ => true) true Try.f5.params.toList args.toList ds p := hA0
  rw [Try.params5] at hA hval
  obtain ⟨v0, vs0, d0, ds0, p0, q0, hargs, rfl, rfl, h0, r0⟩ := trodAll_cons hA
  obtain ⟨v1, vs1, d1, ds1, p1, q1, rfl, rfl, rfl, h1, r1⟩ := trodAll_cons r0
  obtain ⟨rfl, rfl, rfl⟩ := trodAll_nil r1
  obtain rfl : args = #[v0, v1] := by cases args; simp_all
  obtain ⟨rfl, rfl⟩ := trodVars_none hV
  obtain ⟨a0, rfl, rfl, rfl, w0⟩ := open_int Try.underlying3 (hval 0 3 v0 rfl rfl) h0
  have h1k := h1
  have ok1 := hval 1 34 v1 rfl rfl
  clear hA0 hval0
  simp only [List.append_nil, List.nil_append] at hW'
  have hlt1 : ∀ x ∈ p1, x.block < W.heap.size := fun x hx => hW'.lt x (by simp [hx])
  obtain ⟨b1, len1, cap1, rfl⟩ := okWide_slice Try.underlying34 ok1
  obtain ⟨fuel, hf⟩ := h1
  obtain ⟨rows, hI, hr⟩ := In.rows (sz := 2) Try.underlying34 (by kernel_rfl) (by omega) hf
  have hrow : ∀ r ∈ rows, ∃ (k : Int) (u : Value) (xs : List Int), r = [.int .i64 k, u] ∧ In W 1 u xs.length (ints xs) := fun r hm => by
    obtain ⟨hl, n, y, hy⟩ := hr r hm
    match r, hl with
    | [z, u], _ =>
      obtain ⟨y0, y1, m, _, _, t0, t1⟩ := trod_struct2 Try.underlying38 hy
      rw [show Try.prog.cellsOf 3 = 1 by kernel_rfl] at t0
      rw [show Try.prog.cellsOf 27 = 1 by kernel_rfl] at t1
      obtain ⟨k, h3, _, _⟩ := DataW.trod_int Try.underlying3 t0
      obtain ⟨xs, hx, _⟩ := In.ints Try.underlying27 Try.underlying3 (by kernel_rfl) t1
      have hz : z = .int .i64 k := by simpa using h3
      exact ⟨k, u, xs, by rw [hz], hx⟩
  obtain ⟨f, hfs⟩ := plays_of (w := W) (rows := rows) hrow
  have walk := Fx.below (Proofs.Ytinomeobmpaakaa.stashPlays a0 hI (fun r hm => (hr r hm).1) hfs)
  refine walk.mono fun e W' ⟨he, hb⟩ => ?_
  subst he
  refine ⟨_, rfl, _, _, _, [], ([] ++ (p1 ++ [])), [], hW', ?_, ?_, ?_, hb.frame _, fun h => by cases h⟩
  · exact trodAll_cons_mk (shut_bool Try.underlying4 _) trodAll_mk0
  · exact (trodAll_cons_mk (shut_int Try.underlying3 w0) (trodAll_cons_mk (Below.trod laidOut (by kernel_rfl) (of_decide_eq_true (by kernel_rfl)) h1k hb hlt1) trodAll_mk0))
  · rfl
theorem over : Rows.stashPlaysRow.holds Try.pinned (OpenSpec.ofChange Rows.stashPlaysSpec) :=
  OpenClaim.holds_of_wide 5 Try.f5 rfl rfl rfl rfl rfl rfl rfl ⟨rfl, rfl, rfl, rfl, rfl⟩ rfl rfl rfl rfl rfl (by kernel_rfl) Try.func5 (by kernel_rfl)
    (of_decide_eq_true (by kernel_rfl)) (by unfold Func.isWrapper; first | (rw [if_pos (by decide +kernel)]; kernel_rfl) | (rw [if_neg (by decide +kernel)]; exact ⟨rfl, rfl⟩))
    (fun os started H enc _ => lifted os started H enc)
theorem proved : Rows.StashPlaysSaid := over
#print axioms proved
end Go.Proofs.Ytinomeobmpaakaa.stashPlays
