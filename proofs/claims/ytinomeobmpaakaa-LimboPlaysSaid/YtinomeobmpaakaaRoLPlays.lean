/-
  LimboPlays: whatever is retired and asked for: what each call answers, what is in each bucket, are what the document's limbo says. No condition.
-/
import Derived.Test.YtinomeobmpaakaaRows
import Derived.WalkKit
import Derived.ProofKit
import Derived.OpenShut
import Derived.Carry
import Derived.Deep.FieldsWide
import Derived.Deep.Strs
import Derived.Test.YtinomeobmpaakaaSlR
import Derived.Test.YtinomeobmpaakaaLiP
set_option linter.unusedVariables false
set_option linter.unusedSimpArgs false
namespace Go.Proofs.Ytinomeobmpaakaa.limboPlays
open Go.ChangeShapes Go.WideShapes Go.ChangeAt Go.RowKit

theorem own : ownKnob Try.prog.godebug = none := by kernel_rfl
theorem laidOut : laidOutB Try.prog = true := by kernel_rfl
set_option maxRecDepth 100000 in
theorem lifted (os : Os) (started : os.Started) (H : Type) (enc : TypeId × Value → H) :
    ReturnsInHanded {} Try.checked os 12 .any (Rows.limboPlaysSpec.pre6 enc Try.prog Try.f12 Rows.limboPlaysRow.domain false) (Rows.limboPlaysSpec.post enc Try.prog Try.f12 false true false false) := by
  refine returnsInHanded_of_change (C := Try.checked) own started (by kernel_rfl) Try.func12
    (ChangeSpec.witness6 (enc := enc) (C := Try.checked) false ⟨#[], #[.slice none 0 0], []⟩ 8 (by kernel_rfl) (by kernel_rfl) (by kernel_rfl) (by kernel_rfl)) ?_
  intro W base args ds gs before hval0 hW hcnd _
  have hval : ∀ (j : Nat) t v, Try.f12.params[j]? = some t → args[j]? = some v → Value.okWide Try.prog W .any base t v := hval0
  have hW' := hW
  obtain ⟨p, q, hA0, hV, rfl, hfz, hnd⟩ := hW
  have hA : DataW.TrodAll enc Try.prog W 0 (fun _ => true) true Try.f12.params.toList args.toList ds p := hA0
  rw [Try.params12] at hA hval
  obtain ⟨v0, vs0, d0, ds0, p0, q0, hargs, rfl, rfl, h0, r0⟩ := trodAll_cons hA
  obtain ⟨rfl, rfl, rfl⟩ := trodAll_nil r0
  obtain rfl : args = #[v0] := by cases args; simp_all
  obtain ⟨rfl, rfl⟩ := trodVars_none hV
  have h0k := h0
  have ok0 := hval 0 65 v0 rfl rfl
  clear hA0 hval0
  simp only [List.append_nil, List.nil_append] at hW'
  have hlt0 : ∀ x ∈ p0, x.block < W.heap.size := fun x hx => hW'.lt x (by simp [hx])
  obtain ⟨b1, len1, cap1, rfl⟩ := okWide_slice Try.underlying65 ok0
  obtain ⟨fuel, hf⟩ := h0
  obtain ⟨rows, hI, hr⟩ := In.rows (sz := 3) Try.underlying65 (by kernel_rfl) (by omega) hf
  have hrow : ∀ r ∈ rows, ∃ xs, Did W r xs := fun r hm => by
    obtain ⟨hl, n, y, hy⟩ := hr r hm
    match r, hl with
    | [z, t, u], _ =>
      obtain ⟨y0, y1, y2, m, _, _, t0, t1, t2⟩ := Go.Deep.trod_struct3 Try.underlying69 hy
      rw [show Try.prog.cellsOf 3 = 1 by kernel_rfl] at t0 t1
      rw [show Try.prog.cellsOf 27 = 1 by kernel_rfl] at t2
      obtain ⟨k, h3, _, _⟩ := DataW.trod_int Try.underlying3 t0
      obtain ⟨tg, h4, _, hw⟩ := DataW.trod_int Try.underlying3 t1
      obtain ⟨xs, hx, _⟩ := In.ints Try.underlying27 Try.underlying3 (by kernel_rfl) t2
      have hz : z = .int .i64 k := by simpa using h3
      have ht : t = .int .i64 tg := by simpa using h4
      have hw' : -9223372036854775808 ≤ tg ∧ tg ≤ 9223372036854775807 := by
        simp only [Lit.wf, Bool.and_eq_true, decide_eq_true_eq] at hw
        exact ⟨by have := hw.1; simpa [IntKind.min, IntKind.signed, IntKind.bits] using this, by have := hw.2; simpa [IntKind.max, IntKind.signed, IntKind.bits] using this⟩
      exact ⟨xs, k, tg, u, by rw [hz, ht], hw'.1, hw'.2, hx⟩
  obtain ⟨f, hfs⟩ := limbos_of (w := W) (rows := rows) hrow
  have walk := Fx.below (Proofs.Ytinomeobmpaakaa.limboPlays hI (fun r hm => (hr r hm).1) hfs)
  refine walk.mono fun e W' ⟨he, hb⟩ => ?_
  subst he
  refine ⟨_, rfl, _, _, _, [], (p0 ++ []), [], hW', ?_, ?_, ?_, hb.frame _, fun h => by cases h⟩
  · exact trodAll_cons_mk (shut_bool Try.underlying4 _) trodAll_mk0
  · exact (trodAll_cons_mk (Below.trod laidOut (by kernel_rfl) (of_decide_eq_true (by kernel_rfl)) h0k hb hlt0) trodAll_mk0)
  · rfl
theorem over : Rows.limboPlaysRow.holds Try.pinned (OpenSpec.ofChange Rows.limboPlaysSpec) :=
  OpenClaim.holds_of_wide 12 Try.f12 rfl rfl rfl rfl rfl rfl rfl ⟨rfl, rfl, rfl, rfl, rfl⟩ rfl rfl rfl rfl rfl (by kernel_rfl) Try.func12 (by kernel_rfl)
    (of_decide_eq_true (by kernel_rfl)) (by unfold Func.isWrapper; first | (rw [if_pos (by decide +kernel)]; kernel_rfl) | (rw [if_neg (by decide +kernel)]; exact ⟨rfl, rfl⟩))
    (fun os started H enc _ => lifted os started H enc)
theorem proved : Rows.LimboPlaysSaid := over
#print axioms proved
end Go.Proofs.Ytinomeobmpaakaa.limboPlays
