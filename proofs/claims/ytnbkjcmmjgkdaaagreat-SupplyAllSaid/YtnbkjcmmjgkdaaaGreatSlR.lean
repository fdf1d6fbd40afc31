/-
  From a function's judgement to a statement's walk: it returns true, and below the old heap's size nothing has turned.
-/
import Derived.Test.YtnbkjcmmjgkdaaaGreatSlI
import Derived.Below
set_option linter.unusedVariables false
namespace Go.Proofs.YtnbkjcmmjgkdaaaGreat
open Go Go.RowKit

theorem Sat.start (w : World) : Sat w w [Old w] := by
  refine ⟨rfl, rfl, rfl, Nat.le_refl _, fun k => if k < w.heap.size then w.heap[k]? else none, ⟨_, Hp.no, fun _ => .inr rfl, ?_, fun _ => rfl, rfl⟩, ?_⟩
  · funext k
    unfold Hp.join Hp.no
    simp
  · intro k o h
    simp only at h
    split at h
    · exact h
    · cases h
theorem Sat.below {w w' : World} {L : St} (s : Sat w w' L) (h : Ent L [Old w]) : Below w.heap.size w w' := by
  obtain ⟨h, ⟨g, k, d, rfl, hg, hk⟩, hw⟩ := (s.ent h).heap
  refine ⟨s.os, s.tape, s.output, s.size, fun i hi => ?_⟩
  have h1 := hg i
  rw [if_pos hi] at h1
  rw [Array.getElem?_eq_getElem hi] at h1 ⊢
  exact hw i _ (Hp.join_left h1)
theorem Fx.below {P : Program} {f : FuncId} {vs : List Value} {w : World} (h : Fx P f vs [Old w] (fun v L' => v = .bool true ∧ Ent L' [Old w])) :
    Calls P f vs.toArray w fun e w' => e = .returned (.bool true) ∧ Below w.heap.size w w' :=
  (h w w (Sat.start w)).mono fun e w' ⟨v, L', he, ⟨hv, hL⟩, s⟩ => ⟨by rw [he, hv], s.below hL⟩
/-- A cell of the world that there was. -/
theorem Has.old {w : World} {L : St} (h : Ent L [Old w]) {b off : Nat} {vs : List Value} (hb : ∀ j v, vs[j]? = some v → w.cell? ⟨b, off + j, none⟩ = some v) : Has L b off vs := by
  intro w0 w1 s j v hj
  have hc := hb j v hj
  obtain ⟨h, ⟨g, k, d, rfl, hg, hk⟩, hw⟩ := (s.ent h).heap
  have hlt : b < w.heap.size := World.block_lt_of_cell? w ⟨b, off + j, none⟩ hc
  have h1 := hg b
  rw [if_pos hlt, Array.getElem?_eq_getElem hlt] at h1
  have h2 := hw b _ (Hp.join_left h1)
  unfold World.cell? at hc ⊢
  rw [Array.getElem?_eq_getElem hlt] at hc
  rw [h2]
  exact hc
end Go.Proofs.YtnbkjcmmjgkdaaaGreat
