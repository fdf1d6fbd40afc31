/-
  What comes in as a struct of whole numbers.
-/
import Derived.Test.YtinomeobmpaakaaSlQ
set_option linter.unusedVariables false
set_option linter.unusedSimpArgs false
namespace Go.Proofs.Ytinomeobmpaakaa
open Go Go.RowKit Go.ChangeShapes Go.WideShapes
section
variable {H : Type} {enc : TypeId × Value → H} {P : Program} {w : World} {base : Nat} {spare : Nat → Bool} {held : Bool}
def isI64 (P : Program) (t : TypeId) : Bool := match P.underlying t with | some (.int .i64) => true | _ => false
def intsB (P : Program) (fs : Array Field) : Bool := fs.toList.zipIdx.all fun p => Nat.beq p.1.offset p.2 && (Nat.beq (P.cellsOf p.1.type) 1 && isI64 P p.1.type)
theorem isI64_iff {t : TypeId} (h : isI64 P t = true) : P.underlying t = some (.int .i64) := by
  unfold isI64 at h
  split at h
  · assumption
  · cases h
theorem In.struct_ints {t : TypeId} {fs : Array Field} {fuel : Nat} {cs : List Value} {x : DataW H × List MemPlace} (ht : P.underlying t = some (.struct fs)) (hf : intsB P fs = true) (hc : P.cellsOf t = fs.size)
    (h : DataW.trod enc P w base spare held fuel t cs = some x) : ∃ zs : List Int, zs.length = fs.size ∧ cs = zs.map (Value.int .i64) ∧ ∀ z ∈ zs, (Lit.int .i64 z).wf = true := by
  obtain ⟨xs, n, _, _, hl, hxl, hx⟩ := DataW.trod_struct ht h
  have each : ∀ i : Nat, i < fs.size → ∃ z : Int, cs[i]? = some (.int .i64 z) ∧ (Lit.int .i64 z).wf = true := by
    intro i hi
    have hfi : fs[i]? = some fs[i] := Array.getElem?_eq_getElem hi
    have hmem : (fs[i], i) ∈ fs.toList.zipIdx := by
      rw [List.mem_iff_getElem?]
      exact ⟨i, by simp [hi]⟩
    unfold intsB at hf
    have h1 := List.all_eq_true.1 hf _ hmem
    simp only [Bool.and_eq_true] at h1
    have ho := Nat.eq_of_beq_eq_true h1.1
    have h1c := Nat.eq_of_beq_eq_true h1.2.1
    have hu := isI64_iff h1.2.2
    have h2 := hx i fs[i] hfi
    rw [ho, h1c, List.getElem?_eq_getElem (by omega)] at h2
    obtain ⟨z, h3, _, h5⟩ := DataW.trod_int hu h2
    refine ⟨z, ?_, h5⟩
    have h4 : ((cs.drop i).take 1)[0]? = some (.int .i64 z) := by rw [h3]; rfl
    rw [List.getElem?_take_of_lt (by omega), List.getElem?_drop] at h4
    simpa using h4
  rw [hc] at hl
  clear hx h hf hxl ht hc
  generalize fs.size = m at *
  induction m generalizing cs with
  | zero => exact ⟨[], rfl, List.eq_nil_of_length_eq_zero hl, by simp⟩
  | succ m ih =>
    match cs, hl with
    | c :: l, hl =>
      obtain ⟨z, hz, hw⟩ := each 0 (by omega)
      simp only [List.getElem?_cons_zero, Option.some.injEq] at hz
      obtain ⟨zs, h1, h2, h3⟩ := ih (cs := l) (by simpa using hl) (fun i hi => by simpa using each (i + 1) (by omega))
      refine ⟨z :: zs, by simp [h1], by rw [hz, h2]; rfl, ?_⟩
      simp only [List.mem_cons, forall_eq_or_imp]
      exact ⟨hw, h3⟩
end
end Go.Proofs.Ytinomeobmpaakaa
