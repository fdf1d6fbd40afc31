/-
  A function whose result is a variable of its own.
-/
import Derived.Test.YtnbkjcmmjgkdaaaGreatSlK
set_option linter.unusedVariables false
set_option linter.unusedSimpArgs false
namespace Go.Proofs.YtnbkjcmmjgkdaaaGreat
open Go
section
variable {P : Program} {N : Nat} {e : En} {L F : St}
theorem cRs_cell {rs : List ResultVar} {t n : Nat} {g : Bool} (h : cRs P rs = some [.c t n g]) : ∃ ty, rs = [.cell t ty] ∧ szT P ty = some n ∧ isAggT P ty = some g := by
  match rs with
  | [] => simp [cRs] at h
  | [.tmp i] => simp [cRs, cR] at h
  | [.cell a ty] =>
    simp only [cRs, cR] at h
    cases h1 : szT P ty with
    | none => simp [h1] at h
    | some m =>
      cases h2 : isAggT P ty with
      | none => simp [h1, h2] at h
      | some q =>
        simp only [h1, h2, Option.some.injEq, List.cons.injEq, RV.c.injEq, and_true] at h
        obtain ⟨rfl, rfl, rfl⟩ := h
        exact ⟨ty, rfl, h1, h2⟩
  | r :: r' :: l =>
    simp only [cRs] at h
    split at h
    · split at h
      · rename_i _ _ us hus
        split at hus
        · split at hus
          · cases hus; simp at h
          · cases hus
        · cases hus
      · cases h
    · cases h
theorem Rv_cell {t n b off : Nat} {g : Bool} {vs : List Value} {v : Value} (h : e.get t = some (.pointer (some ⟨b, off, none⟩))) (hh : Has L b off vs) (hv : ldv n g vs = some v) : Rv P N [.c t n g] e L v := by
  intro fn a w0 w hr ok s
  obtain ⟨ty, hres, hs, hg⟩ := cRs_cell hr
  have hr2 : fn.results = #[.cell t ty] := by apply Array.ext'; simpa using hres
  have ht := ok.get _ _ h
  have hx : a.tmps.getD t undef = .pointer (some ⟨b, off, none⟩) := by simp [ht]
  have hc := hh w0 w s
  cases g
  · unfold ldv at hv
    split at hv
    · contradiction
    · cases hv
      have h0 := hc 0 v rfl
      simp only [Nat.add_zero] at h0
      simp [results, hr2, ht, loadVar, isAggT_eq hg, h0, asAddr]
    · cases hv
  · simp only [ldv] at hv
    cases hb : Nat.beq vs.length n with
    | false => rw [hb] at hv; cases hv
    | true =>
      rw [hb] at hv; cases hv
      have hn := Nat.eq_of_beq_eq_true hb
      have hl := run_loadCells_list (P := P) w ⟨b, off, none⟩ vs (fun j v hj => by rw [partPlace]; exact hc j v hj)
      rw [hn] at hl
      simp [results, hr2, ht, loadVar, isAggT_eq hg, szT_eq hs, hl, asAddr]
theorem Kr_cell {R : Value → St → Prop} {t n b : Nat} {T : TypeId} {cs : List Value} {x : Ex} [i : Take L (some ⟨b, 0, none⟩) (Blk T cs) F] (hx : x = .nm ∨ x = .rt) (h : e.get t = some (.pointer (some ⟨b, 0, none⟩))) (hn : Nat.beq cs.length n = true)
    {L' : St} (hL : Ent L L') (hR : R (.agg cs.toArray) L') : Kr P N [.c t n true] R x e L := by
  have hn' := Nat.eq_of_beq_eq_true hn
  refine ⟨hx, _, L', Rv_cell h (Has.blk (T := T) (cs := cs) (n := n) (off := 0)) ?_, hL, hR⟩
  simp [ldv, ← hn']
end
end Go.Proofs.YtnbkjcmmjgkdaaaGreat
