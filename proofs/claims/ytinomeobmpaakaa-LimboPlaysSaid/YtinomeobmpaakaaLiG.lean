/-
  What a limbo's Ready hands out, in plain words: the items of the open buckets, once each; the other buckets stay.
-/
import Derived.Test.YtinomeobmpaakaaLiC
set_option linter.unusedVariables false
set_option linter.unusedSimpArgs false
namespace Go.Proofs.Ytinomeobmpaakaa
open Go

theorem leastUp_none {now : Int} {m : Lm} : ∀ {k : Nat}, leastUp now m k = none → ∀ j, j < k → m.open_ now j = false
  | 0, _, j, hj => by omega
  | k + 1, h, j, hj => by
    unfold leastUp at h
    cases ho : m.open_ now k with
    | true =>
      rw [ho, cond_true] at h
      split at h
      · cases h
      · split at h <;> cases h
    | false =>
      rw [ho, cond_false] at h
      rcases (show j < k ∨ j = k by omega) with h1 | rfl
      · exact leastUp_none h j h1
      · exact ho
/-- The open buckets emptied. -/
def closeAll (now : Int) (m : Lm) : Lm :=
  ⟨if m.open_ now 0 then 0 else m.t0, if m.open_ now 0 then [] else m.x0, if m.open_ now 1 then 0 else m.t1, if m.open_ now 1 then [] else m.x1, if m.open_ now 2 then 0 else m.t2, if m.open_ now 2 then [] else m.x2, m.last⟩
/-- What is in the open buckets. -/
def opened (now : Int) (m : Lm) : List Int := (if m.open_ now 0 then m.x0 else []) ++ ((if m.open_ now 1 then m.x1 else []) ++ (if m.open_ now 2 then m.x2 else []))
theorem close_none {now : Int} {m : Lm} (h : ∀ j, j < 3 → m.open_ now j = false) : closeAll now m = m ∧ opened now m = [] := by
  simp [closeAll, opened, h 0 (by omega), h 1 (by omega), h 2 (by omega)]
theorem open_put {now : Int} {m : Lm} {j : Nat} : (m.put j 0 []).open_ now j = false := by
  match j with
  | 0 => simp [Lm.open_, openM, Lm.put, Lm.items]
  | 1 => simp [Lm.open_, openM, Lm.put, Lm.items]
  | n + 2 => simp [Lm.open_, openM, Lm.put, Lm.items]
theorem close_put {now : Int} {m : Lm} {j : Nat} (hj : j < 3) (ho : m.open_ now j = true) : closeAll now (m.put j 0 []) = closeAll now m ∧ (m.items j ++ opened now (m.put j 0 [])).Perm (opened now m) := by
  rcases (show j = 0 ∨ j = 1 ∨ j = 2 by omega) with rfl | rfl | rfl
  · have h1 : (m.put 0 0 []).open_ now 1 = m.open_ now 1 := rfl
    have h2 : (m.put 0 0 []).open_ now 2 = m.open_ now 2 := rfl
    refine ⟨?_, ?_⟩
    · unfold closeAll; rw [open_put, h1, h2, ho]; rfl
    · unfold opened; rw [open_put, h1, h2, ho]; exact List.Perm.refl _
  · have h1 : (m.put 1 0 []).open_ now 0 = m.open_ now 0 := rfl
    have h2 : (m.put 1 0 []).open_ now 2 = m.open_ now 2 := rfl
    refine ⟨?_, ?_⟩
    · unfold closeAll; rw [open_put, h1, h2, ho]; rfl
    · unfold opened; rw [open_put, h1, h2, ho]
      show (m.x1 ++ ((if m.open_ now 0 then m.x0 else []) ++ ([] ++ (if m.open_ now 2 then m.x2 else [])))).Perm ((if m.open_ now 0 then m.x0 else []) ++ (m.x1 ++ (if m.open_ now 2 then m.x2 else [])))
      rw [List.nil_append, ← List.append_assoc, ← List.append_assoc]
      exact List.Perm.append_right _ List.perm_append_comm
  · have h1 : (m.put 2 0 []).open_ now 0 = m.open_ now 0 := rfl
    have h2 : (m.put 2 0 []).open_ now 1 = m.open_ now 1 := rfl
    refine ⟨?_, ?_⟩
    · unfold closeAll; rw [open_put, h1, h2, ho]; rfl
    · unfold opened; rw [open_put, h1, h2, ho]
      show (m.x2 ++ ((if m.open_ now 0 then m.x0 else []) ++ ((if m.open_ now 1 then m.x1 else []) ++ []))).Perm ((if m.open_ now 0 then m.x0 else []) ++ ((if m.open_ now 1 then m.x1 else []) ++ m.x2))
      rw [List.append_nil, ← List.append_assoc (if m.open_ now 0 then m.x0 else [])]
      exact List.perm_append_comm
theorem cnt_zero {m : Lm} (h : m.cnt = 0) : ∀ j, m.items j = [] := by
  unfold Lm.cnt one at h
  intro j
  have h0 : m.x0 = [] := by false_or_by_contra; rename_i hh; simp [hh] at h
  have h1 : m.x1 = [] := by false_or_by_contra; rename_i hh; simp [hh] at h
  have h2 : m.x2 = [] := by false_or_by_contra; rename_i hh; simp [hh] at h
  unfold Lm.items
  split
  · exact h0
  · exact h1
  · exact h2
theorem readyM_spec {now : Int} : ∀ (f : Nat) (m : Lm), m.cnt ≤ f → (readyM now f m).2 = closeAll now m ∧ (readyM now f m).1.Perm (opened now m)
  | 0, m, h => by
    have hz := cnt_zero (m := m) (by omega)
    have hn : ∀ j, j < 3 → m.open_ now j = false := fun j _ => by simp [Lm.open_, openM, hz j]
    have := close_none hn
    rw [this.1, this.2]
    exact ⟨rfl, List.Perm.refl _⟩
  | f + 1, m, h => by
    cases hl : leastUp now m 3 with
    | none =>
      have := close_none (leastUp_none hl)
      rw [this.1, this.2]
      simp [readyM, hl]
    | some j =>
      obtain ⟨hj, ho⟩ := leastUp_lt hl
      have hc := cnt_put hj (open_ne ho)
      have ih := readyM_spec (now := now) f (m.put j 0 []) (by omega)
      have hp := close_put hj ho
      simp only [readyM, hl]
      exact ⟨ih.1.trans hp.1, (List.Perm.append_left _ ih.2).trans hp.2⟩
theorem readyAll_spec {now : Int} {m : Lm} (h : 2 ≤ now) : (readyAll now m).2 = closeAll now m ∧ (readyAll now m).1.Perm (opened now m) := by
  unfold readyAll
  rw [if_pos h]
  exact readyM_spec _ _ (Nat.le_refl _)
end Go.Proofs.Ytinomeobmpaakaa
