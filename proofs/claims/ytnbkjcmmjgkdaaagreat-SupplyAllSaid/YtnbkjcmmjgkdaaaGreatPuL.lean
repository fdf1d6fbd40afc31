/-
  A limbo in plain words: three buckets; what a Retire takes in, what a Ready hands out.
-/
set_option linter.unusedVariables false
set_option linter.unusedSimpArgs false
namespace Go.Proofs.YtnbkjcmmjgkdaaaGreat

/-- A limbo: three buckets, each a tag and its items; the last tag. -/
structure Lm where
  t0 : Int
  x0 : List Int
  t1 : Int
  x1 : List Int
  t2 : Int
  x2 : List Int
  last : Int
def Lm.tag (m : Lm) (k : Nat) : Int := match k with | 0 => m.t0 | 1 => m.t1 | _ => m.t2
def Lm.items (m : Lm) (k : Nat) : List Int := match k with | 0 => m.x0 | 1 => m.x1 | _ => m.x2
def Lm.put (m : Lm) (k : Nat) (t : Int) (xs : List Int) : Lm := match k with
  | 0 => { m with t0 := t, x0 := xs }
  | 1 => { m with t1 := t, x1 := xs }
  | _ => { m with t2 := t, x2 := xs }
def Lm.nil : Lm := ⟨0, [], 0, [], 0, [], 0⟩
def Lm.size (m : Lm) : Nat := m.x0.length + m.x1.length + m.x2.length

/-- What a Retire takes in, what comes out. -/
def refused (m : Lm) (tag : Int) (ys : List Int) : Prop := ys = [] ∨ tag < 0 ∨ 4611686018427387903 < tag ∨ tag < m.last
def bucketOf (tag : Int) : Nat := tag.toNat % 3
def outM (m : Lm) (tag : Int) : List Int := if m.tag (bucketOf tag) < tag then m.items (bucketOf tag) else []
def retireM (m : Lm) (tag : Int) (ys : List Int) : Lm := { m.put (bucketOf tag) tag ((if m.tag (bucketOf tag) < tag then [] else m.items (bucketOf tag)) ++ ys) with last := tag }
/-- Is a bucket open? -/
def openM (now t : Int) (xs : List Int) : Bool := decide (0 < xs.length ∧ t ≤ now - 2)
def Lm.open_ (m : Lm) (now : Int) (k : Nat) : Bool := openM now (m.tag k) (m.items k)
/-- The open one of the least tag, of the first k. -/
def leastUp (now : Int) (m : Lm) : Nat → Option Nat
  | 0 => none
  | k + 1 => bif m.open_ now k then (match leastUp now m k with | none => some k | some j => if m.tag k < m.tag j then some k else some j) else leastUp now m k
theorem leastUp_lt {now : Int} {m : Lm} : ∀ {k j : Nat}, leastUp now m k = some j → j < k ∧ m.open_ now j = true
  | 0, j, h => by cases h
  | k + 1, j, h => by
    unfold leastUp at h
    cases ho : m.open_ now k with
    | false =>
      rw [ho, cond_false] at h
      have := leastUp_lt h
      exact ⟨by omega, this.2⟩
    | true =>
      rw [ho, cond_true] at h
      split at h
      · cases h; exact ⟨by omega, ho⟩
      · rename_i i hi
        have := leastUp_lt hi
        split at h
        · cases h; exact ⟨by omega, ho⟩
        · cases h; exact ⟨by omega, this.2⟩
theorem leastUp_no {now : Int} {m : Lm} {k : Nat} (h : m.open_ now k = false) : leastUp now m (k + 1) = leastUp now m k := by simp [leastUp, h]
theorem leastUp_first {now : Int} {m : Lm} {k : Nat} (h : m.open_ now k = true) (h2 : leastUp now m k = none) : leastUp now m (k + 1) = some k := by simp [leastUp, h, h2]
theorem leastUp_less {now : Int} {m : Lm} {k j : Nat} (h : m.open_ now k = true) (h2 : leastUp now m k = some j) (h3 : m.tag k < m.tag j) : leastUp now m (k + 1) = some k := by simp [leastUp, h, h2, h3]
theorem leastUp_keep {now : Int} {m : Lm} {k j : Nat} (h : m.open_ now k = true) (h2 : leastUp now m k = some j) (h3 : ¬ m.tag k < m.tag j) : leastUp now m (k + 1) = some j := by simp [leastUp, h, h2, h3]
def one (xs : List Int) : Nat := if xs = [] then 0 else 1
def Lm.cnt (m : Lm) : Nat := one m.x0 + one m.x1 + one m.x2
def readyM (now : Int) : Nat → Lm → List Int × Lm
  | 0, m => ([], m)
  | f + 1, m => match leastUp now m 3 with
    | none => ([], m)
    | some j => (m.items j ++ (readyM now f (m.put j 0 [])).1, (readyM now f (m.put j 0 [])).2)
/-- What a Ready hands out, and what is left. -/
def readyAll (now : Int) (m : Lm) : List Int × Lm := if 2 ≤ now then readyM now m.cnt m else ([], m)
theorem cnt_put {m : Lm} {j : Nat} (hj : j < 3) (hx : m.items j ≠ []) : m.cnt = (m.put j 0 []).cnt + 1 := by
  rcases (show j = 0 ∨ j = 1 ∨ j = 2 by omega) with rfl | rfl | rfl <;> simp [Lm.cnt, Lm.put, one, Lm.items] at hx ⊢ <;> simp [hx] <;> omega
theorem open_ne {now : Int} {m : Lm} {j : Nat} (h : m.open_ now j = true) : m.items j ≠ [] := by
  intro e
  simp [Lm.open_, openM, e] at h
theorem size_put {m : Lm} {j : Nat} (hj : j < 3) : m.size = (m.put j 0 []).size + (m.items j).length := by
  rcases (show j = 0 ∨ j = 1 ∨ j = 2 by omega) with rfl | rfl | rfl <;> simp [Lm.size, Lm.put, Lm.items] <;> omega

theorem leastUp_none {now : Int} {m : Lm} : ∀ {k : Nat}, leastUp now m k = none → ∀ j, j < k → m.open_ now j = false
  | 0, _, j, hj => by omega
  | k + 1, h, j, hj => by
    unfold leastUp at h
    cases ho : m.open_ now k with
    | true =>
      rw [ho, cond_true] at h
      split at h
      · cases h
      · split at h <;> cases h
    | false =>
      rw [ho, cond_false] at h
      rcases (show j < k ∨ j = k by omega) with h1 | rfl
      · exact leastUp_none h j h1
      · exact ho
/-- The open buckets emptied. -/
def closeAll (now : Int) (m : Lm) : Lm :=
  ⟨if m.open_ now 0 then 0 else m.t0, if m.open_ now 0 then [] else m.x0, if m.open_ now 1 then 0 else m.t1, if m.open_ now 1 then [] else m.x1, if m.open_ now 2 then 0 else m.t2, if m.open_ now 2 then [] else m.x2, m.last⟩
/-- What is in the open buckets. -/
def opened (now : Int) (m : Lm) : List Int := (if m.open_ now 0 then m.x0 else []) ++ ((if m.open_ now 1 then m.x1 else []) ++ (if m.open_ now 2 then m.x2 else []))
theorem close_none {now : Int} {m : Lm} (h : ∀ j, j < 3 → m.open_ now j = false) : closeAll now m = m ∧ opened now m = [] := by
  simp [closeAll, opened, h 0 (by omega), h 1 (by omega), h 2 (by omega)]
theorem open_put {now : Int} {m : Lm} {j : Nat} : (m.put j 0 []).open_ now j = false := by
  match j with
  | 0 => simp [Lm.open_, openM, Lm.put, Lm.items]
  | 1 => simp [Lm.open_, openM, Lm.put, Lm.items]
  | n + 2 => simp [Lm.open_, openM, Lm.put, Lm.items]
theorem close_put {now : Int} {m : Lm} {j : Nat} (hj : j < 3) (ho : m.open_ now j = true) : closeAll now (m.put j 0 []) = closeAll now m ∧ (m.items j ++ opened now (m.put j 0 [])).Perm (opened now m) := by
  rcases (show j = 0 ∨ j = 1 ∨ j = 2 by omega) with rfl | rfl | rfl
  · have h1 : (m.put 0 0 []).open_ now 1 = m.open_ now 1 := rfl
    have h2 : (m.put 0 0 []).open_ now 2 = m.open_ now 2 := rfl
    refine ⟨?_, ?_⟩
    · unfold closeAll; rw [open_put, h1, h2, ho]; rfl
    · unfold opened; rw [open_put, h1, h2, ho]; exact List.Perm.refl _
  · have h1 : (m.put 1 0 []).open_ now 0 = m.open_ now 0 := rfl
    have h2 : (m.put 1 0 []).open_ now 2 = m.open_ now 2 := rfl
    refine ⟨?_, ?_⟩
    · unfold closeAll; rw [open_put, h1, h2, ho]; rfl
    · unfold opened; rw [open_put, h1, h2, ho]
      show (m.x1 ++ ((if m.open_ now 0 then m.x0 else []) ++ ([] ++ (if m.open_ now 2 then m.x2 else [])))).Perm ((if m.open_ now 0 then m.x0 else []) ++ (m.x1 ++ (if m.open_ now 2 then m.x2 else [])))
      rw [List.nil_append, ← List.append_assoc, ← List.append_assoc]
      exact List.Perm.append_right _ List.perm_append_comm
  · have h1 : (m.put 2 0 []).open_ now 0 = m.open_ now 0 := rfl
    have h2 : (m.put 2 0 []).open_ now 1 = m.open_ now 1 := rfl
    refine ⟨?_, ?_⟩
    · unfold closeAll; rw [open_put, h1, h2, ho]; rfl
    · unfold opened; rw [open_put, h1, h2, ho]
      show (m.x2 ++ ((if m.open_ now 0 then m.x0 else []) ++ ((if m.open_ now 1 then m.x1 else []) ++ []))).Perm ((if m.open_ now 0 then m.x0 else []) ++ ((if m.open_ now 1 then m.x1 else []) ++ m.x2))
      rw [List.append_nil, ← List.append_assoc (if m.open_ now 0 then m.x0 else [])]
      exact List.perm_append_comm
theorem cnt_zero {m : Lm} (h : m.cnt = 0) : ∀ j, m.items j = [] := by
  unfold Lm.cnt one at h
  intro j
  have h0 : m.x0 = [] := by false_or_by_contra; rename_i hh; simp [hh] at h
  have h1 : m.x1 = [] := by false_or_by_contra; rename_i hh; simp [hh] at h
  have h2 : m.x2 = [] := by false_or_by_contra; rename_i hh; simp [hh] at h
  unfold Lm.items
  split
  · exact h0
  · exact h1
  · exact h2
theorem readyM_spec {now : Int} : ∀ (f : Nat) (m : Lm), m.cnt ≤ f → (readyM now f m).2 = closeAll now m ∧ (readyM now f m).1.Perm (opened now m)
  | 0, m, h => by
    have hz := cnt_zero (m := m) (by omega)
    have hn : ∀ j, j < 3 → m.open_ now j = false := fun j _ => by simp [Lm.open_, openM, hz j]
    have := close_none hn
    rw [this.1, this.2]
    exact ⟨rfl, List.Perm.refl _⟩
  | f + 1, m, h => by
    cases hl : leastUp now m 3 with
    | none =>
      have := close_none (leastUp_none hl)
      rw [this.1, this.2]
      simp [readyM, hl]
    | some j =>
      obtain ⟨hj, ho⟩ := leastUp_lt hl
      have hc := cnt_put hj (open_ne ho)
      have ih := readyM_spec (now := now) f (m.put j 0 []) (by omega)
      have hp := close_put hj ho
      simp only [readyM, hl]
      exact ⟨ih.1.trans hp.1, (List.Perm.append_left _ ih.2).trans hp.2⟩
theorem readyAll_spec {now : Int} {m : Lm} (h : 2 ≤ now) : (readyAll now m).2 = closeAll now m ∧ (readyAll now m).1.Perm (opened now m) := by
  unfold readyAll
  rw [if_pos h]
  exact readyM_spec _ _ (Nat.le_refl _)
theorem size_retire (m : Lm) (tag : Int) (ys : List Int) : (retireM m tag ys).size ≤ m.size + ys.length ∧ (outM m tag).length ≤ m.size := by
  have hlt : bucketOf tag < 3 := Nat.mod_lt _ (by omega)
  unfold retireM outM
  generalize bucketOf tag = k at *
  rcases (show k = 0 ∨ k = 1 ∨ k = 2 by omega) with rfl | rfl | rfl <;> constructor <;> split <;> simp [Lm.size, Lm.put, Lm.items] <;> omega
theorem size_ready (now : Int) (m : Lm) : (readyAll now m).1.length + (readyAll now m).2.size = m.size := by
  by_cases h : 2 ≤ now
  · have := readyAll_spec (m := m) h
    rw [this.1, this.2.length_eq]
    unfold opened closeAll Lm.size
    simp only [List.length_append]
    cases m.open_ now 0 <;> cases m.open_ now 1 <;> cases m.open_ now 2 <;> simp <;> omega
  · unfold readyAll
    rw [if_neg h]; simp
end Go.Proofs.YtnbkjcmmjgkdaaaGreat
