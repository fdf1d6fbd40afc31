/-
  Parts of the proof, merged: what the statement leans on.
-/
import Derived.Test.YtnbkjcmmjgkdaaaGreatZGbC
/-
  A limbo in plain words: three buckets; what a Retire takes in, what a Ready hands out.
-/
set_option linter.unusedVariables false
set_option linter.unusedSimpArgs false
namespace Go.Proofs.YtnbkjcmmjgkdaaaGreat
/-- A limbo: three buckets, each a tag and its items; the last tag. -/
structure Lm where
  t0 : Int
  x0 : List Int
  t1 : Int
  x1 : List Int
  t2 : Int
  x2 : List Int
  last : Int
def Lm.tag (m : Lm) (k : Nat) : Int := match k with | 0 => m.t0 | 1 => m.t1 | _ => m.t2
def Lm.items (m : Lm) (k : Nat) : List Int := match k with | 0 => m.x0 | 1 => m.x1 | _ => m.x2
def Lm.put (m : Lm) (k : Nat) (t : Int) (xs : List Int) : Lm := match k with
  | 0 => { m with t0 := t, x0 := xs }
  | 1 => { m with t1 := t, x1 := xs }
  | _ => { m with t2 := t, x2 := xs }
def Lm.nil : Lm := ⟨0, [], 0, [], 0, [], 0⟩
def Lm.size (m : Lm) : Nat := m.x0.length + m.x1.length + m.x2.length
/-- What a Retire takes in, what comes out. -/
def refused (m : Lm) (tag : Int) (ys : List Int) : Prop := ys = [] ∨ tag < 0 ∨ 4611686018427387903 < tag ∨ tag < m.last
def bucketOf (tag : Int) : Nat := tag.toNat % 3
def outM (m : Lm) (tag : Int) : List Int := if m.tag (bucketOf tag) < tag then m.items (bucketOf tag) else []
def retireM (m : Lm) (tag : Int) (ys : List Int) : Lm := { m.put (bucketOf tag) tag ((if m.tag (bucketOf tag) < tag then [] else m.items (bucketOf tag)) ++ ys) with last := tag }
/-- Is a bucket open? -/
def openM (now t : Int) (xs : List Int) : Bool := decide (0 < xs.length ∧ t ≤ now - 2)
def Lm.open_ (m : Lm) (now : Int) (k : Nat) : Bool := openM now (m.tag k) (m.items k)
/-- The open one of the least tag, of the first k. -/
def leastUp (now : Int) (m : Lm) : Nat → Option Nat
  | 0 => none
  | k + 1 => bif m.open_ now k then (match leastUp now m k with | none => some k | some j => if m.tag k < m.tag j then some k else some j) else leastUp now m k
theorem leastUp_lt {now : Int} {m : Lm} : ∀ {k j : Nat}, leastUp now m k = some j → j < k ∧ m.open_ now j = true
  | 0, j, h => by cases h
  | k + 1, j, h => by
    unfold leastUp at h
    cases ho : m.open_ now k with
    | false =>
      rw [ho, cond_false] at h
      have := leastUp_lt h
      exact ⟨by omega, this.2⟩
    | true =>
      rw [ho, cond_true] at h
      split at h
      · cases h; exact ⟨by omega, ho⟩
      · rename_i i hi
        have := leastUp_lt hi
        split at h
        · cases h; exact ⟨by omega, ho⟩
        · cases h; exact ⟨by omega, this.2⟩
theorem leastUp_no {now : Int} {m : Lm} {k : Nat} (h : m.open_ now k = false) : leastUp now m (k + 1) = leastUp now m k := by simp [leastUp, h]
theorem leastUp_first {now : Int} {m : Lm} {k : Nat} (h : m.open_ now k = true) (h2 : leastUp now m k = none) : leastUp now m (k + 1) = some k := by simp [leastUp, h, h2]
theorem leastUp_less {now : Int} {m : Lm} {k j : Nat} (h : m.open_ now k = true) (h2 : leastUp now m k = some j) (h3 : m.tag k < m.tag j) : leastUp now m (k + 1) = some k := by simp [leastUp, h, h2, h3]
theorem leastUp_keep {now : Int} {m : Lm} {k j : Nat} (h : m.open_ now k = true) (h2 : leastUp now m k = some j) (h3 : ¬ m.tag k < m.tag j) : leastUp now m (k + 1) = some j := by simp [leastUp, h, h2, h3]
def one (xs : List Int) : Nat := if xs = [] then 0 else 1
def Lm.cnt (m : Lm) : Nat := one m.x0 + one m.x1 + one m.x2
def readyM (now : Int) : Nat → Lm → List Int × Lm
  | 0, m => ([], m)
  | f + 1, m => match leastUp now m 3 with
    | none => ([], m)
    | some j => (m.items j ++ (readyM now f (m.put j 0 [])).1, (readyM now f (m.put j 0 [])).2)
/-- What a Ready hands out, and what is left. -/
def readyAll (now : Int) (m : Lm) : List Int × Lm := if 2 ≤ now then readyM now m.cnt m else ([], m)
theorem cnt_put {m : Lm} {j : Nat} (hj : j < 3) (hx : m.items j ≠ []) : m.cnt = (m.put j 0 []).cnt + 1 := by
  rcases (show j = 0 ∨ j = 1 ∨ j = 2 by omega) with rfl | rfl | rfl <;> simp [Lm.cnt, Lm.put, one, Lm.items] at hx ⊢ <;> simp [hx] <;> omega
theorem open_ne {now : Int} {m : Lm} {j : Nat} (h : m.open_ now j = true) : m.items j ≠ [] := by
  intro e
  simp [Lm.open_, openM, e] at h
theorem size_put {m : Lm} {j : Nat} (hj : j < 3) : m.size = (m.put j 0 []).size + (m.items j).length := by
  rcases (show j = 0 ∨ j = 1 ∨ j = 2 by omega) with rfl | rfl | rfl <;> simp [Lm.size, Lm.put, Lm.items] <;> omega
theorem leastUp_none {now : Int} {m : Lm} : ∀ {k : Nat}, leastUp now m k = none → ∀ j, j < k → m.open_ now j = false
  | 0, _, j, hj => by omega
  | k + 1, h, j, hj => by
    unfold leastUp at h
    cases ho : m.open_ now k with
    | true =>
      rw [ho, cond_true] at h
      split at h
      · cases h
      · split at h <;> cases h
    | false =>
      rw [ho, cond_false] at h
      rcases (show j < k ∨ j = k by omega) with h1 | rfl
      · exact leastUp_none h j h1
      · exact ho
/-- The open buckets emptied. -/
def closeAll (now : Int) (m : Lm) : Lm :=
  ⟨if m.open_ now 0 then 0 else m.t0, if m.open_ now 0 then [] else m.x0, if m.open_ now 1 then 0 else m.t1, if m.open_ now 1 then [] else m.x1, if m.open_ now 2 then 0 else m.t2, if m.open_ now 2 then [] else m.x2, m.last⟩
/-- What is in the open buckets. -/
def opened (now : Int) (m : Lm) : List Int := (if m.open_ now 0 then m.x0 else []) ++ ((if m.open_ now 1 then m.x1 else []) ++ (if m.open_ now 2 then m.x2 else []))
theorem close_none {now : Int} {m : Lm} (h : ∀ j, j < 3 → m.open_ now j = false) : closeAll now m = m ∧ opened now m = [] := by
  simp [closeAll, opened, h 0 (by omega), h 1 (by omega), h 2 (by omega)]
theorem open_put {now : Int} {m : Lm} {j : Nat} : (m.put j 0 []).open_ now j = false := by
  match j with
  | 0 => simp [Lm.open_, openM, Lm.put, Lm.items]
  | 1 => simp [Lm.open_, openM, Lm.put, Lm.items]
  | n + 2 => simp [Lm.open_, openM, Lm.put, Lm.items]
theorem close_put {now : Int} {m : Lm} {j : Nat} (hj : j < 3) (ho : m.open_ now j = true) : closeAll now (m.put j 0 []) = closeAll now m ∧ (m.items j ++ opened now (m.put j 0 [])).Perm (opened now m) := by
  rcases (show j = 0 ∨ j = 1 ∨ j = 2 by omega) with rfl | rfl | rfl
  · have h1 : (m.put 0 0 []).open_ now 1 = m.open_ now 1 := rfl
    have h2 : (m.put 0 0 []).open_ now 2 = m.open_ now 2 := rfl
    refine ⟨?_, ?_⟩
    · unfold closeAll; rw [open_put, h1, h2, ho]; rfl
    · unfold opened; rw [open_put, h1, h2, ho]; exact List.Perm.refl _
  · have h1 : (m.put 1 0 []).open_ now 0 = m.open_ now 0 := rfl
    have h2 : (m.put 1 0 []).open_ now 2 = m.open_ now 2 := rfl
    refine ⟨?_, ?_⟩
    · unfold closeAll; rw [open_put, h1, h2, ho]; rfl
    · unfold opened; rw [open_put, h1, h2, ho]
      show (m.x1 ++ ((if m.open_ now 0 then m.x0 else []) ++ ([] ++ (if m.open_ now 2 then m.x2 else [])))).Perm ((if m.open_ now 0 then m.x0 else []) ++ (m.x1 ++ (if m.open_ now 2 then m.x2 else [])))
      rw [List.nil_append, ← List.append_assoc, ← List.append_assoc]
      exact List.Perm.append_right _ List.perm_append_comm
  · have h1 : (m.put 2 0 []).open_ now 0 = m.open_ now 0 := rfl
    have h2 : (m.put 2 0 []).open_ now 1 = m.open_ now 1 := rfl
    refine ⟨?_, ?_⟩
    · unfold closeAll; rw [open_put, h1, h2, ho]; rfl
    · unfold opened; rw [open_put, h1, h2, ho]
      show (m.x2 ++ ((if m.open_ now 0 then m.x0 else []) ++ ((if m.open_ now 1 then m.x1 else []) ++ []))).Perm ((if m.open_ now 0 then m.x0 else []) ++ ((if m.open_ now 1 then m.x1 else []) ++ m.x2))
      rw [List.append_nil, ← List.append_assoc (if m.open_ now 0 then m.x0 else [])]
      exact List.perm_append_comm
theorem cnt_zero {m : Lm} (h : m.cnt = 0) : ∀ j, m.items j = [] := by
  unfold Lm.cnt one at h
  intro j
  have h0 : m.x0 = [] := by false_or_by_contra; rename_i hh; simp [hh] at h
  have h1 : m.x1 = [] := by false_or_by_contra; rename_i hh; simp [hh] at h
  have h2 : m.x2 = [] := by false_or_by_contra; rename_i hh; simp [hh] at h
  unfold Lm.items
  split
  · exact h0
  · exact h1
  · exact h2
theorem readyM_spec {now : Int} : ∀ (f : Nat) (m : Lm), m.cnt ≤ f → (readyM now f m).2 = closeAll now m ∧ (readyM now f m).1.Perm (opened now m)
  | 0, m, h => by
    have hz := cnt_zero (m := m) (by omega)
    have hn : ∀ j, j < 3 → m.open_ now j = false := fun j _ => by simp [Lm.open_, openM, hz j]
    have := close_none hn
    rw [this.1, this.2]
    exact ⟨rfl, List.Perm.refl _⟩
  | f + 1, m, h => by
    cases hl : leastUp now m 3 with
    | none =>
      have := close_none (leastUp_none hl)
      rw [this.1, this.2]
      simp [readyM, hl]
    | some j =>
      obtain ⟨hj, ho⟩ := leastUp_lt hl
      have hc := cnt_put hj (open_ne ho)
      have ih := readyM_spec (now := now) f (m.put j 0 []) (by omega)
      have hp := close_put hj ho
      simp only [readyM, hl]
      exact ⟨ih.1.trans hp.1, (List.Perm.append_left _ ih.2).trans hp.2⟩
theorem readyAll_spec {now : Int} {m : Lm} (h : 2 ≤ now) : (readyAll now m).2 = closeAll now m ∧ (readyAll now m).1.Perm (opened now m) := by
  unfold readyAll
  rw [if_pos h]
  exact readyM_spec _ _ (Nat.le_refl _)
theorem size_retire (m : Lm) (tag : Int) (ys : List Int) : (retireM m tag ys).size ≤ m.size + ys.length ∧ (outM m tag).length ≤ m.size := by
  have hlt : bucketOf tag < 3 := Nat.mod_lt _ (by omega)
  unfold retireM outM
  generalize bucketOf tag = k at *
  rcases (show k = 0 ∨ k = 1 ∨ k = 2 by omega) with rfl | rfl | rfl <;> constructor <;> split <;> simp [Lm.size, Lm.put, Lm.items] <;> omega
theorem size_ready (now : Int) (m : Lm) : (readyAll now m).1.length + (readyAll now m).2.size = m.size := by
  by_cases h : 2 ≤ now
  · have := readyAll_spec (m := m) h
    rw [this.1, this.2.length_eq]
    unfold opened closeAll Lm.size
    simp only [List.length_append]
    cases m.open_ now 0 <;> cases m.open_ now 1 <;> cases m.open_ now 2 <;> simp <;> omega
  · unfold readyAll
    rw [if_neg h]; simp
end Go.Proofs.YtnbkjcmmjgkdaaaGreat

/-
  Supplies in plain words: stash and limbo; Take, Give, one access at a time.
-/
set_option linter.unusedVariables false
set_option linter.unusedSimpArgs false
namespace Go.Proofs.YtnbkjcmmjgkdaaaGreat
/-- A cell's epoch. -/
def cutE (w : Nat) : Int := min (w : Int) 4611686018427387903
/-- A supply: the greatest number that the stash keeps, the stash, the limbo. -/
structure SupS where
  most : Int
  xs : List Int
  lm : Lm
def SupS.nil (most : Int) : SupS := ⟨min (max most 0) 64, [], Lm.nil⟩
def SupS.give (s : SupS) (l : List Int) : SupS := { s with xs := s.xs ++ l }
def SupS.ready (s : SupS) (now : Int) : SupS := ⟨s.most, s.xs ++ (readyAll now s.lm).1, (readyAll now s.lm).2⟩
/-- One out of the stash. -/
def SupS.kept (s : SupS) : SupS := { s with xs := s.xs.dropLast }
/-- A Take: at: 0: the Load of the epoch, 1: the Pop. -/
structure TakeS where
  at_ : Nat
  chunk : Int
  is_ : Bool
  seen : Int
  q : PopS
  done : Bool
def TakeS.none_ : TakeS := ⟨0, 0, false, -1, PopS.init 1, false⟩
/-- Kept, or not. -/
def keepT (s : SupS) (t : TakeS) : Option (SupS × TakeS) := if s.xs = [] then none else some (s.kept, { t with chunk := lastI s.xs, is_ := true, done := true })
def takeInit (batch : Int) (s : SupS) : SupS × TakeS :=
  match keepT s TakeS.none_ with
  | some r => r
  | none => if 0 < s.lm.size then (s, TakeS.none_) else (s, { TakeS.none_ with at_ := 1, q := PopS.init batch })
def popped (s : SupS) (t : TakeS) : SupS × TakeS :=
  match t.q.got with
  | [] => (s, { t with done := true })
  | x :: l => (s.give l, { t with chunk := x, is_ := true, done := true })
/-- The cell of the epoch is 2. -/
def takeStep (k : Sk) (batch : Int) (m : Mm) (s : SupS) (t : TakeS) : Mm × SupS × TakeS :=
  if t.done then (m, s, t) else
  match t.at_ with
  | 0 =>
    let t1 : TakeS := { t with seen := cutE (m.at_ 2) }
    let s1 := s.ready (cutE (m.at_ 2))
    match keepT s1 t1 with
    | some r => (m.tick, r)
    | none => (m.tick, s1, { t1 with at_ := 1, q := PopS.init batch })
  | _ =>
    let r := popStep k m t.q
    let t1 : TakeS := { t with q := r.1 }
    if r.1.done then (r.2, popped s t1) else (r.2, s, t1)
end Go.Proofs.YtnbkjcmmjgkdaaaGreat

/-
  A stack's list in its cells; a Pop alone, a Push alone.
-/
set_option linter.unusedVariables false
set_option linter.unusedSimpArgs false
namespace Go.Proofs.YtnbkjcmmjgkdaaaGreat
/-- From an item on: what is in the links. -/
def ChainL (k : Sk) (m : Mm) : Int → List Int → Prop
  | i, [] => i = -1
  | i, x :: l => i = x ∧ 0 ≤ x ∧ x < k.n ∧ ChainL k m (k.below (m.at_ (k.links + x.toNat))) l
/-- What is in a stack. -/
structure Pool (k : Sk) (m : Mm) (l : List Int) : Prop where
  c : ChainL k m (k.top (m.at_ k.head)) l
  nd : l.Nodup
theorem ChainL.mem {k : Sk} {m : Mm} : ∀ {l : List Int} {i : Int}, ChainL k m i l → ∀ x ∈ l, 0 ≤ x ∧ x < k.n
  | [], _, _, x, hx => by cases hx
  | y :: l, i, h, x, hx => by
    obtain ⟨_, h1, h2, h3⟩ := h
    rcases List.mem_cons.1 hx with rfl | hx
    · exact ⟨h1, h2⟩
    · exact h3.mem x hx
/-- Only the links of what is in it count. -/
theorem ChainL.congr {k : Sk} {m m' : Mm} : ∀ {l : List Int} {i : Int}, ChainL k m i l → (∀ x ∈ l, m'.at_ (k.links + x.toNat) = m.at_ (k.links + x.toNat)) → ChainL k m' i l
  | [], _, h, _ => h
  | y :: l, i, h, e => by
    obtain ⟨h0, h1, h2, h3⟩ := h
    refine ⟨h0, h1, h2, ?_⟩
    rw [e y (by simp)]
    exact h3.congr fun x hx => e x (by simp [hx])
theorem ChainL.head_ {k : Sk} {m : Mm} {l : List Int} {i : Int} (h : ChainL k m i l) : i = l.headD (-1) := by
  cases l with
  | nil => exact h
  | cons x l => exact h.1
/-- Into the list: what is behind its first ones. -/
theorem ChainL.drop_ {k : Sk} {m : Mm} : ∀ {l : List Int} {i : Int} {j : Nat}, ChainL k m i l → (hj : j < l.length) → ChainL k m (k.below (m.at_ (k.links + (l[j]).toNat))) (l.drop (j + 1))
  | x :: l, i, 0, h, _ => by simpa using h.2.2.2
  | x :: l, i, j + 1, h, hj => by
    have := h.2.2.2.drop_ (j := j) (by simpa using hj)
    simpa using this
/-- So many steps. -/
def popIt (k : Sk) : Nat → PopS × Mm → PopS × Mm
  | 0, s => s
  | n + 1, s => popIt k n (popStep k s.2 s.1)
theorem popIt_add (k : Sk) : ∀ (a b : Nat) (s : PopS × Mm), popIt k (a + b) s = popIt k b (popIt k a s)
  | 0, b, s => by simp [popIt]
  | a + 1, b, s => by
    rw [show a + 1 + b = (a + b) + 1 by omega]
    exact popIt_add k a b _
theorem popIt_succ (k : Sk) (a : Nat) (s : PopS × Mm) : popIt k (a + 1) s = popStep k (popIt k a s).2 (popIt k a s).1 := popIt_add k a 1 s
def Mm.add (m : Mm) (j : Nat) : Mm := ⟨m.ws, m.n + j⟩
/-- A Pop alone, with some of the list taken already. -/
theorem pop_links {k : Sk} {m : Mm} {l : List Int} (hp : Pool k m l) (most : Int) (h1 : 1 ≤ most) (h8 : most ≤ 8) (hl : l ≠ []) :
    ∀ j : Nat, 1 ≤ j → (j : Int) ≤ most → j ≤ l.length → ∃ u : Int, popIt k j (PopS.init most, m) = (⟨most, 1, u, m.at_ k.head, l.take j, false⟩, m.add j) := by
  intro j
  induction j with
  | zero => intro h; omega
  | succ j ih =>
    intro _ hm hj
    rw [popIt_succ]
    by_cases hj0 : j = 0
    · subst hj0
      obtain ⟨x, l', rfl⟩ := List.exists_cons_of_ne_nil hl
      have hc := hp.c
      have e1 : k.top (m.at_ k.head) = x := hc.1
      have e2 := hc.2.1
      refine ⟨0, ?_⟩
      simp only [popIt, PopS.init, popStep, Bool.false_eq_true, if_false, e1, if_pos e2]
      simp [Mm.add, Mm.tick]
      omega
    · obtain ⟨u, hu⟩ := ih (by omega) (by omega) (by omega)
      rw [hu]
      have hlast : lastI (l.take j) = l[j - 1] := by
        unfold lastI
        rw [List.getLastD_eq_getLast?, List.getLast?_eq_getElem?]
        simp only [List.length_take, Nat.min_eq_left (show j ≤ l.length by omega)]
        rw [List.getElem?_take_of_lt (by omega), List.getElem?_eq_getElem (by omega)]; rfl
      have hd := hp.c.drop_ (j := j - 1) (by omega)
      rw [show j - 1 + 1 = j by omega, List.drop_eq_getElem_cons (by omega)] at hd
      have e1 : k.below (m.at_ (k.links + (l[j - 1]).toNat)) = l[j] := hd.1
      have e2 : 0 ≤ l[j] := hd.2.1
      refine ⟨l[j], ?_⟩
      have hat : ∀ i, (m.add j).at_ i = m.at_ i := fun _ => rfl
      have hlen : ((l.take j).length : Int) < most := by rw [List.length_take]; omega
      simp only [popStep, Bool.false_eq_true, if_false, hlast, hat, e1]
      rw [if_pos ⟨e2, hlen⟩, List.take_succ_eq_append_getElem (by omega)]
      simp [Mm.add, Mm.tick]; omega
theorem take_last {l : List Int} {j : Nat} (h0 : 0 < j) (hj : j ≤ l.length) : lastI (l.take j) = l[j - 1] := by
  unfold lastI
  rw [List.getLastD_eq_getLast?, List.getLast?_eq_getElem?]
  simp only [List.length_take, Nat.min_eq_left hj]
  rw [List.getElem?_take_of_lt (by omega), List.getElem?_eq_getElem (by omega)]; rfl
theorem pop_cas {k : Sk} {m : Mm} {l : List Int} (hp : Pool k m l) (most : Int) (h1 : 1 ≤ most) (h8 : most ≤ 8) (hl : l ≠ []) (c : Nat) (hc : (c : Int) = min most l.length) :
    popIt k (c + 1) (PopS.init most, m) = (⟨most, 2, (l.drop c).headD (-1), m.at_ k.head, l.take c, false⟩, m.add (c + 1)) := by
  have hlp := List.length_pos_iff.2 hl
  obtain ⟨u, hu⟩ := pop_links hp most h1 h8 hl c (by omega) (by omega) (by omega)
  rw [popIt_succ, hu]
  have hat : ∀ i, (m.add c).at_ i = m.at_ i := fun _ => rfl
  have hd := (hp.c.drop_ (j := c - 1) (by omega)).head_
  rw [show c - 1 + 1 = c by omega] at hd
  simp only [popStep, Bool.false_eq_true, if_false, take_last (l := l) (j := c) (by omega) (by omega), hat, hd]
  rw [if_neg]
  · simp [Mm.add, Mm.tick]; omega
  · rintro ⟨h2, h3⟩
    rw [List.length_take] at h3
    have : c = l.length := by omega
    rw [this, List.drop_length] at h2
    simp at h2
/-- A Pop alone, of a stack that is not empty. -/
theorem pop_alone {k : Sk} {m : Mm} {l : List Int} {len : Nat} (hk : k.ok len) (hml : m.ws.length = len) (hp : Pool k m l) (most : Int) (h1 : 1 ≤ most) (h8 : most ≤ 8) (hl : l ≠ []) (c : Nat) (hc : (c : Int) = min most l.length) :
    ∃ m', popIt k (c + 2) (PopS.init most, m) = (⟨most, 0, (l.drop c).headD (-1), m.at_ k.head, l.take c, true⟩, m') ∧ m'.n = m.n + (c + 2) ∧ m'.ws.length = len ∧ Pool k m' (l.drop c) ∧ (∀ a, a ≠ k.head → m'.at_ a = m.at_ a) ∧
      (∀ j, j < c + 2 → (popIt k j (PopS.init most, m)).1.done = false) := by
  have hlp := List.length_pos_iff.2 hl
  have hcas := pop_cas hp most h1 h8 hl c hc
  have hat : ∀ i, (m.add (c + 1)).at_ i = m.at_ i := fun _ => rfl
  have hn2 := hk.n2
  have hcd : (l.drop c).headD (-1) = k.below (m.at_ (k.links + (l[c - 1]).toNat)) := by
    have hd := (hp.c.drop_ (j := c - 1) (by omega)).head_
    rw [show c - 1 + 1 = c by omega] at hd
    exact hd.symm
  have hb1 := k.below_ge (m.at_ (k.links + (l[c - 1]).toNat))
  have hb2 := k.below_lt (m.at_ (k.links + (l[c - 1]).toNat))
  have hm1 : (m.add (c + 1)).ws.length = len := hml
  have hhd := hk.h
  have hput : ∀ a v, ((m.add (c + 1)).put k.head v).at_ a = if k.head = a then v else m.at_ a := fun a v => by
    rw [Mm.at_put _ (by omega), hat]
  refine ⟨(m.add (c + 1)).put k.head (nextW (m.at_ k.head) ((l.drop c).headD (-1))), ?_, ?_, ?_, ⟨?_, ?_⟩, ?_, ?_⟩
  · rw [show c + 2 = (c + 1) + 1 by omega, popIt_succ, hcas]
    simp [popStep, hat, Mm.cas]
  · simp [Mm.put, Mm.add]; omega
  · rw [Mm.len_put]; exact hml
  · have e1 : k.top (nextW (m.at_ k.head) ((l.drop c).headD (-1))) = (l.drop c).headD (-1) := by
      unfold Sk.top
      rw [hdI_next (by omega) (by omega), if_pos (by omega)]
    rw [hput, if_pos rfl, e1, hcd]
    have hd := hp.c.drop_ (j := c - 1) (by omega)
    rw [show c - 1 + 1 = c by omega] at hd
    refine hd.congr fun x hx => ?_
    have hx2 := hp.c.mem x (List.mem_of_mem_drop hx)
    rw [hput, if_neg]
    have := hk.a; have := hk.l
    omega
  · exact hp.nd.sublist (List.drop_sublist _ _)
  · intro a ha
    rw [hput, if_neg (fun h => ha h.symm)]
  · intro j hj
    by_cases h0 : j = 0
    · subst h0; rfl
    · by_cases hjc : j ≤ c
      · obtain ⟨u, hu⟩ := pop_links hp most h1 h8 hl j (by omega) (by omega) (by omega)
        rw [hu]
      · rw [show j = c + 1 by omega, hcas]
/-- A Pop alone, of an empty stack. -/
theorem pop_none {k : Sk} {m : Mm} (hp : Pool k m []) (most : Int) : popStep k m (PopS.init most) = (⟨min (max most 1) 8, 0, 0, m.at_ k.head, [], true⟩, m.tick) := by
  have e1 : k.top (m.at_ k.head) = -1 := hp.c
  simp [popStep, PopS.init, e1]
def pushIt (k : Sk) : Nat → PushS × Mm → PushS × Mm
  | 0, s => s
  | n + 1, s => pushIt k n (pushStep k s.2 s.1)
theorem pushIt_add (k : Sk) : ∀ (a b : Nat) (s : PushS × Mm), pushIt k (a + b) s = pushIt k b (pushIt k a s)
  | 0, b, s => by simp [pushIt]
  | a + 1, b, s => by
    rw [show a + 1 + b = (a + b) + 1 by omega]
    exact pushIt_add k a b _
theorem pushIt_succ (k : Sk) (a : Nat) (s : PushS × Mm) : pushIt k (a + 1) s = pushStep k (pushIt k a s).2 (pushIt k a s).1 := pushIt_add k a 1 s
theorem nodup_inj {l : List Int} (h : l.Nodup) {i j : Nat} (hi : i < l.length) (hj : j < l.length) (e : l[i] = l[j]) : i = j := by
  have hp := List.pairwise_iff_getElem.1 h
  rcases Nat.lt_trichotomy i j with h1 | h1 | h1
  · exact absurd e (hp i j hi hj h1)
  · exact h1
  · exact absurd e.symm (hp j i hj hi h1)
theorem Sk.below_link (k : Sk) {i : Int} (h1 : -1 ≤ i) (h2 : i < k.n) : k.below (i + 1).toNat = i := by
  unfold Sk.below
  rw [if_neg (by omega)]
  omega
theorem itI_eq {l : List Int} {i : Nat} (h : i < l.length) : itI l i = l[i] := by simp [itI, h]
/-- The links ahead of the last one. -/
theorem push_links {k : Sk} {m : Mm} {x : List Int} {len : Nat} (hk : k.ok len) (hml : m.ws.length = len) (hx : x ≠ []) (hnd : x.Nodup) (hr : ∀ i ∈ x, 0 ≤ i ∧ i < k.n) :
    ∀ j : Nat, j + 1 ≤ x.length → ∃ m', pushIt k j (PushS.init x, m) = (⟨x, j, 0, false⟩, m') ∧ m'.n = m.n + j ∧ m'.ws.length = len ∧
      (∀ i, i < j → m'.at_ (k.links + (itI x i).toNat) = (itI x (i + 1) + 1).toNat) ∧ (∀ a, (∀ i, i < j → a ≠ k.links + (itI x i).toNat) → m'.at_ a = m.at_ a) := by
  intro j
  induction j with
  | zero => intro _; exact ⟨m, by simp [pushIt, PushS.init, hx], rfl, hml, by omega, fun _ _ => rfl⟩
  | succ j ih =>
    intro hj
    obtain ⟨m', h1, h2, h3, h4, h5⟩ := ih (by omega)
    have hj1 := hr _ (itI_mem (l := x) (i := j) (by omega))
    have hlt : k.links + (itI x j).toNat < m'.ws.length := by have := hk.l; omega
    have hinj : ∀ a b, a < x.length → b < x.length → a ≠ b → k.links + (itI x a).toNat ≠ k.links + (itI x b).toNat := by
      intro a b ha hb hab e
      have ra := hr _ (itI_mem ha); have rb := hr _ (itI_mem hb)
      have : itI x a = itI x b := by omega
      rw [itI_eq ha, itI_eq hb] at this
      exact hab (nodup_inj hnd ha hb this)
    refine ⟨m'.put (k.links + (itI x j).toNat) (itI x (j + 1) + 1).toNat, ?_, ?_, ?_, ?_, ?_⟩
    · rw [pushIt_succ, h1]
      simp only [pushStep, Bool.false_eq_true, if_false]
      rw [if_pos (by omega)]
    · simp [Mm.put]; omega
    · rw [Mm.len_put]; exact h3
    · intro i hi
      rw [Mm.at_put _ hlt]
      by_cases hij : i = j
      · rw [hij, if_pos rfl]
      · rw [if_neg (hinj j i (by omega) (by omega) (by omega))]
        exact h4 i (by omega)
    · intro a ha
      rw [Mm.at_put _ hlt, if_neg (fun h => ha j (by omega) h.symm)]
      exact h5 a fun i hi => ha i (by omega)
theorem chain_app {k : Sk} {m : Mm} {t : Int} {l : List Int} : ∀ x : List Int, x ≠ [] → (∀ i ∈ x, 0 ≤ i ∧ i < k.n) → (∀ i, i + 1 < x.length → k.below (m.at_ (k.links + (itI x i).toNat)) = itI x (i + 1)) →
    k.below (m.at_ (k.links + (itI x (x.length - 1)).toNat)) = t → ChainL k m t l → ChainL k m (itI x 0) (x ++ l)
  | [], h, _, _, _, _ => absurd rfl h
  | [a], _, hr, _, hl, hc => ⟨rfl, (hr a (by simp)).1, (hr a (by simp)).2, by rw [show a = itI [a] ([a].length - 1) from rfl, hl]; exact hc⟩
  | a :: b :: r, _, hr, h, hl, hc => by
    refine ⟨rfl, (hr a (by simp)).1, (hr a (by simp)).2, ?_⟩
    have h0 := h 0 (by simp)
    rw [show itI (a :: b :: r) 0 = a from rfl, show itI (a :: b :: r) (0 + 1) = b from rfl] at h0
    rw [h0]
    exact chain_app (b :: r) (by simp) (fun i hi => hr i (by simp only [List.mem_cons] at hi ⊢; exact .inr hi)) (fun i hi => h (i + 1) (by simpa using hi)) hl hc
theorem Sk.ok.head_ne {k : Sk} {len : Nat} (hk : k.ok len) {x : Int} (h : 0 ≤ x ∧ x < k.n) : k.head ≠ k.links + x.toNat := by
  have := hk.a; have := hk.l
  omega
theorem toNat_ne {a : Nat} {x y : Int} (hx : 0 ≤ x) (hy : 0 ≤ y) (h : x ≠ y) : a + x.toNat ≠ a + y.toNat := by omega
/-- A Push alone: what is pushed is ahead of what was there. -/
theorem push_alone {k : Sk} {m : Mm} {l x : List Int} {len : Nat} (hk : k.ok len) (hml : m.ws.length = len) (hp : Pool k m l) (hx : x ≠ []) (hnd : x.Nodup) (hr : ∀ i ∈ x, 0 ≤ i ∧ i < k.n) (hdj : ∀ i ∈ x, i ∉ l) :
    ∃ m', pushIt k (x.length + 2) (PushS.init x, m) = (⟨x, x.length - 1, m.at_ k.head, true⟩, m') ∧ m'.n = m.n + (x.length + 2) ∧ m'.ws.length = len ∧ Pool k m' (x ++ l) ∧
      (∀ a, a ≠ k.head → (∀ i ∈ x, a ≠ k.links + i.toNat) → m'.at_ a = m.at_ a) ∧ (∀ j, j < x.length + 2 → (pushIt k j (PushS.init x, m)).1.done = false) := by
  have hlp := List.length_pos_iff.2 hx
  obtain ⟨n, hn⟩ : ∃ n, x.length = n + 1 := ⟨x.length - 1, by omega⟩
  obtain ⟨m1, h1, h2, h3, h4, h5⟩ := push_links hk hml hx hnd hr n (by omega)
  have hrn := hr _ (itI_mem (l := x) (i := n) (by omega))
  have hr0 := hr _ (itI_mem (l := x) (i := 0) (by omega))
  have hkl := hk.l; have hka := hk.a; have hkh := hk.h; have hkn := hk.n2
  have hlink : ∀ i ∈ x, k.head ≠ k.links + i.toNat := fun i hi => by have := hr i hi; omega
  have hh1 : m1.at_ k.head = m.at_ k.head := h5 _ fun i hi => hlink _ (itI_mem (by omega))
  have s1 : pushIt k (n + 1) (PushS.init x, m) = (⟨x, n + 1, m.at_ k.head, false⟩, m1.tick) := by
    rw [pushIt_succ, h1]
    simp only [pushStep, Bool.false_eq_true, if_false]
    rw [if_neg (by omega), if_pos hn.symm, hh1]
  have s2 : pushIt k (n + 2) (PushS.init x, m) = (⟨x, n + 2, m.at_ k.head, false⟩, m1.tick.put (k.links + (itI x n).toNat) (k.top (m.at_ k.head) + 1).toNat) := by
    rw [pushIt_succ, s1]
    simp only [pushStep, Bool.false_eq_true, if_false]
    rw [if_neg (by omega), if_neg (by omega), if_pos hn.symm, hn]
    rfl
  have hlt : k.links + (itI x n).toNat < m1.tick.ws.length := by show _ < m1.ws.length; omega
  have hm2 : ∀ a, (m1.tick.put (k.links + (itI x n).toNat) (k.top (m.at_ k.head) + 1).toNat).at_ a = if k.links + (itI x n).toNat = a then (k.top (m.at_ k.head) + 1).toNat else m1.at_ a := fun a => by rw [Mm.at_put _ hlt]; rfl
  generalize hM2 : m1.tick.put (k.links + (itI x n).toNat) (k.top (m.at_ k.head) + 1).toNat = m2 at s2 hm2
  have hl2 : m2.ws.length = len := by rw [← hM2, Mm.len_put]; exact h3
  have hn2 : m2.n = m.n + (n + 2) := by rw [← hM2]; simp [Mm.put, Mm.tick]; omega
  have hh2 : m2.at_ k.head = m.at_ k.head := by rw [hm2, if_neg (fun e => hlink _ (itI_mem (by omega)) e.symm), hh1]
  have hm3 : ∀ a, (m2.put k.head (nextW (m.at_ k.head) (itI x 0))).at_ a = if k.head = a then nextW (m.at_ k.head) (itI x 0) else m2.at_ a := fun a => Mm.at_put _ (by omega)
  refine ⟨m2.put k.head (nextW (m.at_ k.head) (itI x 0)), ?_, ?_, ?_, ⟨?_, ?_⟩, ?_, ?_⟩
  · rw [show x.length + 2 = (n + 2) + 1 by omega, pushIt_succ, s2]
    simp only [pushStep, Bool.false_eq_true, if_false]
    rw [if_neg (by omega), if_neg (by omega), if_neg (by omega), hh2]
    simp [Mm.cas, hh2]
  · simp [Mm.put]; omega
  · rw [Mm.len_put]; exact hl2
  · rw [hm3, if_pos rfl]
    have e1 : k.top (nextW (m.at_ k.head) (itI x 0)) = itI x 0 := by
      unfold Sk.top
      rw [hdI_next (by omega) (by omega), if_pos (by omega)]
    rw [e1]
    -- from the i-th item on
    have hchain : ChainL k (m2.put k.head (nextW (m.at_ k.head) (itI x 0))) (k.top (m.at_ k.head)) l := by
      refine hp.c.congr fun y hy => ?_
      have hy2 := hp.c.mem y hy
      have hyx : ∀ i, i < x.length → itI x i ≠ y := fun i hi e => hdj _ (itI_mem hi) (by rw [e]; exact hy)
      rw [hm3, if_neg (hk.head_ne hy2), hm2, if_neg (toNat_ne hrn.1 hy2.1 (hyx n (by omega))), h5]
      intro i hi
      exact (toNat_ne (hr _ (itI_mem (by omega))).1 hy2.1 (hyx i (by omega))).symm
    refine chain_app x hx hr (fun i hi => ?_) ?_ hchain
    · have hri := hr _ (itI_mem (l := x) (i := i) (by omega))
      have hri1 := hr _ (itI_mem (l := x) (i := i + 1) (by omega))
      have hne : k.links + (itI x n).toNat ≠ k.links + (itI x i).toNat := by
        intro e
        have e' : itI x n = itI x i := by omega
        rw [itI_eq (by omega), itI_eq (by omega)] at e'
        have := nodup_inj hnd _ _ e'
        omega
      rw [hm3, if_neg (hlink _ (itI_mem (by omega))), hm2, if_neg hne, h4 i (by omega)]
      exact k.below_link (by omega) (by omega)
    · rw [hn, Nat.add_sub_cancel, hm3, if_neg (hlink _ (itI_mem (by omega))), hm2, if_pos rfl]
      exact k.below_link (k.top_ge _) (k.top_lt _)
  · rw [List.nodup_append]
    exact ⟨hnd, hp.nd, fun a ha b hb e => hdj a ha (by rw [e]; exact hb)⟩
  · intro a ha hax
    rw [hm3, if_neg (fun h => ha h.symm), hm2, if_neg (fun e => hax _ (itI_mem (l := x) (i := n) (by omega)) e.symm), h5]
    exact fun i hi => hax _ (itI_mem (by omega))
  · intro j hj
    by_cases hj1 : j ≤ n
    · obtain ⟨m', e, _⟩ := push_links hk hml hx hnd hr j (by omega)
      rw [e]
    · by_cases hj2 : j = n + 1
      · rw [hj2, s1]
      · rw [show j = n + 2 by omega, s2]
theorem length_nodup : ∀ (n : Nat) (l : List Int), l.Nodup → (∀ x ∈ l, 0 ≤ x ∧ x < (n : Int)) → l.length ≤ n
  | 0, l, _, h => by
    cases l with
    | nil => simp
    | cons x l => have := h x (by simp); omega
  | n + 1, l, hd, h => by
    have h1 := length_nodup n (l.erase (n : Int)) (hd.erase _) fun x hx => by
      have h2 := h x (List.mem_of_mem_erase hx)
      have h3 : x ≠ n := fun e => by subst e; exact (List.Nodup.not_mem_erase hd) hx
      omega
    rw [List.length_erase] at h1
    split at h1 <;> omega
/-- A stack's list, walked along. -/
def walkL (k : Sk) (m : Mm) : Nat → Int → List Int
  | 0, _ => []
  | f + 1, i => if 0 ≤ i then i :: walkL k m f (k.below (m.at_ (k.links + i.toNat))) else []
theorem walk_chain {k : Sk} {m : Mm} : ∀ {f : Nat} {l : List Int} {i : Int}, ChainL k m i l → l.length ≤ f → walkL k m f i = l
  | 0, [], _, _, _ => rfl
  | 0, _ :: _, _, _, h => by simp at h
  | f + 1, [], i, h, _ => by
    have e : i = -1 := h
    subst e; rfl
  | f + 1, x :: l, i, h, hl => by
    obtain ⟨rfl, h1, h2, h3⟩ := h
    simp only [walkL, if_pos h1]
    rw [walk_chain h3 (by simpa using hl)]
def listK (k : Sk) (m : Mm) : List Int := walkL k m k.n (k.top (m.at_ k.head))
theorem list_pool {k : Sk} {m : Mm} {l : List Int} (h : Pool k m l) : listK k m = l := walk_chain h.c (length_nodup k.n l h.nd (h.c.mem))
/-- All of them. -/
def fillUp (k : Sk) (m : Mm) : Nat → Mm
  | 0 => m
  | i + 1 => (fillUp k m i).lay (k.links + i) (i + 2)
def fillM (k : Sk) (m : Mm) : Mm := ((fillUp k m k.n).lay (k.links + k.n - 1) 0).lay k.head 1
def iotaI (n : Nat) : List Int := (List.range n).map fun (i : Nat) => (i : Int)
theorem fillUp_len (k : Sk) (m : Mm) : ∀ i, (fillUp k m i).ws.length = m.ws.length
  | 0 => rfl
  | i + 1 => by simp only [fillUp, Mm.len_lay]; exact fillUp_len k m i
theorem fillUp_n (k : Sk) (m : Mm) : ∀ i, (fillUp k m i).n = m.n
  | 0 => rfl
  | i + 1 => fillUp_n k m i
theorem fillUp_ok {k : Sk} {m : Mm} (h : m.ok) : ∀ i, i ≤ 100000 → (fillUp k m i).ok
  | 0, _ => h
  | i + 1, hi => Mm.ok_lay (fillUp_ok h i (by omega)) (by omega)
theorem fillUp_at {k : Sk} {m : Mm} : ∀ {i : Nat}, k.links + i ≤ m.ws.length → (∀ j, j < i → (fillUp k m i).at_ (k.links + j) = j + 2) ∧ (∀ a, (∀ j, j < i → a ≠ k.links + j) → (fillUp k m i).at_ a = m.at_ a)
  | 0, _ => ⟨fun j hj => by omega, fun _ _ => rfl⟩
  | i + 1, h => by
    have ih := fillUp_at (k := k) (m := m) (i := i) (by omega)
    have hl := fillUp_len k m i
    refine ⟨fun j hj => ?_, fun a ha => ?_⟩
    · simp only [fillUp]
      rw [Mm.at_lay _ (by omega)]
      split
      · omega
      · exact ih.1 j (by omega)
    · simp only [fillUp]
      rw [Mm.at_lay _ (by omega), if_neg (fun e => ha i (by omega) e.symm)]
      exact ih.2 a fun j hj => ha j (by omega)
theorem fillM_len (k : Sk) (m : Mm) : (fillM k m).ws.length = m.ws.length := by unfold fillM; rw [Mm.len_lay, Mm.len_lay, fillUp_len]
theorem fillM_n (k : Sk) (m : Mm) : (fillM k m).n = m.n := fillUp_n k m k.n
theorem iota_nodup (n : Nat) : (iotaI n).Nodup := by
  unfold iotaI
  refine List.Pairwise.map _ (fun (a b : Nat) (h : a ≠ b) => ?_) List.nodup_range
  omega
theorem iota_get {n i : Nat} (h : i < n) : itI (iotaI n) i = i := by
  rw [itI_eq (by simpa [iotaI] using h)]
  simp [iotaI]
theorem fill_pool {k : Sk} {m : Mm} {len : Nat} (hk : k.ok len) (hl : m.ws.length = len) : Pool k (fillM k m) (iotaI k.n) ∧ (∀ a, a ≠ k.head → (∀ j, j < k.n → a ≠ k.links + j) → (fillM k m).at_ a = m.at_ a) := by
  have k1 := hk.n1; have k2 := hk.n2; have k3 := hk.h; have k4 := hk.l; have k5 := hk.a
  have hu := fillUp_at (k := k) (m := m) (i := k.n) (by omega)
  have hul := fillUp_len k m k.n
  have hat : ∀ a, (fillM k m).at_ a = if k.head = a then 1 else if k.links + k.n - 1 = a then 0 else (fillUp k m k.n).at_ a := fun a => by
    unfold fillM
    rw [Mm.at_lay _ (by rw [Mm.len_lay]; omega), Mm.at_lay _ (by omega)]
  have hlen : (iotaI k.n).length = k.n := by simp [iotaI]
  refine ⟨⟨?_, iota_nodup _⟩, fun a h1 h2 => ?_⟩
  · have h0 : k.top ((fillM k m).at_ k.head) = 0 := by
      rw [hat, if_pos rfl]
      unfold Sk.top hdI
      rw [if_pos (by omega)]; rfl
    rw [h0]
    have := chain_app (k := k) (m := fillM k m) (t := -1) (l := []) (iotaI k.n) (fun e => by rw [e] at hlen; simp at hlen; omega) (fun x hx => by
      simp only [iotaI, List.mem_map, List.mem_range] at hx
      obtain ⟨j, hj, rfl⟩ := hx
      omega) (fun i hi => ?_) ?_ rfl
    · rw [iota_get (by omega), List.append_nil] at this
      exact this
    · rw [iota_get (by omega), iota_get (by omega), Int.toNat_natCast, hat, if_neg (by omega), if_neg (by omega), hu.1 i (by omega)]
      have := k.below_link (i := ((i + 1 : Nat) : Int)) (by omega) (by omega)
      rw [show (((i + 1 : Nat) : Int) + 1).toNat = i + 2 by omega] at this
      exact this
    · rw [hlen, iota_get (by omega), Int.toNat_natCast, hat, if_neg (by omega), if_pos (by omega)]
      unfold Sk.below
      rw [if_neg (by omega)]; rfl
  · rw [hat, if_neg (fun e => h1 e.symm), if_neg (fun e => h2 (k.n - 1) (by omega) (by omega))]
    exact hu.2 a h2
end Go.Proofs.YtnbkjcmmjgkdaaaGreat

/-
  Which configurations may be, told by the program and by the document: one and the same.
-/
set_option linter.unusedVariables false
set_option linter.unusedSimpArgs false
namespace Go.Proofs.YtnbkjcmmjgkdaaaGreat
open Go
attribute [local irreducible] Sx Cx Rx Fx Krg Ksq Kbl Klp Kr
section
variable {L F : St}
/-- A configuration. -/
abbrev cfg (w c wd sl ca ba : Int) : Value := .agg #[.int .i64 w, .int .i64 c, .int .i64 wd, .int .i64 sl, .int .i64 ca, .int .i64 ba]
/-- It may be. -/
def MayC (w c wd sl ca ba : Int) : Prop := (1 ≤ w ∧ w ≤ 64) ∧ (1 ≤ c ∧ c ≤ 4096) ∧ (8 ≤ wd ∧ wd ≤ 1024) ∧ wd.tmod 8 = 0 ∧ (1 ≤ sl ∧ sl ≤ 4096) ∧ (0 ≤ ca ∧ ca ≤ 64) ∧ (1 ≤ ba ∧ ba ≤ 8)
instance (w c wd sl ca ba : Int) : Decidable (MayC w c wd sl ca ba) := by unfold MayC; infer_instance
theorem within_ (n lo hi : Int) : Fx Tryz.prog 117 [.int .i64 n, .int .i64 lo, .int .i64 hi] L (fun v L' => v = .bool (decide (lo ≤ n ∧ n ≤ hi)) ∧ L = L') := by
  refine Fx.mk Tryz.func117 k117 (Nat.le_of_ble_eq_true rfl) ?_
  dsimp only [c117, envOf, Nat.reduceAdd]
  refine go ?_
  refine Sx.ifp rfl (fun h => ?_) (fun h => ?_)
  · refine go ?_
    exact Kr.one (.inr rfl) rfl (Ent.refl _) ⟨by simp [pick, h], rfl⟩
  · refine go ?_
    exact Kr.one (.inr rfl) rfl (Ent.refl _) ⟨by simp [pick, h], rfl⟩
theorem may_ (w c wd sl ca ba : Int) : Fx Tryz.prog 56 [cfg w c wd sl ca ba] L (fun v L' => v = .bool (decide (MayC w c wd sl ca ba)) ∧ L = L') := by
  refine Fx.mk Tryz.func56 k56 (Nat.le_of_ble_eq_true rfl) ?_
  dsimp only [c56, envOf, Nat.reduceAdd]
  refine go ?_
  refine Sx.bx rfl rfl fun g => ?_
  refine go ?_
  refine Sx.ca rfl (within_ w 1 64) ?_
  rintro v L' ⟨rfl, rfl⟩
  refine go ?_
  refine Sx.ifp rfl (fun h1 => ?_) (fun h1 => ?_)
  rotate_left
  · refine go ?_
    exact Kr.one (.inr rfl) rfl Ent.drop ⟨by rw [decide_eq_false (fun h : MayC w c wd sl ca ba => h1 h.1)], rfl⟩
  refine go ?_
  refine Sx.ca rfl (within_ c 1 4096) ?_
  rintro v L' ⟨rfl, rfl⟩
  refine go ?_
  refine Sx.ifp rfl (fun h2 => ?_) (fun h2 => ?_)
  rotate_left
  · refine go ?_
    exact Kr.one (.inr rfl) rfl Ent.drop ⟨by rw [decide_eq_false (fun h : MayC w c wd sl ca ba => h2 h.2.1)], rfl⟩
  refine go ?_
  refine Sx.ca rfl (within_ wd 8 1024) ?_
  rintro v L' ⟨rfl, rfl⟩
  refine go ?_
  refine Sx.ifp rfl (fun h3 => ?_) (fun h3 => ?_)
  rotate_left
  · refine go ?_
    exact Kr.one (.inr rfl) rfl Ent.drop ⟨by rw [decide_eq_false (fun h : MayC w c wd sl ca ba => h3 h.2.2.1)], rfl⟩
  refine go ?_
  refine Sx.pv rfl (by decide) ?_
  refine go ?_
  refine Sx.ifp rfl (fun h4 => ?_) (fun h4 => ?_)
  rotate_left
  · refine go ?_
    exact Kr.one (.inr rfl) rfl Ent.drop ⟨by rw [decide_eq_false (fun h : MayC w c wd sl ca ba => h4 h.2.2.2.1)], rfl⟩
  refine go ?_
  refine Sx.ca rfl (within_ sl 1 4096) ?_
  rintro v L' ⟨rfl, rfl⟩
  refine go ?_
  refine Sx.ifp rfl (fun h5 => ?_) (fun h5 => ?_)
  rotate_left
  · refine go ?_
    exact Kr.one (.inr rfl) rfl Ent.drop ⟨by rw [decide_eq_false (fun h : MayC w c wd sl ca ba => h5 h.2.2.2.2.1)], rfl⟩
  refine go ?_
  refine Sx.ca rfl (within_ ca 0 64) ?_
  rintro v L' ⟨rfl, rfl⟩
  refine go ?_
  refine Sx.ifp rfl (fun h6 => ?_) (fun h6 => ?_)
  rotate_left
  · refine go ?_
    exact Kr.one (.inr rfl) rfl Ent.drop ⟨by rw [decide_eq_false (fun h : MayC w c wd sl ca ba => h6 h.2.2.2.2.2.1)], rfl⟩
  refine go ?_
  refine Sx.ca rfl (within_ ba 1 8) ?_
  rintro v L' ⟨rfl, rfl⟩
  refine go ?_
  refine Kr.one (.inr rfl) rfl Ent.drop ⟨?_, rfl⟩
  simp only [pick, cond_true, Value.bool.injEq, decide_eq_decide]
  exact ⟨fun h => ⟨h1, h2, h3, h4, h5, h6, h⟩, fun h => h.2.2.2.2.2.2⟩
theorem in_ (n lo hi : Int) : Fx Tryz.prog 108 [.int .i64 n, .int .i64 lo, .int .i64 hi] L (fun v L' => v = .bool (decide (lo ≤ n ∧ n ≤ hi)) ∧ L = L') := by
  refine Fx.mk Tryz.func108 k108 (Nat.le_of_ble_eq_true rfl) ?_
  dsimp only [c108, envOf, Nat.reduceAdd]
  refine go ?_
  refine Sx.ifp rfl (fun h => ?_) (fun h => ?_)
  · refine go ?_
    exact Kr.one (.inr rfl) rfl (Ent.refl _) ⟨by simp [pick, h], rfl⟩
  · refine go ?_
    exact Kr.one (.inr rfl) rfl (Ent.refl _) ⟨by simp [pick, h], rfl⟩
theorem refMay_ (w c wd sl ca ba : Int) : Fx Tryz.prog 159 [cfg w c wd sl ca ba] L (fun v L' => v = .bool (decide (MayC w c wd sl ca ba)) ∧ L = L') := by
  refine Fx.mk Tryz.func159 k159 (Nat.le_of_ble_eq_true rfl) ?_
  dsimp only [c159, envOf, Nat.reduceAdd]
  refine go ?_
  refine Sx.bx rfl rfl fun g => ?_
  refine go ?_
  refine Sx.ca rfl (in_ w 1 64) ?_
  rintro v L' ⟨rfl, rfl⟩
  refine go ?_
  refine Sx.ifp rfl (fun h1 => ?_) (fun h1 => ?_)
  rotate_left
  · refine go ?_
    exact Kr.one (.inr rfl) rfl Ent.drop ⟨by rw [decide_eq_false (fun h : MayC w c wd sl ca ba => h1 h.1)], rfl⟩
  refine go ?_
  refine Sx.ca rfl (in_ c 1 4096) ?_
  rintro v L' ⟨rfl, rfl⟩
  refine go ?_
  refine Sx.ifp rfl (fun h2 => ?_) (fun h2 => ?_)
  rotate_left
  · refine go ?_
    exact Kr.one (.inr rfl) rfl Ent.drop ⟨by rw [decide_eq_false (fun h : MayC w c wd sl ca ba => h2 h.2.1)], rfl⟩
  refine go ?_
  refine Sx.ca rfl (in_ wd 8 1024) ?_
  rintro v L' ⟨rfl, rfl⟩
  refine go ?_
  refine Sx.ifp rfl (fun h3 => ?_) (fun h3 => ?_)
  rotate_left
  · refine go ?_
    exact Kr.one (.inr rfl) rfl Ent.drop ⟨by rw [decide_eq_false (fun h : MayC w c wd sl ca ba => h3 h.2.2.1)], rfl⟩
  refine go ?_
  refine Sx.pv rfl (by decide) ?_
  refine go ?_
  refine Sx.ifp rfl (fun h4 => ?_) (fun h4 => ?_)
  rotate_left
  · refine go ?_
    exact Kr.one (.inr rfl) rfl Ent.drop ⟨by rw [decide_eq_false (fun h : MayC w c wd sl ca ba => h4 h.2.2.2.1)], rfl⟩
  refine go ?_
  refine Sx.ca rfl (in_ sl 1 4096) ?_
  rintro v L' ⟨rfl, rfl⟩
  refine go ?_
  refine Sx.ifp rfl (fun h5 => ?_) (fun h5 => ?_)
  rotate_left
  · refine go ?_
    exact Kr.one (.inr rfl) rfl Ent.drop ⟨by rw [decide_eq_false (fun h : MayC w c wd sl ca ba => h5 h.2.2.2.2.1)], rfl⟩
  refine go ?_
  refine Sx.ca rfl (in_ ca 0 64) ?_
  rintro v L' ⟨rfl, rfl⟩
  refine go ?_
  refine Sx.ifp rfl (fun h6 => ?_) (fun h6 => ?_)
  rotate_left
  · refine go ?_
    exact Kr.one (.inr rfl) rfl Ent.drop ⟨by rw [decide_eq_false (fun h : MayC w c wd sl ca ba => h6 h.2.2.2.2.2.1)], rfl⟩
  refine go ?_
  refine Sx.ca rfl (in_ ba 1 8) ?_
  rintro v L' ⟨rfl, rfl⟩
  refine go ?_
  refine Kr.one (.inr rfl) rfl Ent.drop ⟨?_, rfl⟩
  simp only [pick, cond_true, Value.bool.injEq, decide_eq_decide]
  exact ⟨fun h => ⟨h1, h2, h3, h4, h5, h6, h⟩, fun h => h.2.2.2.2.2.2⟩
end
end Go.Proofs.YtnbkjcmmjgkdaaaGreat

/-
  Lay: which cell is what.
-/
set_option linter.unusedVariables false
set_option linter.unusedSimpArgs false
namespace Go.Proofs.YtnbkjcmmjgkdaaaGreat
open Go
attribute [local irreducible] Sx Cx Rx Fx Krg Ksq Kbl Klp Kr
/-- Where the parts begin. -/
def startC (w c wd sl : Int) (i : Nat) : Int := match i with
  | 0 => 3
  | 1 => 3 + w
  | 2 => 3 + w + sl
  | 3 => 3 + w + sl + sl
  | 4 => 3 + w + sl + sl + c
  | _ => 3 + w + sl + sl + c + c * wd
/-- How many there are of each. -/
def manyC (w c wd sl : Int) (i : Nat) : Int := match i with
  | 0 => w
  | 1 => sl
  | 2 => sl
  | 3 => c
  | _ => c * wd
def lenC (w c wd sl : Int) : Int := 3 + w + sl + sl + c + c * wd
def frC (w c wd sl : Int) (i j : Nat) : Value := .int .i64 (bif Nat.blt j i then startC w c wd sl j else 0)
def partsL (w c wd sl : Int) (i : Nat) : List Value :=
  [.int .i64 3, frC w c wd sl i 0, .int .i64 w, .int .i64 4, frC w c wd sl i 1, .int .i64 sl, .int .i64 5, frC w c wd sl i 2, .int .i64 sl, .int .i64 6, frC w c wd sl i 3, .int .i64 c, .int .i64 7, frC w c wd sl i 4, .int .i64 (c * wd)]
theorem MayC.mul {w c wd sl ca ba : Int} (h : MayC w c wd sl ca ba) : 8 ≤ c * wd ∧ c * wd ≤ 4194304 := by
  obtain ⟨_, h2, h3, _⟩ := h
  constructor
  · have := Int.mul_le_mul h2.1 h3.1 (by omega) (by omega); omega
  · have := Int.mul_le_mul h2.2 h3.2 (by omega) (by omega); omega
section
variable {L F : St}
set_option maxHeartbeats 2000000 in
theorem layParts (w c wd sl ca ba : Int) (h : MayC w c wd sl ca ba) : Fx Tryz.prog 57 [cfg w c wd sl ca ba] L (fun v L' => v = .agg (partsL w c wd sl 5).toArray ∧ L = L') := by
  have hm := h.mul
  obtain ⟨h1, h2, h3, h4, h5, h6, h7⟩ := h
  refine Fx.mk Tryz.func57 k57 (Nat.le_of_ble_eq_true rfl) ?_
  dsimp only [c57, envOf, Nat.reduceAdd]
  refine Cx.sq ?_
  refine Cx.rg ?_
  refine Sx.bx rfl rfl fun g => ?_
  refine Sx.al fun r => ?_
  refine go ?_
  rw [w64 (n := c * wd) (by omega) (by omega)]
  refine Sx.al fun q => ?_
  refine Sx.st (b := q) rfl rfl rfl rfl rfl rfl ?_
  refine go ?_
  refine Cx.lp (α := {i : Nat // i ≤ 5}) (fun i => [(2, .pointer (some ⟨r, 0, none⟩)), (3, .pointer (some ⟨q, 0, none⟩)), (4, .int .i64 (startC w c wd sl i.1)), (25, .int .i64 i.1)])
    (fun i => pt (some ⟨q, 0, none⟩) (Blk 126 (partsL w c wd sl i.1)) :: pt (some ⟨r, 0, none⟩) (Blk 126 (List.replicate 15 (.int .i64 0))) :: L) (fun i => 5 - i.1) ⟨0, by omega⟩ (sub.cons rfl (sub.cons rfl (sub.cons rfl (sub.cons rfl sub.nil)))) (Ent.cons (Ent.cons Ent.drop)) ?_
  rintro ⟨i, hi⟩
  dsimp only
  rcases (show i = 0 ∨ i = 1 ∨ i = 2 ∨ i = 3 ∨ i = 4 ∨ i = 5 by omega) with rfl | rfl | rfl | rfl | rfl | rfl
  · refine gg ?_
    simp only [startC]
    rw [w64 (n := (3 : Int) + w) (by omega) (by omega)]
    exact Klp.nm ⟨0 + 1, by omega⟩ (sub.cons rfl (sub.cons rfl (sub.cons rfl (sub.cons rfl sub.nil)))) (Ent.refl _) (by simp)
  · refine gg ?_
    simp only [startC]
    rw [w64 (n := 3 + w + sl) (by omega) (by omega)]
    exact Klp.nm ⟨1 + 1, by omega⟩ (sub.cons rfl (sub.cons rfl (sub.cons rfl (sub.cons rfl sub.nil)))) (Ent.refl _) (by simp)
  · refine gg ?_
    simp only [startC]
    rw [w64 (n := 3 + w + sl + sl) (by omega) (by omega)]
    exact Klp.nm ⟨2 + 1, by omega⟩ (sub.cons rfl (sub.cons rfl (sub.cons rfl (sub.cons rfl sub.nil)))) (Ent.refl _) (by simp)
  · refine gg ?_
    simp only [startC]
    rw [w64 (n := 3 + w + sl + sl + c) (by omega) (by omega)]
    exact Klp.nm ⟨3 + 1, by omega⟩ (sub.cons rfl (sub.cons rfl (sub.cons rfl (sub.cons rfl sub.nil)))) (Ent.refl _) (by simp)
  · refine gg ?_
    simp only [startC]
    rw [w64 (n := 3 + w + sl + sl + c + c * wd) (by omega) (by omega)]
    exact Klp.nm ⟨4 + 1, by omega⟩ (sub.cons rfl (sub.cons rfl (sub.cons rfl (sub.cons rfl sub.nil)))) (Ent.refl _) (by simp)
  · refine go ?_
    refine Sx.st (b := r) rfl rfl rfl rfl rfl rfl ?_
    refine go ?_
    exact Kr_cell (b := r) (.inr rfl) rfl rfl (L' := L) (Ent.trans Ent.drop Ent.drop) ⟨rfl, rfl⟩
theorem layLen (w c wd sl ca ba : Int) (h : MayC w c wd sl ca ba) : Fx Tryz.prog 13 [cfg w c wd sl ca ba] L (fun v L' => v = .int .i64 (lenC w c wd sl) ∧ L = L') := by
  have hm := h.mul
  refine Fx.mk Tryz.func13 k13 (Nat.le_of_ble_eq_true rfl) ?_
  dsimp only [c13, envOf, Nat.reduceAdd]
  refine Cx.sq ?_
  refine Cx.rg ?_
  refine Sx.bx rfl rfl fun g => ?_
  refine go ?_
  refine Sx.ca rfl (may_ w c wd sl ca ba) ?_
  rintro v L' ⟨rfl, rfl⟩
  rw [decide_eq_true h]
  refine go ?_
  refine Sx.ca rfl (layParts w c wd sl ca ba h) ?_
  rintro v L' ⟨rfl, rfl⟩
  obtain ⟨h1, h2, h3, h4, h5, h6, h7⟩ := h
  refine Sx.al fun q => ?_
  refine Sx.st (b := q) rfl rfl rfl rfl rfl rfl ?_
  refine gg ?_
  refine Sx.al fun r => ?_
  refine Sx.st (b := r) rfl rfl rfl rfl rfl rfl ?_
  refine go ?_
  exact Kr.one (.inr rfl) rfl (Ent.trans Ent.drop (Ent.trans Ent.drop Ent.drop)) ⟨congrArg (Value.int .i64) (w64 (n := 3 + w + sl + sl + c + c * wd) (by omega) (by omega)), rfl⟩
/-- A cell by its kind. -/
def cellC (w c wd sl : Int) (q : Nat) (n : Int) : Int := if 0 ≤ n ∧ n < manyC w c wd sl q then startC w c wd sl q + n else -1
set_option maxHeartbeats 8000000 in
theorem layCell (w c wd sl ca ba : Int) (h : MayC w c wd sl ca ba) (q : Nat) (hq : q < 5) (n : Int) (kd : Int) (hk : kd = 3 + q) : Fx Tryz.prog 111 [cfg w c wd sl ca ba, .int .i64 kd, .int .i64 n] L (fun v L' => v = .int .i64 (cellC w c wd sl q n) ∧ L = L') := by
  have hm := h.mul
  refine Fx.mk Tryz.func111 k111 (Nat.le_of_ble_eq_true rfl) ?_
  dsimp only [c111, envOf, Nat.reduceAdd]
  refine Cx.sq ?_
  refine Cx.rg ?_
  refine Sx.bx rfl rfl fun g => ?_
  refine go ?_
  refine Sx.ca rfl (may_ w c wd sl ca ba) ?_
  rintro v L' ⟨rfl, rfl⟩
  rw [decide_eq_true h]
  refine go ?_
  refine Sx.ca rfl (layParts w c wd sl ca ba h) ?_
  rintro v L' ⟨rfl, rfl⟩
  obtain ⟨h1, h2, h3, h4, h5, h6, h7⟩ := h
  refine go ?_
  refine Cx.lp (α := {i : Nat // i ≤ 5 ∧ (q < i → ¬ (0 ≤ n ∧ n < manyC w c wd sl q))}) (fun i => [(1, .int .i64 kd), (2, .int .i64 n), (13, .agg (partsL w c wd sl 5).toArray), (14, .int .i64 i.1)])
    (fun _ => L) (fun i => 5 - i.1) ⟨0, by omega, by omega⟩ (sub.cons rfl (sub.cons rfl (sub.cons rfl (sub.cons rfl sub.nil)))) Ent.drop ?_
  rintro ⟨i, hi, hno⟩
  dsimp only at hno ⊢
  rcases (show i = 0 ∨ i = 1 ∨ i = 2 ∨ i = 3 ∨ i = 4 ∨ i = 5 by omega) with rfl | rfl | rfl | rfl | rfl | rfl
  · refine gg ?_
    refine Sx.al fun p => ?_
    refine Sx.st (b := p) rfl rfl rfl rfl rfl rfl ?_
    refine go ?_
    by_cases hqi : q = 0
    · subst hqi
      refine Sx.gyes rfl (decide_eq_true (by omega)) ?_
      refine go ?_
      rw [w64 (n := w - 1) (by omega) (by omega)]
      refine Sx.ca rfl (within_ n 0 (w - 1)) ?_
      rintro v L' ⟨rfl, rfl⟩
      refine go ?_
      refine Cx.ifp rfl (fun hr => ?_) (fun hr => ?_)
      · refine go ?_
        refine Kr.one (.inr rfl) rfl Ent.drop ⟨congrArg (Value.int .i64) ?_, rfl⟩
        unfold cellC
        rw [if_pos ⟨hr.1, by simp only [manyC]; omega⟩]
        exact w64 (n := startC w c wd sl 0 + n) (by simp only [startC]; omega) (by simp only [startC]; omega)
      · refine go ?_
        exact Klp.nm ⟨0 + 1, by omega, fun _ hh => hr ⟨hh.1, by have := hh.2; simp only [manyC] at this; omega⟩⟩ (sub.cons rfl (sub.cons rfl (sub.cons rfl (sub.cons rfl sub.nil)))) Ent.drop (by simp)
    · refine Sx.gno rfl (decide_eq_false (by omega)) ?_
      refine go ?_
      exact Klp.nm ⟨0 + 1, by omega, fun hh => hno (by omega)⟩ (sub.cons rfl (sub.cons rfl (sub.cons rfl (sub.cons rfl sub.nil)))) Ent.drop (by simp)
  · refine gg ?_
    refine Sx.al fun p => ?_
    refine Sx.st (b := p) rfl rfl rfl rfl rfl rfl ?_
    refine go ?_
    by_cases hqi : q = 1
    · subst hqi
      refine Sx.gyes rfl (decide_eq_true (by omega)) ?_
      refine go ?_
      rw [w64 (n := sl - 1) (by omega) (by omega)]
      refine Sx.ca rfl (within_ n 0 (sl - 1)) ?_
      rintro v L' ⟨rfl, rfl⟩
      refine go ?_
      refine Cx.ifp rfl (fun hr => ?_) (fun hr => ?_)
      · refine go ?_
        refine Kr.one (.inr rfl) rfl Ent.drop ⟨congrArg (Value.int .i64) ?_, rfl⟩
        unfold cellC
        rw [if_pos ⟨hr.1, by simp only [manyC]; omega⟩]
        exact w64 (n := startC w c wd sl 1 + n) (by simp only [startC]; omega) (by simp only [startC]; omega)
      · refine go ?_
        exact Klp.nm ⟨1 + 1, by omega, fun _ hh => hr ⟨hh.1, by have := hh.2; simp only [manyC] at this; omega⟩⟩ (sub.cons rfl (sub.cons rfl (sub.cons rfl (sub.cons rfl sub.nil)))) Ent.drop (by simp)
    · refine Sx.gno rfl (decide_eq_false (by omega)) ?_
      refine go ?_
      exact Klp.nm ⟨1 + 1, by omega, fun hh => hno (by omega)⟩ (sub.cons rfl (sub.cons rfl (sub.cons rfl (sub.cons rfl sub.nil)))) Ent.drop (by simp)
  · refine gg ?_
    refine Sx.al fun p => ?_
    refine Sx.st (b := p) rfl rfl rfl rfl rfl rfl ?_
    refine go ?_
    by_cases hqi : q = 2
    · subst hqi
      refine Sx.gyes rfl (decide_eq_true (by omega)) ?_
      refine go ?_
      rw [w64 (n := sl - 1) (by omega) (by omega)]
      refine Sx.ca rfl (within_ n 0 (sl - 1)) ?_
      rintro v L' ⟨rfl, rfl⟩
      refine go ?_
      refine Cx.ifp rfl (fun hr => ?_) (fun hr => ?_)
      · refine go ?_
        refine Kr.one (.inr rfl) rfl Ent.drop ⟨congrArg (Value.int .i64) ?_, rfl⟩
        unfold cellC
        rw [if_pos ⟨hr.1, by simp only [manyC]; omega⟩]
        exact w64 (n := startC w c wd sl 2 + n) (by simp only [startC]; omega) (by simp only [startC]; omega)
      · refine go ?_
        exact Klp.nm ⟨2 + 1, by omega, fun _ hh => hr ⟨hh.1, by have := hh.2; simp only [manyC] at this; omega⟩⟩ (sub.cons rfl (sub.cons rfl (sub.cons rfl (sub.cons rfl sub.nil)))) Ent.drop (by simp)
    · refine Sx.gno rfl (decide_eq_false (by omega)) ?_
      refine go ?_
      exact Klp.nm ⟨2 + 1, by omega, fun hh => hno (by omega)⟩ (sub.cons rfl (sub.cons rfl (sub.cons rfl (sub.cons rfl sub.nil)))) Ent.drop (by simp)
  · refine gg ?_
    refine Sx.al fun p => ?_
    refine Sx.st (b := p) rfl rfl rfl rfl rfl rfl ?_
    refine go ?_
    by_cases hqi : q = 3
    · subst hqi
      refine Sx.gyes rfl (decide_eq_true (by omega)) ?_
      refine go ?_
      rw [w64 (n := c - 1) (by omega) (by omega)]
      refine Sx.ca rfl (within_ n 0 (c - 1)) ?_
      rintro v L' ⟨rfl, rfl⟩
      refine go ?_
      refine Cx.ifp rfl (fun hr => ?_) (fun hr => ?_)
      · refine go ?_
        refine Kr.one (.inr rfl) rfl Ent.drop ⟨congrArg (Value.int .i64) ?_, rfl⟩
        unfold cellC
        rw [if_pos ⟨hr.1, by simp only [manyC]; omega⟩]
        exact w64 (n := startC w c wd sl 3 + n) (by simp only [startC]; omega) (by simp only [startC]; omega)
      · refine go ?_
        exact Klp.nm ⟨3 + 1, by omega, fun _ hh => hr ⟨hh.1, by have := hh.2; simp only [manyC] at this; omega⟩⟩ (sub.cons rfl (sub.cons rfl (sub.cons rfl (sub.cons rfl sub.nil)))) Ent.drop (by simp)
    · refine Sx.gno rfl (decide_eq_false (by omega)) ?_
      refine go ?_
      exact Klp.nm ⟨3 + 1, by omega, fun hh => hno (by omega)⟩ (sub.cons rfl (sub.cons rfl (sub.cons rfl (sub.cons rfl sub.nil)))) Ent.drop (by simp)
  · refine gg ?_
    refine Sx.al fun p => ?_
    refine Sx.st (b := p) rfl rfl rfl rfl rfl rfl ?_
    refine go ?_
    by_cases hqi : q = 4
    · subst hqi
      refine Sx.gyes rfl (decide_eq_true (by omega)) ?_
      refine go ?_
      rw [w64 (n := c * wd - 1) (by omega) (by omega)]
      refine Sx.ca rfl (within_ n 0 (c * wd - 1)) ?_
      rintro v L' ⟨rfl, rfl⟩
      refine go ?_
      refine Cx.ifp rfl (fun hr => ?_) (fun hr => ?_)
      · refine go ?_
        refine Kr.one (.inr rfl) rfl Ent.drop ⟨congrArg (Value.int .i64) ?_, rfl⟩
        unfold cellC
        rw [if_pos ⟨hr.1, by simp only [manyC]; omega⟩]
        exact w64 (n := startC w c wd sl 4 + n) (by simp only [startC]; omega) (by simp only [startC]; omega)
      · refine go ?_
        exact Klp.nm ⟨4 + 1, by omega, fun _ hh => hr ⟨hh.1, by have := hh.2; simp only [manyC] at this; omega⟩⟩ (sub.cons rfl (sub.cons rfl (sub.cons rfl (sub.cons rfl sub.nil)))) Ent.drop (by simp)
    · refine Sx.gno rfl (decide_eq_false (by omega)) ?_
      refine go ?_
      exact Klp.nm ⟨4 + 1, by omega, fun hh => hno (by omega)⟩ (sub.cons rfl (sub.cons rfl (sub.cons rfl (sub.cons rfl sub.nil)))) Ent.drop (by simp)
  · refine go ?_
    refine Kr.one (.inr rfl) rfl (Ent.refl _) ⟨?_, rfl⟩
    unfold cellC
    rw [if_neg (hno hq)]
theorem layPin (w c wd sl ca ba : Int) (h : MayC w c wd sl ca ba) (n : Int) : Fx Tryz.prog 49 [cfg w c wd sl ca ba, .int .i64 n] L (fun v L' => v = .int .i64 (cellC w c wd sl 0 n) ∧ L = L') := by
  refine Fx.mk Tryz.func49 k49 (Nat.le_of_ble_eq_true rfl) ?_
  dsimp only [c49, envOf, Nat.reduceAdd]
  refine Cx.sq ?_
  refine Cx.rg ?_
  refine Sx.bx rfl rfl fun g => ?_
  refine go ?_
  refine Sx.ca rfl (layCell w c wd sl ca ba h 0 (by omega) n _ (by omega)) ?_
  rintro v L' ⟨rfl, rfl⟩
  refine go ?_
  exact Kr.one (.inr rfl) rfl Ent.drop ⟨rfl, rfl⟩
theorem layLink (w c wd sl ca ba : Int) (h : MayC w c wd sl ca ba) (n : Int) : Fx Tryz.prog 126 [cfg w c wd sl ca ba, .int .i64 n] L (fun v L' => v = .int .i64 (cellC w c wd sl 3 n) ∧ L = L') := by
  refine Fx.mk Tryz.func126 k126 (Nat.le_of_ble_eq_true rfl) ?_
  dsimp only [c126, envOf, Nat.reduceAdd]
  refine Cx.sq ?_
  refine Cx.rg ?_
  refine Sx.bx rfl rfl fun g => ?_
  refine go ?_
  refine Sx.ca rfl (layCell w c wd sl ca ba h 3 (by omega) n _ (by omega)) ?_
  rintro v L' ⟨rfl, rfl⟩
  refine go ?_
  exact Kr.one (.inr rfl) rfl Ent.drop ⟨rfl, rfl⟩
end
end Go.Proofs.YtnbkjcmmjgkdaaaGreat

/-
  Stacks: Fill, List; chains: New, Fill, Pool.
-/
set_option linter.unusedVariables false
set_option linter.unusedSimpArgs false
namespace Go.Proofs.YtnbkjcmmjgkdaaaGreat
open Go
attribute [local irreducible] Sx Cx Rx Fx Krg Ksq Kbl Klp Kr
section
variable {L F G : St}
theorem fillM_ok {k : Sk} {m : Mm} (h : m.ok) (hn : k.n ≤ 4096) : (fillM k m).ok := Mm.ok_lay (Mm.ok_lay (fillUp_ok h _ (by omega)) (by omega)) (by omega)
set_option maxHeartbeats 1000000 in
theorem stackFill {sb mp : Nat} {k : Sk} {m : Mm} (hk : k.ok m.ws.length) [t : Take L (some ⟨mp, 0, none⟩) (MemO m) F] [s : Take F (some ⟨sb, 0, none⟩) (SkO mp k) G] :
    Fx Tryz.prog 127 [.pointer (some ⟨sb, 0, none⟩)] L (fun v L' => L' = pt (some ⟨mp, 0, none⟩) (MemO (fillM k m)) :: F) := by
  obtain ⟨k1, k2, k3, k4, k5, k6⟩ := hk
  have hul := fillUp_len k m k.n
  refine Fx.mk Tryz.func127 k127 (Nat.le_of_ble_eq_true rfl) ?_
  dsimp only [c127, envOf, Nat.reduceAdd]
  refine Cx.ent (Ent.trans (Ent.of t.out) (Ent.cons (Ent.of s.out))) ?_
  refine go ?_
  refine Cx.lp (α := {i : Nat // i ≤ k.n}) (fun i => [(0, .pointer (some ⟨sb, 0, none⟩)), (8, .int .i64 k.n), (9, .int .i64 i.1)]) (fun i => pt (some ⟨mp, 0, none⟩) (MemO (fillUp k m i.1)) :: pt (some ⟨sb, 0, none⟩) (SkO mp k) :: G)
    (fun i => k.n - i.1) ⟨0, by omega⟩ (sub.cons rfl (sub.cons rfl (sub.cons rfl sub.nil))) (Ent.refl _) ?_
  rintro ⟨i, hi⟩
  dsimp only
  refine go ?_
  refine Cx.ifp rfl (fun h => ?_) (fun h => ?_)
  · have hil := fillUp_len k m i
    refine go ?_
    refine Cx.orde rfl (by kernel_rfl) ?_
    refine ge ?_
    rw [w64 (n := (k.links : Int) + i) (by omega) (by omega), w64 (n := (i : Int) + 2) (by omega) (by omega), wu64 (n := (i : Int) + 2) (by omega) (by omega), show (k.links : Int) + i = ((k.links + i : Nat) : Int) by omega, show (i : Int) + 2 = ((i + 2 : Nat) : Int) by omega]
    refine Ev.caH (by kernel_rfl) rfl rfl (cellsLay (b := mp) (m := fillUp k m i) (k.links + i) (i + 2) (by omega) (by omega)) (Pres.deps (by kernel_rfl)) ?_
    rintro v L' ⟨rfl, rfl⟩
    refine ge ?_
    refine go ?_
    rw [w64 (n := (i : Int) + 1) (by omega) (by omega)]
    exact Klp.nm ⟨i + 1, by omega⟩ (sub.cons rfl (sub.cons rfl (sub.cons rfl sub.nil))) (Ent.refl _) (by dsimp only; omega)
  · have hin : i = k.n := by omega
    subst hin
    refine go ?_
    refine Cx.ordc rfl (by kernel_rfl) ?_
    refine ge ?_
    rw [w64 (n := (k.links : Int) + k.n) (by omega) (by omega), w64 (n := (k.links : Int) + k.n - 1) (by omega) (by omega), show (k.links : Int) + k.n - 1 = ((k.links + k.n - 1 : Nat) : Int) by omega]
    refine Ev.caH (by kernel_rfl) rfl rfl (cellsLay (b := mp) (m := fillUp k m k.n) (k.links + k.n - 1) 0 (by omega) (by omega)) (Pres.deps (by kernel_rfl)) ?_
    rintro v L' ⟨rfl, rfl⟩
    refine ge ?_
    refine go ?_
    refine Sx.ca rfl (putHead 0 0 (by omega) (by omega) (by omega)) ?_
    rintro v L' ⟨rfl, rfl⟩
    refine go ?_
    refine Cx.orde rfl (by kernel_rfl) ?_
    refine ge ?_
    refine Ev.caH (by kernel_rfl) rfl rfl (cellsLay (b := mp) (m := (fillUp k m k.n).lay (k.links + k.n - 1) 0) k.head 1 (by rw [Mm.len_lay]; omega) (by omega)) (Pres.deps (by kernel_rfl)) ?_
    rintro v L' ⟨rfl, rfl⟩
    refine ge ?_
    exact Kr.none (.inl rfl) (Ent.cons (Ent.of s.back)) rfl
/-- What is in a stack. -/
theorem stackList {sb mp : Nat} {k : Sk} {m : Mm} (hk : k.ok m.ws.length) [t : Take L (some ⟨mp, 0, none⟩) (MemO m) F] [s : Take F (some ⟨sb, 0, none⟩) (SkO mp k) G] :
    Fx Tryz.prog 23 [.pointer (some ⟨sb, 0, none⟩)] L (fun v L' => ∃ ro co, v = .slice ro (listK k m).length co ∧ L' = pt ro (Row 3 1 (listK k m).length co (ints (listK k m))) :: L) := by
  obtain ⟨k1, k2, k3, k4, k5, k6⟩ := hk
  refine Fx.mk Tryz.func23 k23 (Nat.le_of_ble_eq_true rfl) ?_
  dsimp only [c23, envOf, Nat.reduceAdd]
  refine Cx.pure (memKey (b := mp) (m := m)) fun hm => ?_
  have hlt := Mm.at_lt hm.1 k.head
  refine Cx.ent (Ent.trans (Ent.of t.out) (Ent.cons (Ent.of s.out))) ?_
  refine go ?_
  refine Cx.ordc rfl (by kernel_rfl) ?_
  refine ge ?_
  refine Ev.cakH (by kernel_rfl) rfl rfl (cellsPeek (b := mp) (m := m) k.head k3) ?_
  refine ge ?_
  refine Ev.cakH (by kernel_rfl) rfl rfl (stackTop (sb := sb) (mp := mp) (k := k) (m.at_ k.head) hlt) ?_
  refine ge ?_
  refine go ?_
  refine Cx.lp (α := {p : (List Int × Int) × (Option Addr × Nat) // p.1.1.length ≤ k.n ∧ -1 ≤ p.1.2 ∧ p.1.2 < k.n ∧ p.1.1 ++ walkL k m (k.n - p.1.1.length) p.1.2 = listK k m})
    (fun p => [(0, .pointer (some ⟨sb, 0, none⟩)), (3, .slice p.1.2.1 p.1.1.1.length p.1.2.2), (4, .int .i64 p.1.1.2)])
    (fun p => pt p.1.2.1 (Row 3 1 p.1.1.1.length p.1.2.2 (ints p.1.1.1)) :: pt (some ⟨mp, 0, none⟩) (MemO m) :: pt (some ⟨sb, 0, none⟩) (SkO mp k) :: G)
    (fun p => k.n - p.1.1.1.length) ⟨(([], k.top (m.at_ k.head)), (none, 0)), by simp, k.top_ge _, k.top_lt _, by simp [listK]⟩ (sub.cons rfl (sub.cons rfl (sub.cons rfl sub.nil))) (Ent.rownil 3 1) ?_
  rintro ⟨⟨⟨out, i⟩, ⟨r, c⟩⟩, hol, hi1, hi2, he⟩
  dsimp only at hol hi1 hi2 he ⊢
  have fin : (i < 0 ∨ k.n ≤ out.length) → out = listK k m := by
    intro h
    rw [← he]
    rcases h with h | h
    · cases hf : k.n - out.length with
      | zero => simp [walkL]
      | succ f => simp [walkL, show ¬ 0 ≤ i by omega]
    · rw [show k.n - out.length = 0 by omega]; simp [walkL]
  refine go ?_
  refine Sx.ifp rfl (fun h => ?_) (fun h => ?_)
  · refine go ?_
    refine Cx.ifp rfl (fun h2 => ?_) (fun h2 => ?_)
    · obtain ⟨x, rfl⟩ : ∃ x : Nat, i = x := ⟨i.toNat, by omega⟩
      have hlx := Mm.at_lt hm.1 (k.links + x)
      have hbl := k.below_lt (m.at_ (k.links + x))
      have hbg := k.below_ge (m.at_ (k.links + x))
      refine go ?_
      refine Sx.bs (sz := 1) rfl rfl fun g => ?_
      refine Sx.ap (ra := r) rfl rfl (Rd.row (b := g) (E := 3) (cap := 1) rfl) rfl (by simp [maxLen]; omega) (by omega) fun ra ca hc => ?_
      refine go ?_
      refine Cx.ordu rfl rfl (by kernel_rfl) (by kernel_rfl) ?_
      refine ge ?_
      rw [w64 (n := (k.links : Int) + x) (by omega) (by omega), show (k.links : Int) + x = ((k.links + x : Nat) : Int) by omega]
      refine Ev.cakH (by kernel_rfl) rfl rfl (cellsPeek (b := mp) (m := m) (k.links + x) (by omega)) ?_
      refine ge ?_
      refine Ev.cakH (by kernel_rfl) rfl rfl (stackBelow (sb := sb) (mp := mp) (k := k) (m.at_ (k.links + x)) hlx k2) ?_
      refine ge ?_
      refine go ?_
      refine Klp.nm ⟨((out ++ [(x : Int)], k.below (m.at_ (k.links + x))), (ra, ca)), by simp; omega, hbg, hbl, ?_⟩ (sub.cons rfl (sub.cons (by simp; rfl) (sub.cons rfl sub.nil))) ?_ (by simp; omega)
      · dsimp only
        rw [← he, show k.n - out.length = (k.n - (out ++ [(x : Int)]).length) + 1 by simp; omega]
        simp only [walkL, if_pos h, List.append_assoc, List.cons_append, List.nil_append, Int.toNat_natCast]
      · simp only [List.length_append, List.length_singleton, ints_append]
        exact ent
    · refine go ?_
      have hf := fin (.inr (by omega))
      subst hf
      exact Kr.one (.inr rfl) rfl (Ent.cons (Ent.trans (Ent.cons (Ent.of s.back)) (Ent.of t.back))) ⟨r, c, rfl, rfl⟩
  · refine go ?_
    have hf := fin (.inl (by omega))
    subst hf
    exact Kr.one (.inr rfl) rfl (Ent.cons (Ent.trans (Ent.cons (Ent.of s.back)) (Ent.of t.back))) ⟨r, c, rfl, rfl⟩
end
end Go.Proofs.YtnbkjcmmjgkdaaaGreat

/-
  Chains: New, Fill, Pool.
-/
set_option linter.unusedVariables false
set_option linter.unusedSimpArgs false
namespace Go.Proofs.YtnbkjcmmjgkdaaaGreat
open Go
attribute [local irreducible] Sx Cx Rx Fx Krg Ksq Kbl Klp Kr
/-- A configuration in natural numbers. -/
structure Cn where
  w : Nat
  c : Nat
  wd : Nat
  sl : Nat
  ca : Nat
  ba : Nat
abbrev Cn.v (x : Cn) : Value := cfg x.w x.c x.wd x.sl x.ca x.ba
abbrev Cn.l (x : Cn) : List Value := [.int .i64 x.w, .int .i64 x.c, .int .i64 x.wd, .int .i64 x.sl, .int .i64 x.ca, .int .i64 x.ba]
def Cn.ok (x : Cn) : Prop := MayC x.w x.c x.wd x.sl x.ca x.ba
def Cn.len (x : Cn) : Nat := 3 + x.w + x.sl + x.sl + x.c + x.c * x.wd
def Cn.link (x : Cn) : Nat := 3 + x.w + x.sl + x.sl
def Cn.slot (x : Cn) : Nat := 3 + x.w + x.sl
def Cn.pool (x : Cn) : Sk := ⟨0, x.link, x.c⟩
def Cn.spare (x : Cn) : Sk := ⟨1, x.slot, x.sl⟩
theorem Cn.lenC (x : Cn) : Proofs.YtnbkjcmmjgkdaaaGreat.lenC x.w x.c x.wd x.sl = (x.len : Int) := by unfold Proofs.YtnbkjcmmjgkdaaaGreat.lenC Cn.len; push_cast; rfl
theorem Cn.ok.len_le {x : Cn} (h : x.ok) : x.len ≤ 8388608 := by
  have hm := MayC.mul h
  obtain ⟨h1, h2, h3, h4, h5, h6, h7⟩ := h
  have : ((x.c * x.wd : Nat) : Int) ≤ 4194304 := by push_cast; exact hm.2
  unfold Cn.len; omega
theorem Cn.ok.pool {x : Cn} (h : x.ok) {n : Nat} (hn : x.len ≤ n) (hn2 : n ≤ 8388608) : x.pool.ok n := by
  obtain ⟨h1, h2, h3, h4, h5, h6, h7⟩ := h
  unfold Cn.len at hn
  refine ⟨?_, ?_, ?_, ?_, ?_, hn2⟩ <;> simp only [Cn.pool, Cn.link] <;> omega
theorem Cn.ok.spare {x : Cn} (h : x.ok) {n : Nat} (hn : x.len ≤ n) (hn2 : n ≤ 8388608) : x.spare.ok n := by
  obtain ⟨h1, h2, h3, h4, h5, h6, h7⟩ := h
  unfold Cn.len at hn
  refine ⟨?_, ?_, ?_, ?_, ?_, hn2⟩ <;> simp only [Cn.spare, Cn.slot] <;> omega
section
variable {L F G : St}
theorem layLinkN {x : Cn} (h : x.ok) (n : Nat) (hn : n < x.c) : Fx Tryz.prog 126 [x.v, .int .i64 n] L (fun v L' => v = .int .i64 ((x.link + n : Nat) : Int) ∧ L = L') := by
  refine (layLink _ _ _ _ _ _ h (n : Int)).mono ?_
  rintro v L' ⟨rfl, rfl⟩
  refine ⟨congrArg (Value.int .i64) ?_, rfl⟩
  unfold cellC
  rw [if_pos ⟨by omega, by simp only [manyC]; omega⟩]
  simp only [startC, Cn.link]
  push_cast; rfl
abbrev ChO (mp sb : Nat) (x : Cn) : Option Addr → As := Blk 198 (.pointer (some ⟨mp, 0, none⟩) :: x.l ++ [.pointer (some ⟨sb, 0, none⟩)])
set_option maxHeartbeats 1000000 in
theorem chainNew {mp : Nat} {m : Mm} {x : Cn} (hx : x.ok) (hl : x.len ≤ m.ws.length) [t : Take L (some ⟨mp, 0, none⟩) (MemO m) F] :
    Fx Tryz.prog 66 [.pointer (some ⟨mp, 0, none⟩), x.v] L (fun v L' => ∃ g sb, v = .tuple #[.pointer (some ⟨g, 0, none⟩), .int .i64 0] ∧ L' = pt (some ⟨g, 0, none⟩) (ChO mp sb x) :: pt (some ⟨sb, 0, none⟩) (SkO mp x.pool) :: L) := by
  refine Fx.mk Tryz.func66 k66 (Nat.le_of_ble_eq_true rfl) ?_
  dsimp only [c66, envOf, Nat.reduceAdd]
  refine Cx.pure (memKey (b := mp) (m := m)) fun hm => ?_
  refine Cx.sq ?_
  refine Cx.rg ?_
  refine Sx.bx rfl rfl fun g => ?_
  refine go ?_
  refine Cx.ordc rfl (by kernel_rfl) ?_
  refine ge ?_
  refine Ev.cakH (by kernel_rfl) rfl rfl (may_ (x.w : Int) x.c x.wd x.sl x.ca x.ba) ?_
  rw [decide_eq_true (show MayC (x.w : Int) x.c x.wd x.sl x.ca x.ba from hx)]
  refine ge ?_
  refine Ev.cakH (by kernel_rfl) rfl rfl (cellsLen (b := mp) (m := m)) ?_
  refine ge ?_
  refine Ev.cakH (by kernel_rfl) rfl rfl (layLen (x.w : Int) x.c x.wd x.sl x.ca x.ba hx) ?_
  rw [x.lenC]
  refine ge ?_
  refine Cx.cno rfl (decide_eq_false (by omega)) ?_
  refine go ?_
  refine Cx.ordc rfl (by kernel_rfl) ?_
  refine ge ?_
  refine Ev.cakH (by kernel_rfl) rfl rfl (layLinkN hx 0 (by have := hx.2.1; omega)) ?_
  refine ge ?_
  refine Ev.caH (by kernel_rfl) rfl rfl (stackNew (mp := mp) (m := m) (k := x.pool) (hx.pool hl hm.2)) (Pres.deps (by kernel_rfl)) ?_
  rintro v L' ⟨sb, rfl, rfl⟩
  refine ge ?_
  refine go ?_
  refine Sx.bx rfl rfl fun q => ?_
  refine go ?_
  exact Kr.two (.inr rfl) rfl rfl (Ent.cons (Ent.cons Ent.drop)) ⟨q, sb, rfl, rfl⟩
theorem chainPool {g mp sb : Nat} {x : Cn} [t : Take L (some ⟨g, 0, none⟩) (ChO mp sb x) F] : Fx Tryz.prog 67 [.pointer (some ⟨g, 0, none⟩)] L (fun v L' => v = .pointer (some ⟨sb, 0, none⟩) ∧ L = L') := by
  refine Fx.mk Tryz.func67 k67 (Nat.le_of_ble_eq_true rfl) ?_
  dsimp only [c67, envOf, Nat.reduceAdd]
  refine go ?_
  exact Kr.one (.inr rfl) rfl (Ent.refl _) ⟨rfl, rfl⟩
theorem chainFill {g mp sb : Nat} {x : Cn} {m : Mm} {F G H : St} (hk : x.pool.ok m.ws.length) [t : Take L (some ⟨mp, 0, none⟩) (MemO m) F] [s : Take F (some ⟨sb, 0, none⟩) (SkO mp x.pool) G] [c : Take L (some ⟨g, 0, none⟩) (ChO mp sb x) H] :
    Fx Tryz.prog 68 [.pointer (some ⟨g, 0, none⟩)] L (fun v L' => L' = pt (some ⟨mp, 0, none⟩) (MemO (fillM x.pool m)) :: F) := by
  refine Fx.mk Tryz.func68 k68 (Nat.le_of_ble_eq_true rfl) ?_
  dsimp only [c68, envOf, Nat.reduceAdd]
  refine go ?_
  refine Sx.ca rfl (stackFill (sb := sb) (mp := mp) (k := x.pool) (m := m) hk) ?_
  rintro v L' rfl
  refine go ?_
  exact Kr.none (.inl rfl) (Ent.refl _) rfl
end
end Go.Proofs.YtnbkjcmmjgkdaaaGreat

/-
  The limbo's contracts: New, Retire, Len, Bucket.
-/
set_option linter.unusedVariables false
set_option linter.unusedSimpArgs false
namespace Go.Proofs.YtnbkjcmmjgkdaaaGreat
open Go
attribute [local irreducible] Sx Cx Rx Fx Krg Ksq Kbl Klp Kr
section
variable {L F : St}
def LimboT (T : TypeId) (m : Lm) (a : Option Addr) : As :=
  exs fun (y : (Option Addr × Nat) × (Option Addr × Nat) × (Option Addr × Nat)) =>
    [pt a (Blk T [.int .i64 m.t0, .slice y.1.1 m.x0.length y.1.2, .int .i64 m.t1, .slice y.2.1.1 m.x1.length y.2.1.2, .int .i64 m.t2, .slice y.2.2.1 m.x2.length y.2.2.2, .int .i64 m.last]),
     pt y.1.1 (Row 3 1 m.x0.length y.1.2 (ints m.x0)), pt y.2.1.1 (Row 3 1 m.x1.length y.2.1.2 (ints m.x1)), pt y.2.2.1 (Row 3 1 m.x2.length y.2.2.2 (ints m.x2))]
abbrev LimboO := LimboT 230
theorem LimboO.close {T : TypeId} {a r0 r1 r2 : Option Addr} {c0 c1 c2 n0 n1 n2 : Nat} {v0 v1 v2 v3 : Value} {w0 w1 w2 : List Value} {F F0 F1 G : St} (m : Lm)
    [t : Take L a (Blk T [v0, .slice r0 n0 c0, v1, .slice r1 n1 c1, v2, .slice r2 n2 c2, v3]) F] [u0 : Take F r0 (Row 3 1 n0 c0 w0) F0] [u1 : Take F0 r1 (Row 3 1 n1 c1 w1) F1] [u2 : Take F1 r2 (Row 3 1 n2 c2 w2) G]
    (h0 : v0 = .int .i64 m.t0) (h1 : v1 = .int .i64 m.t1) (h2 : v2 = .int .i64 m.t2) (h3 : v3 = .int .i64 m.last) (e0 : n0 = m.x0.length) (e1 : n1 = m.x1.length) (e2 : n2 = m.x2.length)
    (g0 : w0 = ints m.x0) (g1 : w1 = ints m.x1) (g2 : w2 = ints m.x2) : Ent L (pt a (LimboT T m) :: G) := by
  subst h0; subst h1; subst h2; subst h3; subst e0; subst e1; subst e2; subst g0; subst g1; subst g2
  refine Ent.trans (Ent.take1 (t := t) (Ent.trans (Ent.of u0.out) (Ent.cons (Ent.trans (Ent.of u1.out) (Ent.cons (Ent.of u2.out)))))) ?_
  exact Ent.close (f := fun (y : (Option Addr × Nat) × (Option Addr × Nat) × (Option Addr × Nat)) =>
    [pt a (Blk T [.int .i64 m.t0, .slice y.1.1 m.x0.length y.1.2, .int .i64 m.t1, .slice y.2.1.1 m.x1.length y.2.1.2, .int .i64 m.t2, .slice y.2.2.1 m.x2.length y.2.2.2, .int .i64 m.last]),
     pt y.1.1 (Row 3 1 m.x0.length y.1.2 (ints m.x0)), pt y.2.1.1 (Row 3 1 m.x1.length y.2.1.2 (ints m.x1)), pt y.2.2.1 (Row 3 1 m.x2.length y.2.2.2 (ints m.x2))]) rfl ((r0, c0), (r1, c1), (r2, c2))
theorem limboNew : Fx Tryz.prog 120 [] L (fun v L' => ∃ g, v = .pointer (some ⟨g, 0, none⟩) ∧ L' = pt (some ⟨g, 0, none⟩) (LimboO Lm.nil) :: L) := by
  refine Fx.mk Tryz.func120 k120 (Nat.le_of_ble_eq_true rfl) ?_
  dsimp only [c120, envOf, Nat.reduceAdd]
  refine go ?_
  refine Sx.bx rfl rfl fun g => ?_
  refine go ?_
  refine Kr.one (.inr rfl) rfl ?_ ⟨g, rfl, rfl⟩
  refine Ent.trans (Ent.rownil 3 1) (Ent.trans (Ent.rownil 3 1) (Ent.trans (Ent.rownil 3 1) ?_))
  exact LimboO.close (a := some ⟨g, 0, none⟩) (r0 := none) (r1 := none) (r2 := none) Lm.nil rfl rfl rfl rfl rfl rfl rfl rfl rfl rfl
theorem limboRetire {b : Nat} {m : Lm} {tag : Int} {ys : List Int} {ya : Option Addr} {n c : Nat} {F : St} [t : Take L (some ⟨b, 0, none⟩) (LimboO m) F] (hr : Rd F 1 ya n (ints ys)) (hb : m.size + n ≤ 1000000000) :
    Fx Tryz.prog 106 [.pointer (some ⟨b, 0, none⟩), .int .i64 tag, .slice ya n c] L (fun v L' =>
      (refused m tag ys ∧ v = .tuple #[.slice none 0 0, .int .i64 1] ∧ L' = pt (some ⟨b, 0, none⟩) (LimboO m) :: F) ∨
      (¬ refused m tag ys ∧ ∃ ro co, v = .tuple #[.slice ro (outM m tag).length co, .int .i64 0] ∧ L' = pt ro (Row 3 1 (outM m tag).length co (ints (outM m tag))) :: pt (some ⟨b, 0, none⟩) (LimboO (retireM m tag ys)) :: F)) := by
  have hn : n = ys.length := by have := hr.1; simp [ints] at this; omega
  have hy0 : (n : Int) = 0 ↔ ys = [] := by rw [← List.length_eq_zero_iff]; omega
  unfold Lm.size at hb
  refine Fx.mk Tryz.func106 k106 (Nat.le_of_ble_eq_true rfl) ?_
  dsimp only [c106, envOf, Nat.reduceAdd]
  refine Cx.openp (t := t) rfl ?_
  rintro ⟨⟨r0, c0⟩, ⟨r1, c1⟩, ⟨r2, c2⟩⟩
  simp only [List.cons_append, List.nil_append]
  refine go ?_
  refine Sx.ifp rfl (fun h1 => ?_) (fun h1 => ?_)
  · refine go ?_
    exact Kr.two (.inr rfl) rfl rfl (LimboO.close (a := some ⟨b, 0, none⟩) (r0 := r0) (r1 := r1) (r2 := r2) m rfl rfl rfl rfl rfl rfl rfl rfl rfl rfl) (.inl ⟨.inl (hy0.1 h1), rfl, rfl⟩)
  refine go ?_
  refine Sx.ifp rfl (fun h2 => ?_) (fun h2 => ?_)
  · refine go ?_
    exact Kr.two (.inr rfl) rfl rfl (LimboO.close (a := some ⟨b, 0, none⟩) (r0 := r0) (r1 := r1) (r2 := r2) m rfl rfl rfl rfl rfl rfl rfl rfl rfl rfl) (.inl ⟨.inr (.inl h2), rfl, rfl⟩)
  refine go ?_
  refine Sx.ifp rfl (fun h3 => ?_) (fun h3 => ?_)
  · refine go ?_
    exact Kr.two (.inr rfl) rfl rfl (LimboO.close (a := some ⟨b, 0, none⟩) (r0 := r0) (r1 := r1) (r2 := r2) m rfl rfl rfl rfl rfl rfl rfl rfl rfl rfl) (.inl ⟨.inr (.inr (.inl h3)), rfl, rfl⟩)
  refine go ?_
  refine Cx.cd rfl (fun h4 => ?_) (fun h4 => ?_)
  · refine go ?_
    exact Kr.two (.inr rfl) rfl rfl (LimboO.close (a := some ⟨b, 0, none⟩) (r0 := r0) (r1 := r1) (r2 := r2) m rfl rfl rfl rfl rfl rfl rfl rfl rfl rfl) (.inl ⟨.inr (.inr (.inr (by simpa [pick] using h4))), rfl, rfl⟩)
  have h4' : ¬ tag < m.last := by simpa [pick] using h4
  have hnr : ¬ refused m tag ys := by
    rintro (h | h | h | h)
    · exact h1 (hy0.2 h)
    · exact h2 h
    · exact h3 h
    · exact h4' h
  refine go ?_
  refine Sx.pv rfl (by decide) ?_
  have hmod : tag.tmod 3 = (bucketOf tag : Int) := by
    unfold bucketOf
    rw [Int.tmod_eq_emod]
    split <;> omega
  rw [hmod]
  have hlt : bucketOf tag < 3 := Nat.mod_lt _ (by omega)
  have hout : outM m tag = if m.tag (bucketOf tag) < tag then m.items (bucketOf tag) else [] := rfl
  have hret : retireM m tag ys = { m.put (bucketOf tag) tag ((if m.tag (bucketOf tag) < tag then [] else m.items (bucketOf tag)) ++ ys) with last := tag } := rfl
  rw [hout, hret]
  generalize bucketOf tag = k at hlt ⊢
  rcases (show k = 0 ∨ k = 1 ∨ k = 2 by omega) with rfl | rfl | rfl
  · refine go ?_
    refine Sx.pv rfl ⟨by omega, by omega⟩ ?_
    refine go ?_
    refine Cx.ifp rfl (fun h5 => ?_) (fun h5 => ?_)
    · refine go ?_
      refine Sx.apn rfl rfl (hr.ent (by repeat (first | exact Ent.refl _ | (refine Ent.trans Ent.drop ?_)))) (ones_ints ys) (by simp [maxLen]; omega) (by omega) fun ra ca hc => ?_
      refine go ?_
      have h5' : m.tag 0 < tag := h5
      rw [if_pos h5', if_pos h5']
      refine Kr.two (.inr rfl) rfl rfl ?_ (.inr ⟨hnr, r0, c0, rfl, rfl⟩)
      refine Ent.trans (LimboO.close (a := some ⟨b, 0, none⟩) (r0 := ra) (r1 := r1) (r2 := r2) { m.put 0 tag ([] ++ ys) with last := tag } rfl rfl rfl rfl (by simp [hn, Lm.put]) rfl rfl (by simp [Lm.put]) rfl rfl) ?_
      exact Ent.swap
    · refine go ?_
      refine Sx.ap (ra := r0) rfl rfl (hr.ent (by repeat (first | exact Ent.refl _ | (refine Ent.trans Ent.drop ?_)))) (ones_ints ys) (by simp [maxLen]; omega) (by omega) fun ra ca hc => ?_
      refine go ?_
      have h5' : ¬ m.tag 0 < tag := h5
      rw [if_neg h5', if_neg h5']
      refine Kr.two (.inr rfl) rfl rfl ?_ (.inr ⟨hnr, none, 0, rfl, rfl⟩)
      refine Ent.trans (LimboO.close (a := some ⟨b, 0, none⟩) (r0 := ra) (r1 := r1) (r2 := r2) { m.put 0 tag (m.items 0 ++ ys) with last := tag } rfl rfl rfl rfl (by simp [hn, Lm.put, Lm.items]) rfl rfl (by simp [Lm.put, Lm.items, ints_append]) rfl rfl) ?_
      exact Ent.rownil 3 1
  · refine go ?_
    refine Sx.pv rfl ⟨by omega, by omega⟩ ?_
    refine go ?_
    refine Cx.ifp rfl (fun h5 => ?_) (fun h5 => ?_)
    · refine go ?_
      refine Sx.apn rfl rfl (hr.ent (by repeat (first | exact Ent.refl _ | (refine Ent.trans Ent.drop ?_)))) (ones_ints ys) (by simp [maxLen]; omega) (by omega) fun ra ca hc => ?_
      refine go ?_
      have h5' : m.tag 1 < tag := h5
      rw [if_pos h5', if_pos h5']
      refine Kr.two (.inr rfl) rfl rfl ?_ (.inr ⟨hnr, r1, c1, rfl, rfl⟩)
      refine Ent.trans (LimboO.close (a := some ⟨b, 0, none⟩) (r0 := r0) (r1 := ra) (r2 := r2) { m.put 1 tag ([] ++ ys) with last := tag } rfl rfl rfl rfl rfl (by simp [hn, Lm.put]) rfl rfl (by simp [Lm.put]) rfl) ?_
      exact Ent.swap
    · refine go ?_
      refine Sx.ap (ra := r1) rfl rfl (hr.ent (by repeat (first | exact Ent.refl _ | (refine Ent.trans Ent.drop ?_)))) (ones_ints ys) (by simp [maxLen]; omega) (by omega) fun ra ca hc => ?_
      refine go ?_
      have h5' : ¬ m.tag 1 < tag := h5
      rw [if_neg h5', if_neg h5']
      refine Kr.two (.inr rfl) rfl rfl ?_ (.inr ⟨hnr, none, 0, rfl, rfl⟩)
      refine Ent.trans (LimboO.close (a := some ⟨b, 0, none⟩) (r0 := r0) (r1 := ra) (r2 := r2) { m.put 1 tag (m.items 1 ++ ys) with last := tag } rfl rfl rfl rfl rfl (by simp [hn, Lm.put, Lm.items]) rfl rfl (by simp [Lm.put, Lm.items, ints_append]) rfl) ?_
      exact Ent.rownil 3 1
  · refine go ?_
    refine Sx.pv rfl ⟨by omega, by omega⟩ ?_
    refine go ?_
    refine Cx.ifp rfl (fun h5 => ?_) (fun h5 => ?_)
    · refine go ?_
      refine Sx.apn rfl rfl (hr.ent (by repeat (first | exact Ent.refl _ | (refine Ent.trans Ent.drop ?_)))) (ones_ints ys) (by simp [maxLen]; omega) (by omega) fun ra ca hc => ?_
      refine go ?_
      have h5' : m.tag 2 < tag := h5
      rw [if_pos h5', if_pos h5']
      refine Kr.two (.inr rfl) rfl rfl ?_ (.inr ⟨hnr, r2, c2, rfl, rfl⟩)
      refine Ent.trans (LimboO.close (a := some ⟨b, 0, none⟩) (r0 := r0) (r1 := r1) (r2 := ra) { m.put 2 tag ([] ++ ys) with last := tag } rfl rfl rfl rfl rfl rfl (by simp [hn, Lm.put]) rfl rfl (by simp [Lm.put])) ?_
      exact Ent.swap
    · refine go ?_
      refine Sx.ap (ra := r2) rfl rfl (hr.ent (by repeat (first | exact Ent.refl _ | (refine Ent.trans Ent.drop ?_)))) (ones_ints ys) (by simp [maxLen]; omega) (by omega) fun ra ca hc => ?_
      refine go ?_
      have h5' : ¬ m.tag 2 < tag := h5
      rw [if_neg h5', if_neg h5']
      refine Kr.two (.inr rfl) rfl rfl ?_ (.inr ⟨hnr, none, 0, rfl, rfl⟩)
      refine Ent.trans (LimboO.close (a := some ⟨b, 0, none⟩) (r0 := r0) (r1 := r1) (r2 := ra) { m.put 2 tag (m.items 2 ++ ys) with last := tag } rfl rfl rfl rfl rfl rfl (by simp [hn, Lm.put, Lm.items]) rfl rfl (by simp [Lm.put, Lm.items, ints_append])) ?_
      exact Ent.rownil 3 1
end
end Go.Proofs.YtnbkjcmmjgkdaaaGreat

/-
  The limbo's contracts: Len, Bucket.
-/
set_option linter.unusedVariables false
set_option linter.unusedSimpArgs false
namespace Go.Proofs.YtnbkjcmmjgkdaaaGreat
open Go
attribute [local irreducible] Sx Cx Rx Fx Krg Ksq Kbl Klp Kr
section
variable {L F : St}
theorem limboLen {b : Nat} {m : Lm} {F : St} [t : Take L (some ⟨b, 0, none⟩) (LimboO m) F] (hb : m.size ≤ 1000000000) :
    Fx Tryz.prog 122 [.pointer (some ⟨b, 0, none⟩)] L (fun v L' => v = .int .i64 m.size ∧ L' = pt (some ⟨b, 0, none⟩) (LimboO m) :: F) := by
  have hs : m.size = m.x0.length + m.x1.length + m.x2.length := rfl
  refine Fx.mk Tryz.func122 k122 (Nat.le_of_ble_eq_true rfl) ?_
  dsimp only [c122, envOf, Nat.reduceAdd]
  refine Cx.openp (t := t) rfl ?_
  rintro ⟨⟨r0, c0⟩, ⟨r1, c1⟩, ⟨r2, c2⟩⟩
  simp only [List.cons_append, List.nil_append]
  refine go ?_
  generalize hM : (pt (some ⟨b, 0, none⟩) (Blk 230 [.int .i64 m.t0, .slice r0 m.x0.length c0, .int .i64 m.t1, .slice r1 m.x1.length c1, .int .i64 m.t2, .slice r2 m.x2.length c2, .int .i64 m.last]) ::
    pt r0 (Row 3 1 m.x0.length c0 (ints m.x0)) :: pt r1 (Row 3 1 m.x1.length c1 (ints m.x1)) :: pt r2 (Row 3 1 m.x2.length c2 (ints m.x2)) :: F) = M
  refine Cx.lp (α := {i : Nat // i ≤ 3}) (fun i => [(3, .int .i64 (((List.range i.1).map fun k => (m.items k).length).sum : Nat)), (9, .agg #[.int .i64 m.t0, .slice r0 m.x0.length c0, .int .i64 m.t1, .slice r1 m.x1.length c1, .int .i64 m.t2, .slice r2 m.x2.length c2]), (10, .int .i64 i.1)])
    (fun _ => M) (fun i => 3 - i.1) ⟨0, by omega⟩ (sub.cons rfl (sub.cons rfl (sub.cons rfl sub.nil))) (Ent.refl _) ?_
  rintro ⟨i, hi⟩
  dsimp only
  rcases (show i = 0 ∨ i = 1 ∨ i = 2 ∨ i = 3 by omega) with rfl | rfl | rfl | rfl
  · refine go ?_
    refine Sx.pv rfl ⟨by omega, by omega⟩ ?_
    refine Sx.al fun g => ?_
    refine Sx.st (b := g) rfl rfl rfl rfl rfl rfl ?_
    dsimp only [lay]
    refine go ?_
    refine Klp.nm ⟨1, by omega⟩ (sub.cons ?_ (sub.cons rfl (sub.cons rfl sub.nil))) (Ent.drop) (by simp)
    simp only [List.range_succ, List.range_zero, List.nil_append, List.map_append, List.map_cons, List.map_nil, List.sum_append, List.sum_cons, List.sum_nil, Nat.zero_add, Nat.add_zero]
    refine congrArg (fun z => some (Value.int .i64 z)) ?_
    refine Eq.trans (w64 (by simp [Lm.items]) (by simp [Lm.items]; omega)) ?_
    simp [Lm.items]
  · refine go ?_
    refine Sx.pv rfl ⟨by omega, by omega⟩ ?_
    refine Sx.al fun g => ?_
    refine Sx.st (b := g) rfl rfl rfl rfl rfl rfl ?_
    dsimp only [lay]
    refine go ?_
    refine Klp.nm ⟨2, by omega⟩ (sub.cons ?_ (sub.cons rfl (sub.cons rfl sub.nil))) (Ent.drop) (by simp)
    simp only [List.range_succ, List.range_zero, List.nil_append, List.map_append, List.map_cons, List.map_nil, List.sum_append, List.sum_cons, List.sum_nil, Nat.zero_add, Nat.add_zero]
    refine congrArg (fun z => some (Value.int .i64 z)) ?_
    refine Eq.trans (w64 (by simp [Lm.items]; omega) (by simp [Lm.items]; omega)) ?_
    simp [Lm.items]
  · refine go ?_
    refine Sx.pv rfl ⟨by omega, by omega⟩ ?_
    refine Sx.al fun g => ?_
    refine Sx.st (b := g) rfl rfl rfl rfl rfl rfl ?_
    dsimp only [lay]
    refine go ?_
    refine Klp.nm ⟨3, by omega⟩ (sub.cons ?_ (sub.cons rfl (sub.cons rfl sub.nil))) (Ent.drop) (by simp)
    simp only [List.range_succ, List.range_zero, List.nil_append, List.map_append, List.map_cons, List.map_nil, List.sum_append, List.sum_cons, List.sum_nil, Nat.zero_add, Nat.add_zero]
    refine congrArg (fun z => some (Value.int .i64 z)) ?_
    refine Eq.trans (w64 (by simp [Lm.items]; omega) (by simp [Lm.items]; omega)) ?_
    simp [Lm.items]
  · refine go ?_
    subst hM
    refine Kr.one (.inr rfl) rfl (LimboO.close (a := some ⟨b, 0, none⟩) (r0 := r0) (r1 := r1) (r2 := r2) m rfl rfl rfl rfl rfl rfl rfl rfl rfl rfl) ⟨?_, rfl⟩
    simp [List.range_succ, Lm.items, hs]
    omega
/-- What a bucket tells. -/
theorem limboBucket {b : Nat} {m : Lm} {k : Int} {F : St} [t : Take L (some ⟨b, 0, none⟩) (LimboO m) F] (hb : m.size ≤ 1000000000) :
    Fx Tryz.prog 116 [.pointer (some ⟨b, 0, none⟩), .int .i64 k] L (fun v L' =>
      ((k < 0 ∨ 3 ≤ k ∨ m.items k.toNat = []) ∧ v = .tuple #[.int .i64 0, .slice none 0 0] ∧ L' = pt (some ⟨b, 0, none⟩) (LimboO m) :: F) ∨
      (¬ (k < 0 ∨ 3 ≤ k ∨ m.items k.toNat = []) ∧ ∃ ro co, v = .tuple #[.int .i64 (m.tag k.toNat), .slice ro (m.items k.toNat).length co] ∧ L' = pt ro (Row 3 1 (m.items k.toNat).length co (ints (m.items k.toNat))) :: pt (some ⟨b, 0, none⟩) (LimboO m) :: F)) := by
  have hs : m.size = m.x0.length + m.x1.length + m.x2.length := rfl
  refine Fx.mk Tryz.func116 k116 (Nat.le_of_ble_eq_true rfl) ?_
  dsimp only [c116, envOf, Nat.reduceAdd]
  refine Cx.openp (t := t) rfl ?_
  rintro ⟨⟨r0, c0⟩, ⟨r1, c1⟩, ⟨r2, c2⟩⟩
  simp only [List.cons_append, List.nil_append]
  refine Cx.rowkey (a := r0) fun hx0 hn0 _ hk0 => ?_
  refine Cx.rowkey (a := r1) fun hx1 hn1 _ hk1 => ?_
  refine Cx.rowkey (a := r2) fun hx2 hn2 _ hk2 => ?_
  refine go ?_
  refine Sx.ifp rfl (fun h1 => ?_) (fun h1 => ?_)
  · refine go ?_
    exact Kr.two (.inr rfl) rfl rfl (LimboO.close (a := some ⟨b, 0, none⟩) (r0 := r0) (r1 := r1) (r2 := r2) m rfl rfl rfl rfl rfl rfl rfl rfl rfl rfl) (.inl ⟨.inl h1, rfl, rfl⟩)
  refine go ?_
  refine Sx.ifp rfl (fun h2 => ?_) (fun h2 => ?_)
  · refine go ?_
    exact Kr.two (.inr rfl) rfl rfl (LimboO.close (a := some ⟨b, 0, none⟩) (r0 := r0) (r1 := r1) (r2 := r2) m rfl rfl rfl rfl rfl rfl rfl rfl rfl rfl) (.inl ⟨.inr (.inl h2), rfl, rfl⟩)
  rcases (show k = 0 ∨ k = 1 ∨ k = 2 by omega) with rfl | rfl | rfl
  · refine go ?_
    refine Sx.pv rfl ⟨by omega, by omega⟩ ?_
    refine go ?_
    refine Cx.ifp rfl (fun h3 => ?_) (fun h3 => ?_)
    · refine go ?_
      exact Kr.two (.inr rfl) rfl rfl (LimboO.close (a := some ⟨b, 0, none⟩) (r0 := r0) (r1 := r1) (r2 := r2) m rfl rfl rfl rfl rfl rfl rfl rfl rfl rfl) (.inl ⟨.inr (.inr (List.eq_nil_of_length_eq_zero (by simpa [Lm.items] using h3))), rfl, rfl⟩)
    refine go ?_
    refine Cx.rd ?_
    refine Rx.pvs rfl ?_
    refine Rx.pv 0 rfl rfl rfl ⟨by omega, by omega⟩ rfl rfl ?_
    refine Rx.pvs rfl ?_
    refine Rx.ldbK 0 rfl rfl rfl (by rfl) rfl rfl ?_
    refine Rx.pv 0 rfl rfl rfl ⟨by omega, by omega⟩ rfl rfl ?_
    refine Rx.pvs rfl ?_
    refine Rx.ldbK 0 rfl rfl rfl (by rfl) rfl rfl ?_
    refine Rx.pvs rfl ?_
    refine Rx.one rfl rfl rfl ?_
    refine Sx.ca rfl (clone (Rd.any (a := r0) hx0 (hk0.imp (fun h => h.2.1) id)) (ones_ints _) (by omega)) ?_
    rintro v L' ⟨ra, ca, rfl, rfl⟩
    refine Sx.nil ⟨⟨⟨trivial, Has.cell rfl⟩, Has.cell rfl⟩, ?_⟩
    refine Rx.pvs rfl ?_
    refine Rx.nil ?_
    refine go ?_
    refine Kr.two (.inr rfl) rfl rfl ?_ (.inr ⟨?_, ra, ca, rfl, rfl⟩)
    · exact Ent.cons (LimboO.close (a := some ⟨b, 0, none⟩) (r0 := r0) (r1 := r1) (r2 := r2) m rfl rfl rfl rfl rfl rfl rfl rfl rfl rfl)
    · rintro (h | h | h)
      · omega
      · omega
      · exact h3 (by have := congrArg List.length h; simp [Lm.items] at this; simp [this])
  · refine go ?_
    refine Sx.pv rfl ⟨by omega, by omega⟩ ?_
    refine go ?_
    refine Cx.ifp rfl (fun h3 => ?_) (fun h3 => ?_)
    · refine go ?_
      exact Kr.two (.inr rfl) rfl rfl (LimboO.close (a := some ⟨b, 0, none⟩) (r0 := r0) (r1 := r1) (r2 := r2) m rfl rfl rfl rfl rfl rfl rfl rfl rfl rfl) (.inl ⟨.inr (.inr (List.eq_nil_of_length_eq_zero (by simpa [Lm.items] using h3))), rfl, rfl⟩)
    refine go ?_
    refine Cx.rd ?_
    refine Rx.pvs rfl ?_
    refine Rx.pv 0 rfl rfl rfl ⟨by omega, by omega⟩ rfl rfl ?_
    refine Rx.pvs rfl ?_
    refine Rx.ldbK 0 rfl rfl rfl (by rfl) rfl rfl ?_
    refine Rx.pv 0 rfl rfl rfl ⟨by omega, by omega⟩ rfl rfl ?_
    refine Rx.pvs rfl ?_
    refine Rx.ldbK 0 rfl rfl rfl (by rfl) rfl rfl ?_
    refine Rx.pvs rfl ?_
    refine Rx.one rfl rfl rfl ?_
    refine Sx.ca rfl (clone (Rd.any (a := r1) hx1 (hk1.imp (fun h => h.2.1) id)) (ones_ints _) (by omega)) ?_
    rintro v L' ⟨ra, ca, rfl, rfl⟩
    refine Sx.nil ⟨⟨⟨trivial, Has.cell rfl⟩, Has.cell rfl⟩, ?_⟩
    refine Rx.pvs rfl ?_
    refine Rx.nil ?_
    refine go ?_
    refine Kr.two (.inr rfl) rfl rfl ?_ (.inr ⟨?_, ra, ca, rfl, rfl⟩)
    · exact Ent.cons (LimboO.close (a := some ⟨b, 0, none⟩) (r0 := r0) (r1 := r1) (r2 := r2) m rfl rfl rfl rfl rfl rfl rfl rfl rfl rfl)
    · rintro (h | h | h)
      · omega
      · omega
      · exact h3 (by have := congrArg List.length h; simp [Lm.items] at this; simp [this])
  · refine go ?_
    refine Sx.pv rfl ⟨by omega, by omega⟩ ?_
    refine go ?_
    refine Cx.ifp rfl (fun h3 => ?_) (fun h3 => ?_)
    · refine go ?_
      exact Kr.two (.inr rfl) rfl rfl (LimboO.close (a := some ⟨b, 0, none⟩) (r0 := r0) (r1 := r1) (r2 := r2) m rfl rfl rfl rfl rfl rfl rfl rfl rfl rfl) (.inl ⟨.inr (.inr (List.eq_nil_of_length_eq_zero (by simpa [Lm.items] using h3))), rfl, rfl⟩)
    refine go ?_
    refine Cx.rd ?_
    refine Rx.pvs rfl ?_
    refine Rx.pv 0 rfl rfl rfl ⟨by omega, by omega⟩ rfl rfl ?_
    refine Rx.pvs rfl ?_
    refine Rx.ldbK 0 rfl rfl rfl (by rfl) rfl rfl ?_
    refine Rx.pv 0 rfl rfl rfl ⟨by omega, by omega⟩ rfl rfl ?_
    refine Rx.pvs rfl ?_
    refine Rx.ldbK 0 rfl rfl rfl (by rfl) rfl rfl ?_
    refine Rx.pvs rfl ?_
    refine Rx.one rfl rfl rfl ?_
    refine Sx.ca rfl (clone (Rd.any (a := r2) hx2 (hk2.imp (fun h => h.2.1) id)) (ones_ints _) (by omega)) ?_
    rintro v L' ⟨ra, ca, rfl, rfl⟩
    refine Sx.nil ⟨⟨⟨trivial, Has.cell rfl⟩, Has.cell rfl⟩, ?_⟩
    refine Rx.pvs rfl ?_
    refine Rx.nil ?_
    refine go ?_
    refine Kr.two (.inr rfl) rfl rfl ?_ (.inr ⟨?_, ra, ca, rfl, rfl⟩)
    · exact Ent.cons (LimboO.close (a := some ⟨b, 0, none⟩) (r0 := r0) (r1 := r1) (r2 := r2) m rfl rfl rfl rfl rfl rfl rfl rfl rfl rfl)
    · rintro (h | h | h)
      · omega
      · omega
      · exact h3 (by have := congrArg List.length h; simp [Lm.items] at this; simp [this])
end
end Go.Proofs.YtnbkjcmmjgkdaaaGreat

/-
  The limbo's contract: Ready.
-/
set_option linter.unusedVariables false
set_option linter.unusedSimpArgs false
namespace Go.Proofs.YtnbkjcmmjgkdaaaGreat
open Go
attribute [local irreducible] Sx Cx Rx Fx Krg Ksq Kbl Klp Kr
section
variable {L F : St}
theorem bucketOpen {b o n c : Nat} {now tag : Int} {r : Option Addr} {xs : List Int} (h0 : Has L b o [.int .i64 tag]) (h1 : Has L b (o + 1) [.slice r n c]) (hn : n = xs.length) (h2 : 2 ≤ now) (h3 : now ≤ 9223372036854775807) :
    Fx Tryz.prog 179 [.pointer (some ⟨b, o, none⟩), .int .i64 now] L (fun v L' => v = .bool (openM now tag xs) ∧ L = L') := by
  subst hn
  refine Fx.mk Tryz.func179 k179 (Nat.le_of_ble_eq_true rfl) ?_
  dsimp only [c179, envOf, Nat.reduceAdd]
  refine go ?_
  refine Sx.ld rfl h1 rfl ?_
  refine go ?_
  refine Sx.ifp rfl (fun h => ?_) (fun h => ?_)
  · refine go ?_
    refine Sx.ld rfl (by simpa using h0) rfl ?_
    refine go ?_
    rw [w64 (n := now - 2) (by omega) (by omega)]
    refine Kr.one (.inr rfl) rfl (Ent.refl _) ⟨?_, rfl⟩
    have h' : 0 < xs.length := by omega
    simp [pick, openM, h']
  · refine go ?_
    refine Kr.one (.inr rfl) rfl (Ent.refl _) ⟨?_, rfl⟩
    have h' : ¬ 0 < xs.length := by omega
    simp [pick, openM, h']
abbrev lptr (b : Nat) (o : Option Nat) : Value := .pointer (o.map fun j => ⟨b, 0 + j * 2, none⟩)
set_option maxHeartbeats 4000000 in
theorem limboReady {b : Nat} {m : Lm} {now : Int} {F : St} [t : Take L (some ⟨b, 0, none⟩) (LimboO m) F] (hb : m.size ≤ 100000000) (hnow : now ≤ 9223372036854775807) :
    Fx Tryz.prog 151 [.pointer (some ⟨b, 0, none⟩), .int .i64 now] L (fun v L' => ∃ ro co, v = .slice ro (readyAll now m).1.length co ∧
      L' = pt ro (Row 3 1 (readyAll now m).1.length co (ints (readyAll now m).1)) :: pt (some ⟨b, 0, none⟩) (LimboO (readyAll now m).2) :: F) := by
  refine Fx.mk Tryz.func151 k151 (Nat.le_of_ble_eq_true rfl) ?_
  dsimp only [c151, envOf, Nat.reduceAdd]
  refine Cx.ent (Ent.trans (Ent.of t.out) (Ent.rownil 3 1)) ?_
  refine go ?_
  refine Cx.lp (α := {p : (List Int × Lm) × (Option Addr × Nat) // p.1.1.length + p.1.2.size = m.size ∧ p.1.1 ++ (readyAll now p.1.2).1 = (readyAll now m).1 ∧ (readyAll now p.1.2).2 = (readyAll now m).2})
    (fun p => [(0, .pointer (some ⟨b, 0, none⟩)), (1, .int .i64 now), (5, .slice p.1.2.1 p.1.1.1.length p.1.2.2)])
    (fun p => pt p.1.2.1 (Row 3 1 p.1.1.1.length p.1.2.2 (ints p.1.1.1)) :: pt (some ⟨b, 0, none⟩) (LimboO p.1.1.2) :: F) (fun p => p.1.1.2.cnt) ⟨(([], m), (none, 0)), by simp, by simp, rfl⟩ (sub.cons rfl (sub.cons rfl (sub.cons rfl sub.nil))) (Ent.refl _) ?_
  rintro ⟨⟨⟨out, m'⟩, ⟨ro, co⟩⟩, hsz, he1, he2⟩
  dsimp only at hsz he1 he2 ⊢
  refine go ?_
  refine Cx.ifp rfl (fun h2 => ?_) (fun h2 => ?_)
  rotate_left
  · refine go ?_
    have hra : readyAll now m' = ([], m') := by unfold readyAll; rw [if_neg (by omega)]
    rw [hra] at he1 he2
    simp only [List.append_nil] at he1
    subst he1; subst he2
    exact Kr.one (.inr rfl) rfl (Ent.refl _) ⟨ro, co, rfl, rfl⟩
  refine Cx.openp (a := some ⟨b, 0, none⟩) rfl ?_
  rintro ⟨⟨r0, c0⟩, ⟨r1, c1⟩, ⟨r2, c2⟩⟩
  simp only [List.cons_append, List.nil_append]
  refine go ?_
  refine Cx.lp (α := {k : Nat // k ≤ 3}) (fun k => [(0, .pointer (some ⟨b, 0, none⟩)), (1, .int .i64 now), (5, .slice ro out.length co), (6, lptr b (leastUp now m' k.1)), (11, .int .i64 k.1)]) (fun _ => _) (fun k => 3 - k.1) ⟨0, by omega⟩
    (sub.cons rfl (sub.cons rfl (sub.cons rfl (sub.cons rfl (sub.cons rfl sub.nil))))) (Ent.refl _) ?_
  rintro ⟨k, hk⟩
  dsimp only
  rcases (show k = 0 ∨ k = 1 ∨ k = 2 ∨ k = 3 by omega) with rfl | rfl | rfl | rfl
  · refine go ?_
    refine Sx.pv rfl ⟨by omega, by omega⟩ ?_
    rcases hlu : leastUp now m' 0 with _ | j
    · refine go ?_
      refine Cx.calm (by kernel_rfl) ?_
      repeat' (first | (refine Cm.pvs rfl ?_) | (refine Cm.step rfl ?_) | (refine Cm.done ?_) | (refine Cm.ldb rfl rfl (by rfl) ?_) | (refine Cm.ldbs rfl rfl rfl ?_))
      refine Cm.ca rfl rfl (bucketOpen (tag := m'.t0) (xs := m'.x0) (Has.cell rfl) (Has.cell rfl) rfl h2 hnow) ?_
      cases hop : openM now m'.t0 m'.x0
      · repeat' (first | (refine Cm.pvs rfl ?_) | (refine Cm.step rfl ?_) | (refine Cm.done ?_) | (refine Cm.ldb rfl rfl (by rfl) ?_) | (refine Cm.ldbs rfl rfl rfl ?_))
        refine go ?_
        refine Klp.nm ⟨1, by omega⟩ (sub.cons rfl (sub.cons rfl (sub.cons rfl (sub.cons (Eq.trans ?_ (congrArg (fun o => some (lptr b o)) ((leastUp_no (k := 0) hop).trans hlu : leastUp now m' 1 = _).symm)) (sub.cons rfl sub.nil))))) (Ent.refl _) (by simp)
        rfl
      · repeat' (first | (refine Cm.pvs rfl ?_) | (refine Cm.step rfl ?_) | (refine Cm.done ?_) | (refine Cm.ldb rfl rfl (by rfl) ?_) | (refine Cm.ldbs rfl rfl rfl ?_))
        refine go ?_
        refine Klp.nm ⟨1, by omega⟩ (sub.cons rfl (sub.cons rfl (sub.cons rfl (sub.cons (Eq.trans ?_ (congrArg (fun o => some (lptr b o)) (leastUp_first (k := 0) hop hlu : leastUp now m' 1 = _).symm)) (sub.cons rfl sub.nil))))) (Ent.refl _) (by simp)
        rfl
    · exact absurd (leastUp_lt hlu).1 (by omega)
  · refine go ?_
    refine Sx.pv rfl ⟨by omega, by omega⟩ ?_
    rcases hlu : leastUp now m' 1 with _ | j
    · refine go ?_
      refine Cx.calm (by kernel_rfl) ?_
      repeat' (first | (refine Cm.pvs rfl ?_) | (refine Cm.step rfl ?_) | (refine Cm.done ?_) | (refine Cm.ldb rfl rfl (by rfl) ?_) | (refine Cm.ldbs rfl rfl rfl ?_))
      refine Cm.ca rfl rfl (bucketOpen (tag := m'.t1) (xs := m'.x1) (Has.cell rfl) (Has.cell rfl) rfl h2 hnow) ?_
      cases hop : openM now m'.t1 m'.x1
      · repeat' (first | (refine Cm.pvs rfl ?_) | (refine Cm.step rfl ?_) | (refine Cm.done ?_) | (refine Cm.ldb rfl rfl (by rfl) ?_) | (refine Cm.ldbs rfl rfl rfl ?_))
        refine go ?_
        refine Klp.nm ⟨2, by omega⟩ (sub.cons rfl (sub.cons rfl (sub.cons rfl (sub.cons (Eq.trans ?_ (congrArg (fun o => some (lptr b o)) ((leastUp_no (k := 1) hop).trans hlu : leastUp now m' 2 = _).symm)) (sub.cons rfl sub.nil))))) (Ent.refl _) (by simp)
        rfl
      · repeat' (first | (refine Cm.pvs rfl ?_) | (refine Cm.step rfl ?_) | (refine Cm.done ?_) | (refine Cm.ldb rfl rfl (by rfl) ?_) | (refine Cm.ldbs rfl rfl rfl ?_))
        refine go ?_
        refine Klp.nm ⟨2, by omega⟩ (sub.cons rfl (sub.cons rfl (sub.cons rfl (sub.cons (Eq.trans ?_ (congrArg (fun o => some (lptr b o)) (leastUp_first (k := 1) hop hlu : leastUp now m' 2 = _).symm)) (sub.cons rfl sub.nil))))) (Ent.refl _) (by simp)
        rfl
    · have hj := (leastUp_lt hlu).1
      rcases (show j = 0 by omega) with rfl
      · refine go ?_
        refine Cx.calm (by kernel_rfl) ?_
        repeat' (first | (refine Cm.pvs rfl ?_) | (refine Cm.step rfl ?_) | (refine Cm.done ?_) | (refine Cm.ldb rfl rfl (by rfl) ?_) | (refine Cm.ldbs rfl rfl rfl ?_))
        refine Cm.ca rfl rfl (bucketOpen (tag := m'.t1) (xs := m'.x1) (Has.cell rfl) (Has.cell rfl) rfl h2 hnow) ?_
        cases hop : openM now m'.t1 m'.x1
        · repeat' (first | (refine Cm.pvs rfl ?_) | (refine Cm.step rfl ?_) | (refine Cm.done ?_) | (refine Cm.ldb rfl rfl (by rfl) ?_) | (refine Cm.ldbs rfl rfl rfl ?_))
          refine go ?_
          refine Klp.nm ⟨2, by omega⟩ (sub.cons rfl (sub.cons rfl (sub.cons rfl (sub.cons (Eq.trans ?_ (congrArg (fun o => some (lptr b o)) ((leastUp_no (k := 1) hop).trans hlu : leastUp now m' 2 = _).symm)) (sub.cons rfl sub.nil))))) (Ent.refl _) (by simp)
          rfl
        · repeat' (first | (refine Cm.pvs rfl ?_) | (refine Cm.step rfl ?_) | (refine Cm.done ?_) | (refine Cm.ldb rfl rfl (by rfl) ?_) | (refine Cm.ldbs rfl rfl rfl ?_))
          refine Cx.ifp rfl (fun h3 => ?_) (fun h3 => ?_)
          · refine go ?_
            refine Klp.nm ⟨2, by omega⟩ (sub.cons rfl (sub.cons rfl (sub.cons rfl (sub.cons (Eq.trans ?_ (congrArg (fun o => some (lptr b o)) (leastUp_less (k := 1) hop hlu h3 : leastUp now m' 2 = _).symm)) (sub.cons rfl sub.nil))))) (Ent.refl _) (by simp)
            rfl
          · refine go ?_
            refine Klp.nm ⟨2, by omega⟩ (sub.cons rfl (sub.cons rfl (sub.cons rfl (sub.cons (Eq.trans ?_ (congrArg (fun o => some (lptr b o)) (leastUp_keep (k := 1) hop hlu h3 : leastUp now m' 2 = _).symm)) (sub.cons rfl sub.nil))))) (Ent.refl _) (by simp)
            rfl
  · refine go ?_
    refine Sx.pv rfl ⟨by omega, by omega⟩ ?_
    rcases hlu : leastUp now m' 2 with _ | j
    · refine go ?_
      refine Cx.calm (by kernel_rfl) ?_
      repeat' (first | (refine Cm.pvs rfl ?_) | (refine Cm.step rfl ?_) | (refine Cm.done ?_) | (refine Cm.ldb rfl rfl (by rfl) ?_) | (refine Cm.ldbs rfl rfl rfl ?_))
      refine Cm.ca rfl rfl (bucketOpen (tag := m'.t2) (xs := m'.x2) (Has.cell rfl) (Has.cell rfl) rfl h2 hnow) ?_
      cases hop : openM now m'.t2 m'.x2
      · repeat' (first | (refine Cm.pvs rfl ?_) | (refine Cm.step rfl ?_) | (refine Cm.done ?_) | (refine Cm.ldb rfl rfl (by rfl) ?_) | (refine Cm.ldbs rfl rfl rfl ?_))
        refine go ?_
        refine Klp.nm ⟨3, by omega⟩ (sub.cons rfl (sub.cons rfl (sub.cons rfl (sub.cons (Eq.trans ?_ (congrArg (fun o => some (lptr b o)) ((leastUp_no (k := 2) hop).trans hlu : leastUp now m' 3 = _).symm)) (sub.cons rfl sub.nil))))) (Ent.refl _) (by simp)
        rfl
      · repeat' (first | (refine Cm.pvs rfl ?_) | (refine Cm.step rfl ?_) | (refine Cm.done ?_) | (refine Cm.ldb rfl rfl (by rfl) ?_) | (refine Cm.ldbs rfl rfl rfl ?_))
        refine go ?_
        refine Klp.nm ⟨3, by omega⟩ (sub.cons rfl (sub.cons rfl (sub.cons rfl (sub.cons (Eq.trans ?_ (congrArg (fun o => some (lptr b o)) (leastUp_first (k := 2) hop hlu : leastUp now m' 3 = _).symm)) (sub.cons rfl sub.nil))))) (Ent.refl _) (by simp)
        rfl
    · have hj := (leastUp_lt hlu).1
      rcases (show j = 0 ∨ j = 1 by omega) with rfl | rfl
      · refine go ?_
        refine Cx.calm (by kernel_rfl) ?_
        repeat' (first | (refine Cm.pvs rfl ?_) | (refine Cm.step rfl ?_) | (refine Cm.done ?_) | (refine Cm.ldb rfl rfl (by rfl) ?_) | (refine Cm.ldbs rfl rfl rfl ?_))
        refine Cm.ca rfl rfl (bucketOpen (tag := m'.t2) (xs := m'.x2) (Has.cell rfl) (Has.cell rfl) rfl h2 hnow) ?_
        cases hop : openM now m'.t2 m'.x2
        · repeat' (first | (refine Cm.pvs rfl ?_) | (refine Cm.step rfl ?_) | (refine Cm.done ?_) | (refine Cm.ldb rfl rfl (by rfl) ?_) | (refine Cm.ldbs rfl rfl rfl ?_))
          refine go ?_
          refine Klp.nm ⟨3, by omega⟩ (sub.cons rfl (sub.cons rfl (sub.cons rfl (sub.cons (Eq.trans ?_ (congrArg (fun o => some (lptr b o)) ((leastUp_no (k := 2) hop).trans hlu : leastUp now m' 3 = _).symm)) (sub.cons rfl sub.nil))))) (Ent.refl _) (by simp)
          rfl
        · repeat' (first | (refine Cm.pvs rfl ?_) | (refine Cm.step rfl ?_) | (refine Cm.done ?_) | (refine Cm.ldb rfl rfl (by rfl) ?_) | (refine Cm.ldbs rfl rfl rfl ?_))
          refine Cx.ifp rfl (fun h3 => ?_) (fun h3 => ?_)
          · refine go ?_
            refine Klp.nm ⟨3, by omega⟩ (sub.cons rfl (sub.cons rfl (sub.cons rfl (sub.cons (Eq.trans ?_ (congrArg (fun o => some (lptr b o)) (leastUp_less (k := 2) hop hlu h3 : leastUp now m' 3 = _).symm)) (sub.cons rfl sub.nil))))) (Ent.refl _) (by simp)
            rfl
          · refine go ?_
            refine Klp.nm ⟨3, by omega⟩ (sub.cons rfl (sub.cons rfl (sub.cons rfl (sub.cons (Eq.trans ?_ (congrArg (fun o => some (lptr b o)) (leastUp_keep (k := 2) hop hlu h3 : leastUp now m' 3 = _).symm)) (sub.cons rfl sub.nil))))) (Ent.refl _) (by simp)
            rfl
      · refine go ?_
        refine Cx.calm (by kernel_rfl) ?_
        repeat' (first | (refine Cm.pvs rfl ?_) | (refine Cm.step rfl ?_) | (refine Cm.done ?_) | (refine Cm.ldb rfl rfl (by rfl) ?_) | (refine Cm.ldbs rfl rfl rfl ?_))
        refine Cm.ca rfl rfl (bucketOpen (tag := m'.t2) (xs := m'.x2) (Has.cell rfl) (Has.cell rfl) rfl h2 hnow) ?_
        cases hop : openM now m'.t2 m'.x2
        · repeat' (first | (refine Cm.pvs rfl ?_) | (refine Cm.step rfl ?_) | (refine Cm.done ?_) | (refine Cm.ldb rfl rfl (by rfl) ?_) | (refine Cm.ldbs rfl rfl rfl ?_))
          refine go ?_
          refine Klp.nm ⟨3, by omega⟩ (sub.cons rfl (sub.cons rfl (sub.cons rfl (sub.cons (Eq.trans ?_ (congrArg (fun o => some (lptr b o)) ((leastUp_no (k := 2) hop).trans hlu : leastUp now m' 3 = _).symm)) (sub.cons rfl sub.nil))))) (Ent.refl _) (by simp)
          rfl
        · repeat' (first | (refine Cm.pvs rfl ?_) | (refine Cm.step rfl ?_) | (refine Cm.done ?_) | (refine Cm.ldb rfl rfl (by rfl) ?_) | (refine Cm.ldbs rfl rfl rfl ?_))
          refine Cx.ifp rfl (fun h3 => ?_) (fun h3 => ?_)
          · refine go ?_
            refine Klp.nm ⟨3, by omega⟩ (sub.cons rfl (sub.cons rfl (sub.cons rfl (sub.cons (Eq.trans ?_ (congrArg (fun o => some (lptr b o)) (leastUp_less (k := 2) hop hlu h3 : leastUp now m' 3 = _).symm)) (sub.cons rfl sub.nil))))) (Ent.refl _) (by simp)
            rfl
          · refine go ?_
            refine Klp.nm ⟨3, by omega⟩ (sub.cons rfl (sub.cons rfl (sub.cons rfl (sub.cons (Eq.trans ?_ (congrArg (fun o => some (lptr b o)) (leastUp_keep (k := 2) hop hlu h3 : leastUp now m' 3 = _).symm)) (sub.cons rfl sub.nil))))) (Ent.refl _) (by simp)
            rfl
  · refine go ?_
    have hall : ∀ o, leastUp now m' 3 = o → readyAll now m' = match o with
        | none => ([], m')
        | some j => (m'.items j ++ (readyAll now (m'.put j 0 [])).1, (readyAll now (m'.put j 0 [])).2) := by
      intro o ho
      unfold readyAll
      simp only [if_pos h2]
      cases o with
      | none =>
        cases hc : m'.cnt with
        | zero => rfl
        | succ c => simp [readyM, ho]
      | some j =>
        rw [cnt_put (leastUp_lt ho).1 (open_ne (leastUp_lt ho).2)]
        simp [readyM, ho]
    rcases hlu : leastUp now m' 3 with _ | j
    · have hra := hall _ hlu
      dsimp only at hra
      rw [hra] at he1 he2
      simp only [List.append_nil] at he1
      subst he1; subst he2
      refine go ?_
      refine Kr.one (.inr rfl) rfl ?_ ⟨ro, co, rfl, rfl⟩
      refine Ent.trans (LimboO.close (a := some ⟨b, 0, none⟩) (r0 := r0) (r1 := r1) (r2 := r2) _ rfl rfl rfl rfl rfl rfl rfl rfl rfl rfl) ?_
      exact ent
    · have hra := hall _ hlu
      have hj := (leastUp_lt hlu).1
      have hne := open_ne (leastUp_lt hlu).2
      have hsp := size_put (m := m') hj
      have hcp := cnt_put hj hne
      dsimp only at hra
      rw [hra, ← List.append_assoc] at he1
      rw [hra] at he2
      have hm1 : out.length + (m'.x0.length + m'.x1.length + m'.x2.length) = m.size := hsz
      rcases (show j = 0 ∨ j = 1 ∨ j = 2 by omega) with rfl | rfl | rfl
      · refine go ?_
        refine Sx.rowkey (a := r0) fun hxj hnj _ hkj => ?_
        refine Sx.ap (ra := ro) rfl rfl (Rd.any (a := r0) hxj (hkj.imp (fun h => h.2.1) id)) (ones_ints _) (by simp [maxLen]; omega) (by omega) fun ra ca hc => ?_
        refine go ?_
        refine Sx.st (b := b) rfl rfl rfl rfl rfl rfl ?_
        dsimp only [lay]
        refine go ?_
        refine Klp.nm ⟨((out ++ m'.items 0, m'.put 0 0 []), (ra, ca)), by dsimp only; rw [List.length_append]; omega, he1, he2⟩ (sub.cons rfl (sub.cons rfl (sub.cons ?_ sub.nil))) ?_ (by dsimp only; omega)
        · show _ = some (Value.slice ra (out ++ m'.items 0).length ca)
          rw [show (out ++ m'.items 0).length = out.length + m'.x0.length by simp [Lm.items]]
          rfl
        · dsimp only
          refine Ent.trans (Ent.rownil 3 1) ?_
          refine Ent.trans (LimboO.close (a := some ⟨b, 0, none⟩) (r0 := none) (r1 := r1) (r2 := r2) (m'.put 0 0 []) rfl rfl rfl rfl rfl rfl rfl rfl rfl rfl) ?_
          rw [show (out ++ m'.items 0).length = out.length + m'.x0.length by simp [Lm.items], show ints (out ++ m'.items 0) = ints out ++ ints m'.x0 by rw [ints_append]; rfl]
          exact ent
      · refine go ?_
        refine Sx.rowkey (a := r1) fun hxj hnj _ hkj => ?_
        refine Sx.ap (ra := ro) rfl rfl (Rd.any (a := r1) hxj (hkj.imp (fun h => h.2.1) id)) (ones_ints _) (by simp [maxLen]; omega) (by omega) fun ra ca hc => ?_
        refine go ?_
        refine Sx.st (b := b) rfl rfl rfl rfl rfl rfl ?_
        dsimp only [lay]
        refine go ?_
        refine Klp.nm ⟨((out ++ m'.items 1, m'.put 1 0 []), (ra, ca)), by dsimp only; rw [List.length_append]; omega, he1, he2⟩ (sub.cons rfl (sub.cons rfl (sub.cons ?_ sub.nil))) ?_ (by dsimp only; omega)
        · show _ = some (Value.slice ra (out ++ m'.items 1).length ca)
          rw [show (out ++ m'.items 1).length = out.length + m'.x1.length by simp [Lm.items]]
          rfl
        · dsimp only
          refine Ent.trans (Ent.rownil 3 1) ?_
          refine Ent.trans (LimboO.close (a := some ⟨b, 0, none⟩) (r0 := r0) (r1 := none) (r2 := r2) (m'.put 1 0 []) rfl rfl rfl rfl rfl rfl rfl rfl rfl rfl) ?_
          rw [show (out ++ m'.items 1).length = out.length + m'.x1.length by simp [Lm.items], show ints (out ++ m'.items 1) = ints out ++ ints m'.x1 by rw [ints_append]; rfl]
          exact ent
      · refine go ?_
        refine Sx.rowkey (a := r2) fun hxj hnj _ hkj => ?_
        refine Sx.ap (ra := ro) rfl rfl (Rd.any (a := r2) hxj (hkj.imp (fun h => h.2.1) id)) (ones_ints _) (by simp [maxLen]; omega) (by omega) fun ra ca hc => ?_
        refine go ?_
        refine Sx.st (b := b) rfl rfl rfl rfl rfl rfl ?_
        dsimp only [lay]
        refine go ?_
        refine Klp.nm ⟨((out ++ m'.items 2, m'.put 2 0 []), (ra, ca)), by dsimp only; rw [List.length_append]; omega, he1, he2⟩ (sub.cons rfl (sub.cons rfl (sub.cons ?_ sub.nil))) ?_ (by dsimp only; omega)
        · show _ = some (Value.slice ra (out ++ m'.items 2).length ca)
          rw [show (out ++ m'.items 2).length = out.length + m'.x2.length by simp [Lm.items]]
          rfl
        · dsimp only
          refine Ent.trans (Ent.rownil 3 1) ?_
          refine Ent.trans (LimboO.close (a := some ⟨b, 0, none⟩) (r0 := r0) (r1 := r1) (r2 := none) (m'.put 2 0 []) rfl rfl rfl rfl rfl rfl rfl rfl rfl rfl) ?_
          rw [show (out ++ m'.items 2).length = out.length + m'.x2.length by simp [Lm.items], show ints (out ++ m'.items 2) = ints out ++ ints m'.x2 by rw [ints_append]; rfl]
          exact ent
end
end Go.Proofs.YtnbkjcmmjgkdaaaGreat

/-
  Supplies: New, Stash, Bucket, Put, Retire, Ready.
-/
set_option linter.unusedVariables false
set_option linter.unusedSimpArgs false
namespace Go.Proofs.YtnbkjcmmjgkdaaaGreat
open Go
attribute [local irreducible] Sx Cx Rx Fx Krg Ksq Kbl Klp Kr
section
variable {L F G : St}
theorem stashTakeI {b : Nat} {most : Int} (xs : List Int) {F : St} [t : Take L (some ⟨b, 0, none⟩) (StashO most xs) F] (hb : xs.length ≤ 1000000000) :
    Fx Tryz.prog 162 [.pointer (some ⟨b, 0, none⟩)] L (fun v L' => v = .tuple #[.int .i64 (lastI xs), .bool (decide (xs ≠ []))] ∧ L' = pt (some ⟨b, 0, none⟩) (StashO most xs.dropLast) :: F) := by
  rcases List.eq_nil_or_concat xs with rfl | ⟨ys, x, rfl⟩
  · exact stashTakeNone
  · rw [List.concat_eq_append] at t hb ⊢
    refine (stashTakeSome (t := t) (by simp at hb; omega)).mono ?_
    rintro v L' ⟨rfl, rfl⟩
    simp [lastI]
def supL (T : TypeId) (mp pb : Nat) (x : Cn) (s : SupS) (a : Option Addr) (y : Nat × Nat) : St :=
  [pt a (Blk T (.pointer (some ⟨mp, 0, none⟩) :: x.l ++ [.pointer (some ⟨pb, 0, none⟩), .pointer (some ⟨y.1, 0, none⟩), .pointer (some ⟨y.2, 0, none⟩)])), pt (some ⟨y.1, 0, none⟩) (StashO s.most s.xs), pt (some ⟨y.2, 0, none⟩) (LimboO s.lm)]
def SupT (T : TypeId) (mp pb : Nat) (x : Cn) (s : SupS) (a : Option Addr) : As := exs (supL T mp pb x s a)
abbrev SupO := SupT 145
theorem SupO.close {T : TypeId} {mp pb sh lm : Nat} {x : Cn} {a : Option Addr} {m : Int} {xs : List Int} {l : Lm} {F0 F1 G : St} (s : SupS)
    [t : Take L a (Blk T (.pointer (some ⟨mp, 0, none⟩) :: x.l ++ [.pointer (some ⟨pb, 0, none⟩), .pointer (some ⟨sh, 0, none⟩), .pointer (some ⟨lm, 0, none⟩)])) F0] [u : Take F0 (some ⟨sh, 0, none⟩) (StashO m xs) F1] [q : Take F1 (some ⟨lm, 0, none⟩) (LimboO l) G]
    (hm : m = s.most) (hx : xs = s.xs) (hl : l = s.lm) : Ent L (pt a (SupT T mp pb x s) :: G) := by
  subst hm; subst hx; subst hl
  refine Ent.trans (Ent.take1 (t := t) (Ent.trans (Ent.of u.out) (Ent.cons (Ent.of q.out)))) ?_
  exact Ent.close (f := supL T mp pb x s a) rfl (sh, lm)
theorem supNew {mp : Nat} {m : Mm} {x : Cn} (hx : x.ok) (hl : x.len ≤ m.ws.length) [t : Take L (some ⟨mp, 0, none⟩) (MemO m) F] :
    Fx Tryz.prog 60 [.pointer (some ⟨mp, 0, none⟩), x.v] L (fun v L' => ∃ u pb, v = .tuple #[.pointer (some ⟨u, 0, none⟩), .int .i64 0] ∧ L' = pt (some ⟨u, 0, none⟩) (SupO mp pb x (SupS.nil x.ca)) :: pt (some ⟨pb, 0, none⟩) (SkO mp x.pool) :: L) := by
  refine Fx.mk Tryz.func60 k60 (Nat.le_of_ble_eq_true rfl) ?_
  dsimp only [c60, envOf, Nat.reduceAdd]
  refine Cx.sq ?_
  refine Cx.rg ?_
  refine Sx.bx rfl rfl fun g => ?_
  refine go ?_
  refine Sx.ca rfl (chainNew (mp := mp) (m := m) hx hl) ?_
  rintro v L' ⟨c, pb, rfl, rfl⟩
  refine go ?_
  refine Cx.ordc rfl (by kernel_rfl) ?_
  refine ge ?_
  refine Ev.cakH (by kernel_rfl) rfl rfl (chainPool (g := c) (mp := mp) (sb := pb) (x := x)) ?_
  refine ge ?_
  refine Ev.caH (by kernel_rfl) rfl rfl (stashNew (x.ca : Int)) (.dep rfl (.dep rfl (.keep (fun v L' ⟨_, _, e⟩ => by subst e; exact Has.blk) .nil))) ?_
  rintro v L' ⟨sh, rfl, rfl⟩
  refine ge ?_
  refine Ev.caH (by kernel_rfl) rfl rfl limboNew (.dep rfl (.dep rfl (.keep (fun v L' ⟨_, _, e⟩ => by subst e; exact Has.blk) .nil))) ?_
  rintro v L' ⟨lm, rfl, rfl⟩
  refine ge ?_
  refine Ev.bxH (by kernel_rfl) rfl rfl rfl (Pres.deps (by kernel_rfl)) fun u => ?_
  refine ge ?_
  refine go ?_
  refine Kr.two (.inr rfl) rfl rfl ?_ ⟨u, pb, rfl, rfl⟩
  refine Ent.trans (SupO.close (a := some ⟨u, 0, none⟩) (sh := sh) (lm := lm) (mp := mp) (pb := pb) (x := x) (SupS.nil x.ca) rfl rfl rfl) ?_
  refine Ent.cons ?_
  exact ent
theorem supStash {u mp pb : Nat} {x : Cn} {s : SupS} {F : St} [t : Take L (some ⟨u, 0, none⟩) (SupO mp pb x s) F] (hb : s.xs.length ≤ 1000000000) : Fx Tryz.prog 19 [.pointer (some ⟨u, 0, none⟩)] L (fun v L' => ∃ a c, v = .slice a s.xs.length c ∧ L' = pt a (Row 3 1 s.xs.length c (ints s.xs)) :: pt (some ⟨u, 0, none⟩) (SupO mp pb x s) :: F) := by
  refine Fx.mk Tryz.func19 k19 (Nat.le_of_ble_eq_true rfl) ?_
  dsimp only [c19, envOf, Nat.reduceAdd]
  refine Cx.openp (t := t) rfl ?_
  rintro ⟨sh, lm⟩
  simp only [supL, List.cons_append, List.nil_append]
  refine go ?_
  refine Sx.ca rfl (stashList (b := sh) hb) ?_
  rintro v L' ⟨a, c, rfl, rfl⟩
  refine go ?_
  exact Kr.one (.inr rfl) rfl (Ent.cons (SupO.close (a := some ⟨u, 0, none⟩) (sh := sh) (lm := lm) (mp := mp) (pb := pb) (x := x) s rfl rfl rfl)) ⟨a, c, rfl, rfl⟩
theorem supBucket {u mp pb : Nat} {x : Cn} {s : SupS} {F : St} [t : Take L (some ⟨u, 0, none⟩) (SupO mp pb x s) F] (k : Int) (hb : s.lm.size ≤ 1000000000) : Fx Tryz.prog 54 [.pointer (some ⟨u, 0, none⟩), .int .i64 k] L (fun v L' =>
      ((k < 0 ∨ 3 ≤ k ∨ s.lm.items k.toNat = []) ∧ v = .tuple #[.int .i64 0, .slice none 0 0] ∧ L' = pt (some ⟨u, 0, none⟩) (SupO mp pb x s) :: F) ∨
      (¬ (k < 0 ∨ 3 ≤ k ∨ s.lm.items k.toNat = []) ∧ ∃ ro co, v = .tuple #[.int .i64 (s.lm.tag k.toNat), .slice ro (s.lm.items k.toNat).length co] ∧ L' = pt ro (Row 3 1 (s.lm.items k.toNat).length co (ints (s.lm.items k.toNat))) :: pt (some ⟨u, 0, none⟩) (SupO mp pb x s) :: F)) := by
  refine Fx.mk Tryz.func54 k54 (Nat.le_of_ble_eq_true rfl) ?_
  dsimp only [c54, envOf, Nat.reduceAdd]
  refine Cx.openp (t := t) rfl ?_
  rintro ⟨sh, lm⟩
  simp only [supL, List.cons_append, List.nil_append]
  refine go ?_
  refine Sx.ca rfl (limboBucket (b := lm) (m := s.lm) (k := k) hb) ?_
  rintro v L' (⟨h, rfl, rfl⟩ | ⟨h, ro, co, rfl, rfl⟩)
  · refine go ?_
    exact Kr.two (.inr rfl) rfl rfl (SupO.close (a := some ⟨u, 0, none⟩) (sh := sh) (lm := lm) (mp := mp) (pb := pb) (x := x) s rfl rfl rfl) (.inl ⟨h, rfl, rfl⟩)
  · refine go ?_
    exact Kr.two (.inr rfl) rfl rfl (Ent.cons (SupO.close (a := some ⟨u, 0, none⟩) (sh := sh) (lm := lm) (mp := mp) (pb := pb) (x := x) s rfl rfl rfl)) (.inr ⟨h, ro, co, rfl, rfl⟩)
theorem supPut {u mp pb : Nat} {x : Cn} {s : SupS} {F : St} [t : Take L (some ⟨u, 0, none⟩) (SupO mp pb x s) F] {ys : List Int} {ya : Option Addr} {m c : Nat} (hr : Rd F 1 ya m (ints ys)) (hb : s.xs.length + m ≤ 1000000000) :
    Fx Tryz.prog 20 [.pointer (some ⟨u, 0, none⟩), .slice ya m c] L (fun v L' => v = .tuple #[] ∧ L' = pt (some ⟨u, 0, none⟩) (SupO mp pb x (s.give ys)) :: F) := by
  refine Fx.mk Tryz.func20 k20 (Nat.le_of_ble_eq_true rfl) ?_
  dsimp only [c20, envOf, Nat.reduceAdd]
  refine Cx.openp (t := t) rfl ?_
  rintro ⟨sh, lm⟩
  simp only [supL, List.cons_append, List.nil_append]
  refine go ?_
  refine Sx.ca rfl (stashGive (b := sh) (hr.ent (by repeat (first | exact Ent.refl _ | (refine Ent.trans Ent.drop ?_)))) hb) ?_
  rintro v L' ⟨rfl, rfl⟩
  refine go ?_
  exact Kr.none (.inl rfl) (SupO.close (a := some ⟨u, 0, none⟩) (sh := sh) (lm := lm) (mp := mp) (pb := pb) (x := x) (s.give ys) rfl rfl rfl) ⟨rfl, rfl⟩
theorem supRetire {u mp pb : Nat} {x : Cn} {s : SupS} {F : St} [t : Take L (some ⟨u, 0, none⟩) (SupO mp pb x s) F] {tag : Int} {ys : List Int} {ya : Option Addr} {n c : Nat} (hr : Rd F 1 ya n (ints ys)) (hb : s.lm.size + n ≤ 100000000) (hx : s.xs.length ≤ 100000000) :
    Fx Tryz.prog 42 [.pointer (some ⟨u, 0, none⟩), .int .i64 tag, .slice ya n c] L (fun v L' =>
      (refused s.lm tag ys ∧ v = .int .i64 1 ∧ L' = pt (some ⟨u, 0, none⟩) (SupO mp pb x s) :: F) ∨
      (¬ refused s.lm tag ys ∧ v = .int .i64 0 ∧ L' = pt (some ⟨u, 0, none⟩) (SupO mp pb x ⟨s.most, s.xs ++ outM s.lm tag, retireM s.lm tag ys⟩) :: F)) := by
  have hz := size_retire s.lm tag ys
  refine Fx.mk Tryz.func42 k42 (Nat.le_of_ble_eq_true rfl) ?_
  dsimp only [c42, envOf, Nat.reduceAdd]
  refine Cx.openp (t := t) rfl ?_
  rintro ⟨sh, lm⟩
  simp only [supL, List.cons_append, List.nil_append]
  refine go ?_
  refine Sx.ca rfl (limboRetire (b := lm) (m := s.lm) (ys := ys) (hr.ent (by repeat (first | exact Ent.refl _ | (refine Ent.trans Ent.drop ?_)))) (by omega)) ?_
  rintro v L' (⟨h, rfl, rfl⟩ | ⟨h, ro, co, rfl, rfl⟩)
  · refine go ?_
    refine Sx.ca rfl (stashGive (b := sh) (ys := []) (Rd.nil _ _ _) (by omega)) ?_
    rintro v L' ⟨rfl, rfl⟩
    refine go ?_
    exact Kr.one (.inr rfl) rfl (SupO.close (a := some ⟨u, 0, none⟩) (sh := sh) (lm := lm) (mp := mp) (pb := pb) (x := x) s rfl (List.append_nil _) rfl) (.inl ⟨h, rfl, rfl⟩)
  · refine Sx.rowkey (a := ro) fun hx0 hn0 _ hk0 => ?_
    refine go ?_
    refine Sx.ca rfl (stashGive (b := sh) (Rd.any (a := ro) hx0 (hk0.imp (fun h => h.2.1) id)) (by omega)) ?_
    rintro v L' ⟨rfl, rfl⟩
    refine go ?_
    refine Kr.one (.inr rfl) rfl (Ent.trans (SupO.close (a := some ⟨u, 0, none⟩) (sh := sh) (lm := lm) (mp := mp) (pb := pb) (x := x) ⟨s.most, s.xs ++ outM s.lm tag, retireM s.lm tag ys⟩ rfl rfl rfl) ?_) (.inr ⟨h, rfl, rfl⟩)
    exact ent
theorem supReady {u mp pb : Nat} {x : Cn} {s : SupS} {F : St} [t : Take L (some ⟨u, 0, none⟩) (SupO mp pb x s) F] {now : Int} (hb : s.lm.size ≤ 100000000) (hx : s.xs.length ≤ 100000000) (hn : now ≤ 9223372036854775807) :
    Fx Tryz.prog 88 [.pointer (some ⟨u, 0, none⟩), .int .i64 now] L (fun v L' => v = .int .i64 (readyAll now s.lm).1.length ∧ L' = pt (some ⟨u, 0, none⟩) (SupO mp pb x (s.ready now)) :: F) := by
  have hz := size_ready now s.lm
  refine Fx.mk Tryz.func88 k88 (Nat.le_of_ble_eq_true rfl) ?_
  dsimp only [c88, envOf, Nat.reduceAdd]
  refine Cx.openp (t := t) rfl ?_
  rintro ⟨sh, lm⟩
  simp only [supL, List.cons_append, List.nil_append]
  refine go ?_
  refine Sx.ca rfl (limboReady (b := lm) (m := s.lm) (now := now) hb hn) ?_
  rintro v L' ⟨ro, co, rfl, rfl⟩
  refine Sx.rowkey (a := ro) fun hx0 hn0 _ hk0 => ?_
  refine go ?_
  refine Sx.ca rfl (stashGive (b := sh) (Rd.any (a := ro) hx0 (hk0.imp (fun h => h.2.1) id)) (by omega)) ?_
  rintro v L' ⟨rfl, rfl⟩
  refine go ?_
  refine Kr.one (.inr rfl) rfl (Ent.trans (SupO.close (a := some ⟨u, 0, none⟩) (sh := sh) (lm := lm) (mp := mp) (pb := pb) (x := x) (s.ready now) rfl rfl rfl) ?_) ⟨rfl, rfl⟩
  exact ent
end
end Go.Proofs.YtnbkjcmmjgkdaaaGreat

/-
  Supplies: a Take, one access at a time.
-/
set_option linter.unusedVariables false
set_option linter.unusedSimpArgs false
namespace Go.Proofs.YtnbkjcmmjgkdaaaGreat
open Go
attribute [local irreducible] Sx Cx Rx Fx Krg Ksq Kbl Klp Kr
section
variable {L F G : St}
abbrev tkB (b u : Nat) (nx n1 n2 n3 : Value) (cnt : Int) (pp : Value) (chunk seen : Int) (is_ : Bool) : As :=
  pt (some ⟨b, 0, none⟩) (Blk 194 [nx, n1, n2, n3, .int .i64 cnt, .pointer (some ⟨u, 0, none⟩), pp, .int .i64 chunk, .int .i64 seen, .bool is_])
def takeDL (T : TypeId) (u : Nat) (t : TakeS) (a : Option Addr) (y : Value × Value × Value × Value × Int) : St :=
  [pt a (Blk T [.nilFunc, y.1, y.2.1, y.2.2.1, .int .i64 y.2.2.2.2, .pointer (some ⟨u, 0, none⟩), y.2.2.2.1, .int .i64 t.chunk, .int .i64 t.seen, .bool t.is_])]
def takeLL (T : TypeId) (u : Nat) (t : TakeS) (a : Option Addr) (y : Value × Value × Value × Value × Int) : St :=
  [pt a (Blk T [.func (.func 123) #[.pointer a] #[], y.1, y.2.1, y.2.2.1, .int .i64 y.2.2.2.2, .pointer (some ⟨u, 0, none⟩), y.2.2.2.1, .int .i64 t.chunk, .int .i64 t.seen, .bool t.is_])]
def takePL (T : TypeId) (u pb : Nat) (k : Sk) (t : TakeS) (a : Option Addr) (y : Nat × Int) : St :=
  [pt a (Blk T [.func (.func 183) #[.pointer a] #[], mth 164 y.1, mth 165 y.1, .func (.func 166) #[.pointer a] #[], .int .i64 y.2, .pointer (some ⟨u, 0, none⟩), .pointer (some ⟨y.1, 0, none⟩), .int .i64 t.chunk, .int .i64 t.seen, .bool t.is_]),
   pt (some ⟨y.1, 0, none⟩) (PopO pb k t.q)]
def TakeT (T : TypeId) (u pb : Nat) (k : Sk) (t : TakeS) (a : Option Addr) : As := bif t.done then exs (takeDL T u t a) else bif Nat.beq t.at_ 0 then exs (takeLL T u t a) else exs (takePL T u pb k t a)
abbrev TakeO := TakeT 194
theorem TakeO.d {T : TypeId} {u pb : Nat} {k : Sk} {t : TakeS} {a : Option Addr} (h : t.done = true) : TakeT T u pb k t a = exs (takeDL T u t a) := by unfold TakeT; rw [h]; rfl
theorem TakeO.l {T : TypeId} {u pb : Nat} {k : Sk} {t : TakeS} {a : Option Addr} (h : t.done = false) (h0 : t.at_ = 0) : TakeT T u pb k t a = exs (takeLL T u t a) := by unfold TakeT; rw [h, h0]; rfl
theorem TakeO.p {T : TypeId} {u pb : Nat} {k : Sk} {t : TakeS} {a : Option Addr} (h : t.done = false) (h0 : t.at_ ≠ 0) : TakeT T u pb k t a = exs (takePL T u pb k t a) := by
  unfold TakeT
  have : Nat.beq t.at_ 0 = false := by
    cases hb : Nat.beq t.at_ 0 with
    | false => rfl
    | true => exact absurd (Nat.eq_of_beq_eq_true hb) h0
  rw [h, this]; rfl
theorem TakeO.closeD {b u pb : Nat} {k : Sk} (t : TakeS) (h : t.done = true) {n1 n2 n3 pp : Value} {cnt chunk seen : Int} {is_ : Bool} (hc : chunk = t.chunk) (hs : seen = t.seen) (hi : is_ = t.is_) : Ent (tkB b u .nilFunc n1 n2 n3 cnt pp chunk seen is_ :: G) (pt (some ⟨b, 0, none⟩) (TakeO u pb k t) :: G) := by
  subst hc; subst hs; subst hi
  exact Ent.close (f := takeDL 194 u t (some ⟨b, 0, none⟩)) (TakeO.d h) (n1, n2, n3, pp, cnt)
theorem TakeO.closeL {b u pb : Nat} {k : Sk} (t : TakeS) (h : t.done = false) (h0 : t.at_ = 0) {n1 n2 n3 pp : Value} {cnt chunk seen : Int} {is_ : Bool} (hc : chunk = t.chunk) (hs : seen = t.seen) (hi : is_ = t.is_) :
    Ent (tkB b u (mth 123 b) n1 n2 n3 cnt pp chunk seen is_ :: G) (pt (some ⟨b, 0, none⟩) (TakeO u pb k t) :: G) := by
  subst hc; subst hs; subst hi
  exact Ent.close (f := takeLL 194 u t (some ⟨b, 0, none⟩)) (TakeO.l h h0) (n1, n2, n3, pp, cnt)
theorem TakeO.closeP {b u pb p : Nat} {k : Sk} (t : TakeS) (h : t.done = false) (h0 : t.at_ ≠ 0) {cnt chunk seen : Int} {is_ : Bool} {q : PopS} (hc : chunk = t.chunk) (hs : seen = t.seen) (hi : is_ = t.is_) (hq : q = t.q) :
    Ent (tkB b u (mth 183 b) (mth 164 p) (mth 165 p) (mth 166 b) cnt (.pointer (some ⟨p, 0, none⟩)) chunk seen is_ :: pt (some ⟨p, 0, none⟩) (PopO pb k q) :: G) (pt (some ⟨b, 0, none⟩) (TakeO u pb k t) :: G) := by
  subst hc; subst hs; subst hi; subst hq
  exact Ent.close (f := takePL 194 u pb k t (some ⟨b, 0, none⟩)) (TakeO.p h h0) (p, cnt)
abbrev tkV (u : Nat) (nx n1 n2 n3 : Value) (cnt : Int) (pp : Value) (chunk seen : Int) (is_ : Bool) : Option Addr → As :=
  Blk 194 [nx, n1, n2, n3, .int .i64 cnt, .pointer (some ⟨u, 0, none⟩), pp, .int .i64 chunk, .int .i64 seen, .bool is_]
theorem takeKept {b u mp pb : Nat} {x : Cn} {s : SupS} {nx n1 n2 n3 pp : Value} {cnt chunk seen : Int} {is_ : Bool} {F1 : St} (hb : s.xs.length ≤ 1000000000) [t1 : Take L (some ⟨b, 0, none⟩) (tkV u nx n1 n2 n3 cnt pp chunk seen is_) F1] [t2 : Take F1 (some ⟨u, 0, none⟩) (SupO mp pb x s) G] :
    Fx Tryz.prog 121 [.pointer (some ⟨b, 0, none⟩)] L
      (fun v L' => v = .bool (decide (s.xs ≠ [])) ∧ L' = tkB b u nx n1 n2 n3 cnt pp (lastI s.xs) seen (decide (s.xs ≠ [])) :: pt (some ⟨u, 0, none⟩) (SupO mp pb x s.kept) :: G) := by
  refine Fx.mk Tryz.func121 k121 (Nat.le_of_ble_eq_true rfl) ?_
  dsimp only [c121, envOf, Nat.reduceAdd]
  refine Cx.ent (Ent.trans (Ent.of t1.out) (Ent.cons (Ent.of t2.out))) ?_
  refine Cx.openp (a := some ⟨u, 0, none⟩) rfl ?_
  rintro ⟨sh, lm⟩
  simp only [supL, List.cons_append, List.nil_append]
  refine go ?_
  refine Sx.ca rfl (stashTakeI (b := sh) s.xs hb) ?_
  rintro v L' ⟨rfl, rfl⟩
  refine go ?_
  refine Kr.one (.inr rfl) rfl ?_ ⟨rfl, rfl⟩
  refine Ent.cons ?_
  exact SupO.close (a := some ⟨u, 0, none⟩) (sh := sh) (lm := lm) (mp := mp) (pb := pb) (x := x) s.kept rfl rfl rfl
theorem takeAsk {b u mp pb : Nat} {x : Cn} {s : SupS} {n1 n2 n3 pp : Value} {cnt chunk seen : Int} {is_ : Bool} {F1 : St} (hx : x.ok) [t1 : Take L (some ⟨b, 0, none⟩) (tkV u .nilFunc n1 n2 n3 cnt pp chunk seen is_) F1] [t2 : Take F1 (some ⟨u, 0, none⟩) (SupO mp pb x s) G] :
    Fx Tryz.prog 124 [.pointer (some ⟨b, 0, none⟩)] L
      (fun v L' => L' = pt (some ⟨b, 0, none⟩) (TakeO u pb x.pool ⟨1, chunk, is_, seen, PopS.init x.ba, false⟩) :: pt (some ⟨u, 0, none⟩) (SupO mp pb x s) :: G) := by
  refine Fx.mk Tryz.func124 k124 (Nat.le_of_ble_eq_true rfl) ?_
  dsimp only [c124, envOf, Nat.reduceAdd]
  refine Cx.ent (Ent.trans (Ent.of t1.out) (Ent.cons (Ent.of t2.out))) ?_
  refine Cx.openp (a := some ⟨u, 0, none⟩) rfl ?_
  rintro ⟨sh, lm⟩
  simp only [supL, List.cons_append, List.nil_append]
  refine go ?_
  refine Cx.ordc rfl (by kernel_rfl) ?_
  refine ge ?_
  refine Ev.caH (by kernel_rfl) rfl rfl (stackPop (sb := pb) (k := x.pool) (x.ba : Int) (by have := hx.2.1; show 1 ≤ x.c; omega)) (Pres.deps (by kernel_rfl)) ?_
  rintro v L' ⟨p, rfl, rfl⟩
  refine ge ?_
  refine Ev.stbH (b := b) (by kernel_rfl) rfl rfl rfl rfl rfl (by rfl) rfl (Pres.deps (by kernel_rfl)) ?_
  refine ge ?_
  refine Cx.orde rfl (by kernel_rfl) ?_
  refine ge ?_
  refine Ev.caH (by kernel_rfl) rfl rfl (machThrough (b := b) (machOnNo (b := b) (by kernel_rfl) (popDoneC (b := p) (sb := pb) (k := x.pool) (q := PopS.init x.ba)))) (Pres.deps (by kernel_rfl)) ?_
  rintro v L' ⟨rfl, w, rfl, rfl⟩
  refine ge ?_
  refine Kr.none (.inl rfl) ?_ rfl
  refine Ent.trans (Ent.cons ?_) (TakeO.closeP (p := p) ⟨1, chunk, is_, seen, PopS.init x.ba, false⟩ rfl (by simp) rfl rfl rfl rfl)
  refine Ent.cons ?_
  exact SupO.close (a := some ⟨u, 0, none⟩) (sh := sh) (lm := lm) (mp := mp) (pb := pb) (x := x) s rfl rfl rfl
theorem epochCut (w : Nat) (hw : w < 18446744073709551616) : Fx Tryz.prog 92 [wd w] L (fun v L' => v = .int .i64 (cutE w) ∧ L = L') := by
  refine Fx.mk Tryz.func92 k92 (Nat.le_of_ble_eq_true rfl) ?_
  dsimp only [c92, envOf, Nat.reduceAdd]
  refine go ?_
  refine Kr.one (.inr rfl) rfl (Ent.refl _) ⟨congrArg (Value.int .i64) ?_, rfl⟩
  rw [cond_false]
  unfold cutE
  refine Eq.trans (congrArg IntKind.i64.wrap (show _ = min (w : Int) 4611686018427387903 by split <;> omega)) ?_
  exact w64 (by omega) (by omega)
/-- One access of a Take: the look at the epoch. -/
theorem takeLook {b u mp pb : Nat} {x : Cn} {s : SupS} {m : Mm} {t : TakeS} {n1 n2 n3 pp : Value} {cnt : Int} {F1 F2 : St} (hx : x.ok) (hm : m.ok) (hl : 2 < m.ws.length) (hd : t.done = false) (h0 : t.at_ = 0) (hi : t.chunk = 0 ∧ t.is_ = false)
    (hb : s.xs.length + s.lm.size ≤ 1000000) [t1 : Take L (some ⟨b, 0, none⟩) (tkV u .nilFunc n1 n2 n3 cnt pp t.chunk t.seen t.is_) F1] [t2 : Take F1 (some ⟨u, 0, none⟩) (SupO mp pb x s) F2] [t3 : Take F2 (some ⟨mp, 0, none⟩) (MemO m) G] :
    Fx Tryz.prog 123 [.pointer (some ⟨b, 0, none⟩)] L
      (fun v L' => L' = pt (some ⟨b, 0, none⟩) (TakeO u pb x.pool (takeStep x.pool x.ba m s t).2.2) :: pt (some ⟨u, 0, none⟩) (SupO mp pb x (takeStep x.pool x.ba m s t).2.1) :: pt (some ⟨mp, 0, none⟩) (MemO (takeStep x.pool x.ba m s t).1) :: G) := by
  have hlt := Mm.at_lt hm 2
  have hz := size_ready (cutE (m.at_ 2)) s.lm
  have hcut : cutE (m.at_ 2) ≤ 9223372036854775807 := by unfold cutE; omega
  refine Fx.mk Tryz.func123 k123 (Nat.le_of_ble_eq_true rfl) ?_
  dsimp only [c123, envOf, Nat.reduceAdd]
  refine Cx.ent (Ent.trans (Ent.of t1.out) (Ent.cons (Ent.trans (Ent.of t2.out) (Ent.cons (Ent.of t3.out))))) ?_
  refine Cx.openp (a := some ⟨u, 0, none⟩) rfl ?_
  rintro ⟨sh, lm⟩
  simp only [supL, List.cons_append, List.nil_append]
  refine go ?_
  refine Sx.ca rfl (cellsLoad (b := mp) (m := m) 2 hl) ?_
  rintro v L' ⟨rfl, rfl⟩
  refine go ?_
  refine Sx.ca rfl (epochCut (m.at_ 2) hlt) ?_
  rintro v L' ⟨rfl, rfl⟩
  refine go ?_
  refine Cx.ent (SupO.close (a := some ⟨u, 0, none⟩) (sh := sh) (lm := lm) (mp := mp) (pb := pb) (x := x) s rfl rfl rfl) ?_
  refine Cx.ordc rfl (by kernel_rfl) ?_
  refine ge ?_
  refine Ev.caH (by kernel_rfl) rfl rfl (supReady (u := u) (mp := mp) (pb := pb) (x := x) (s := s) (now := cutE (m.at_ 2)) (by omega) (by omega) hcut) (Pres.deps (by kernel_rfl)) ?_
  rintro v L' ⟨rfl, rfl⟩
  refine ge ?_
  refine go ?_
  have hrl : (s.ready (cutE (m.at_ 2))).xs.length ≤ 1000000000 := by simp only [SupS.ready, List.length_append]; omega
  refine Sx.ca rfl (takeKept (b := b) (u := u) (mp := mp) (pb := pb) (x := x) (s := s.ready (cutE (m.at_ 2))) hrl) ?_
  rintro v L' ⟨rfl, rfl⟩
  by_cases hxs : (s.ready (cutE (m.at_ 2))).xs = []
  · have e : takeStep x.pool x.ba m s t = (m.tick, s.ready (cutE (m.at_ 2)), ⟨1, 0, false, cutE (m.at_ 2), PopS.init x.ba, false⟩) := by
      unfold takeStep
      rw [hd, h0]
      simp only [Bool.false_eq_true, if_false, keepT, if_pos hxs, hi.1, hi.2]
    have hk : (s.ready (cutE (m.at_ 2))).kept = s.ready (cutE (m.at_ 2)) := by unfold SupS.kept; rw [hxs]; simp only [List.dropLast_nil]; rw [← hxs]
    rw [e, decide_eq_false (fun h : (s.ready (cutE (m.at_ 2))).xs ≠ [] => h hxs), hk, hxs]
    refine go ?_
    refine Sx.ca rfl (takeAsk (b := b) (u := u) (mp := mp) (pb := pb) (x := x) (s := s.ready (cutE (m.at_ 2))) hx) ?_
    rintro v L' rfl
    refine go ?_
    exact Kr.none (.inl rfl) (Ent.refl _) rfl
  · have e : takeStep x.pool x.ba m s t = (m.tick, (s.ready (cutE (m.at_ 2))).kept, ⟨0, lastI (s.ready (cutE (m.at_ 2))).xs, true, cutE (m.at_ 2), t.q, true⟩) := by
      unfold takeStep
      rw [hd, h0]
      simp only [Bool.false_eq_true, if_false, keepT, if_neg hxs]
    rw [e, decide_eq_true (show (s.ready (cutE (m.at_ 2))).xs ≠ [] from hxs)]
    refine go ?_
    exact Kr.none (.inl rfl) (TakeO.closeD _ rfl rfl rfl rfl) rfl
/-- What a Pop got is told on. -/
theorem takePopped {b u mp pb p : Nat} {x : Cn} {s : SupS} {t : TakeS} {n1 n2 n3 : Value} {cnt : Int} {F1 F2 : St} {k : Sk} (hq : t.q.done = true) (hi : t.is_ = false) (hb : s.xs.length ≤ 1000000)
    [t1 : Take L (some ⟨b, 0, none⟩) (tkV u .nilFunc n1 n2 n3 cnt (.pointer (some ⟨p, 0, none⟩)) t.chunk t.seen t.is_) F1] [t2 : Take F1 (some ⟨u, 0, none⟩) (SupO mp pb x s) F2] [t3 : Take F2 (some ⟨p, 0, none⟩) (PopO pb k t.q) G] :
    Fx Tryz.prog 166 [.pointer (some ⟨b, 0, none⟩)] L
      (fun v L' => L' = pt (some ⟨b, 0, none⟩) (TakeO u pb k (popped s t).2) :: pt (some ⟨u, 0, none⟩) (SupO mp pb x (popped s t).1) :: G) := by
  refine Fx.mk Tryz.func166 k166 (Nat.le_of_ble_eq_true rfl) ?_
  dsimp only [c166, envOf, Nat.reduceAdd]
  refine Cx.ent (Ent.trans (Ent.of t1.out) (Ent.cons (Ent.trans (Ent.of t2.out) (Ent.cons (Ent.of t3.out))))) ?_
  have hlen : ∀ h, holds (tkB b u .nilFunc n1 n2 n3 cnt (.pointer (some ⟨p, 0, none⟩)) t.chunk t.seen t.is_ :: pt (some ⟨u, 0, none⟩) (SupO mp pb x s) :: pt (some ⟨p, 0, none⟩) (PopO pb k t.q) :: G) h → t.q.got.length ≤ 8 := by
    intro h hh
    have h1 := (inferInstance : Take (tkB b u .nilFunc n1 n2 n3 cnt (.pointer (some ⟨p, 0, none⟩)) t.chunk t.seen t.is_ :: pt (some ⟨u, 0, none⟩) (SupO mp pb x s) :: pt (some ⟨p, 0, none⟩) (PopO pb k t.q) :: G) (some ⟨p, 0, none⟩) (PopO pb k t.q) _).out h hh
    obtain ⟨y, hy⟩ := holds_ex.1 h1
    exact (holds_lift.1 hy).1.len
  refine Cx.pure hlen fun h8 => ?_
  refine go ?_
  refine Sx.ca rfl (popGot (b := p) (sb := pb) (k := k) (q := t.q) hq) ?_
  rintro v L' ⟨ro, co, rfl, rfl⟩
  refine go ?_
  cases hg : t.q.got with
  | nil =>
    have e : popped s t = (s, { t with done := true }) := by unfold popped; rw [hg]
    rw [e]
    refine go ?_
    refine Kr.none (.inl rfl) ?_ rfl
    refine Ent.trans ?_ (TakeO.closeD (n1 := n1) (n2 := n2) (n3 := n3) (cnt := cnt) (pp := .pointer (some ⟨p, 0, none⟩)) { t with done := true } rfl rfl rfl rfl)
    exact ent
  | cons y l =>
    have e : popped s t = (s.give l, { t with chunk := y, is_ := true, done := true }) := by unfold popped; rw [hg]
    rw [e]
    rw [hg] at h8
    simp only [List.length_cons] at h8 ⊢
    refine Cx.cyes rfl (decide_eq_true (by omega)) ?_
    refine Cx.rowkey (a := ro) fun hx0 hn0 hc0 hk0 => ?_
    obtain ⟨rg, rfl⟩ : ∃ g, ro = some ⟨g, 0, none⟩ := by
      rcases hk0 with h | h
      · omega
      · exact h
    refine go ?_
    refine Sx.pv rfl ⟨by omega, by omega⟩ ?_
    refine Sx.ldr (b := rg) rfl (v := .int .i64 y) rfl ?_
    refine go ?_
    refine Cx.orde rfl (by kernel_rfl) ?_
    refine ge ?_
    refine Ev.caH (by kernel_rfl) rfl rfl (supPut (u := u) (mp := mp) (pb := pb) (x := x) (s := s) (ys := l) (Rd.suffix_ (g := rg) (i := 1) hx0 hn0 (by omega)) (by omega)) (Pres.deps (by kernel_rfl)) ?_
    rintro v L' ⟨rfl, rfl⟩
    refine ge ?_
    refine Kr.none (.inl rfl) ?_ rfl
    refine Ent.trans ?_ (TakeO.closeD (n1 := n1) (n2 := n2) (n3 := n3) (cnt := cnt) (pp := .pointer (some ⟨p, 0, none⟩)) { t with chunk := y, is_ := true, done := true } rfl rfl rfl rfl)
    exact ent
/-- What may be of a Take, as far as its own numbers go. -/
structure TakeS.ok (t : TakeS) : Prop where
  a : t.at_ ≤ 1
  i : t.done = false → t.chunk = 0 ∧ t.is_ = false
/-- One access of a Take. -/
theorem takeStepC {b u mp pb : Nat} {x : Cn} {s : SupS} {m : Mm} {t : TakeS} {F1 F2 F3 : St} (hx : x.ok) (hl : x.len ≤ m.ws.length) (ht : t.ok) (hb : s.xs.length + s.lm.size ≤ 1000000)
    [t1 : Take L (some ⟨b, 0, none⟩) (TakeO u pb x.pool t) F1] [t2 : Take F1 (some ⟨u, 0, none⟩) (SupO mp pb x s) F2] [t3 : Take F2 (some ⟨mp, 0, none⟩) (MemO m) F3] [t4 : Take F3 (some ⟨pb, 0, none⟩) (SkO mp x.pool) G] :
    Fx Tryz.prog 63 [.pointer (some ⟨b, 0, none⟩)] L
      (fun v L' => v = .bool (!t.done) ∧ L' = pt (some ⟨b, 0, none⟩) (TakeO u pb x.pool (takeStep x.pool x.ba m s t).2.2) :: pt (some ⟨u, 0, none⟩) (SupO mp pb x (takeStep x.pool x.ba m s t).2.1) :: pt (some ⟨mp, 0, none⟩) (MemO (takeStep x.pool x.ba m s t).1) :: F3) := by
  have hl3 : 3 ≤ x.len := by unfold Cn.len; omega
  refine Fx.mk Tryz.func63 k63 (Nat.le_of_ble_eq_true rfl) ?_
  dsimp only [c63, envOf, Nat.reduceAdd]
  refine Cx.ent (Ent.trans (Ent.of t1.out) (Ent.cons (Ent.trans (Ent.of t2.out) (Ent.cons (Ent.trans (Ent.of t3.out) (Ent.cons (Ent.of t4.out))))))) ?_
  refine Cx.pure (memKey (b := mp) (m := m)) fun hm => ?_
  cases hd : t.done with
  | true =>
    have e : takeStep x.pool x.ba m s t = (m, s, t) := by unfold takeStep; rw [hd]; rfl
    rw [e]
    refine Cx.openp (a := some ⟨b, 0, none⟩) (TakeO.d hd) ?_
    rintro ⟨n1, n2, n3, pp, cnt⟩
    simp only [takeDL, List.cons_append, List.nil_append]
    refine go ?_
    refine Sx.ca rfl (machStepDone (b := b)) ?_
    rintro v L' ⟨rfl, rfl⟩
    refine go ?_
    exact Kr.one (.inr rfl) rfl (Ent.trans (TakeO.closeD t hd rfl rfl rfl) (Ent.cons (Ent.cons (Ent.cons (Ent.of t4.back))))) ⟨rfl, rfl⟩
  | false =>
    have ha := ht.a
    rcases (show t.at_ = 0 ∨ t.at_ = 1 by omega) with h0 | h0
    · refine Cx.openp (a := some ⟨b, 0, none⟩) (TakeO.l hd h0) ?_
      rintro ⟨n1, n2, n3, pp, cnt⟩
      simp only [takeLL, List.cons_append, List.nil_append]
      refine go ?_
      refine Sx.ca rfl (machStep (b := b) (by kernel_rfl) (takeLook (b := b) (u := u) (mp := mp) (pb := pb) (x := x) (s := s) (m := m) (t := t) hx hm.1 (by omega) hd h0 (ht.i hd) hb)) ?_
      rintro v L' ⟨rfl, w, rfl⟩
      refine go ?_
      exact Kr.one (.inr rfl) rfl (Ent.cons (Ent.cons (Ent.cons (Ent.of t4.back)))) ⟨rfl, rfl⟩
    · refine Cx.openp (a := some ⟨b, 0, none⟩) (TakeO.p hd (by omega)) ?_
      rintro ⟨p, cnt⟩
      simp only [takePL, List.cons_append, List.nil_append]
      have hk := hx.pool (n := m.ws.length) hl hm.2
      cases hq : (popStep x.pool m t.q).1.done with
      | true =>
        have e : takeStep x.pool x.ba m s t = ((popStep x.pool m t.q).2, popped s { t with q := (popStep x.pool m t.q).1 }) := by
          unfold takeStep
          rw [hd, h0]
          simp only [Bool.false_eq_true, if_false, hq, if_true]
        rw [e]
        refine go ?_
        refine Sx.ca rfl (machStep (b := b) (by kernel_rfl) (machGoes (b := b) (by kernel_rfl) (popStepC (b := p) (mp := mp) (sb := pb) (k := x.pool) (m := m) (q := t.q) hk) (R2 := fun v L' => v = .tuple #[] ∧ ∃ w : Value, L' = pt (some ⟨b, 0, none⟩) (TakeO u pb x.pool (popped s { t with q := (popStep x.pool m t.q).1 }).2) :: pt (some ⟨u, 0, none⟩) (SupO mp pb x (popped s { t with q := (popStep x.pool m t.q).1 }).1) :: pt (some ⟨mp, 0, none⟩) (MemO (popStep x.pool m t.q).2) :: pt (some ⟨pb, 0, none⟩) (SkO mp x.pool) :: G) ?_)) ?_
        · rintro v L1 ⟨rfl, rfl⟩
          have hon := machOnYes (b := b) (by kernel_rfl) (fd := 165) (ft := 166) (w := .pointer (some ⟨p, 0, none⟩)) (u := .pointer (some ⟨b, 0, none⟩)) (L := pt (some ⟨p, 0, none⟩) (PopO pb x.pool (popStep x.pool m t.q).1) :: pt (some ⟨mp, 0, none⟩) (MemO (popStep x.pool m t.q).2) :: tkB b u .nilFunc (mth 164 p) (mth 165 p) (mth 166 b) (IntKind.i64.wrap (cnt + 1)) (.pointer (some ⟨p, 0, none⟩)) t.chunk t.seen t.is_ :: pt (some ⟨u, 0, none⟩) (SupO mp pb x s) :: pt (some ⟨pb, 0, none⟩) (SkO mp x.pool) :: G)
            ((popDoneC (b := p) (sb := pb) (k := x.pool) (q := (popStep x.pool m t.q).1)).mono (by rintro v L' ⟨rfl, rfl⟩; exact ⟨by rw [hq], rfl⟩)) (by kernel_rfl)
            (takePopped (b := b) (u := u) (mp := mp) (pb := pb) (p := p) (x := x) (s := s) (t := { t with q := (popStep x.pool m t.q).1 }) (k := x.pool) hq (ht.i hd).2 (by omega))
          refine hon.mono ?_
          rintro v L' ⟨rfl, w, rfl⟩
          exact ⟨rfl, w, rfl⟩
        · rintro v L' ⟨rfl, w, _, w2, _, w3, rfl⟩
          refine go ?_
          exact Kr.one (.inr rfl) rfl (Ent.cons (Ent.cons (Ent.cons (Ent.of t4.back)))) ⟨rfl, rfl⟩
      | false =>
        have e : takeStep x.pool x.ba m s t = ((popStep x.pool m t.q).2, s, { t with q := (popStep x.pool m t.q).1 }) := by
          unfold takeStep
          rw [hd, h0]
          simp only [Bool.false_eq_true, if_false, hq]
        rw [e]
        refine go ?_
        refine Sx.ca rfl (machStep (b := b) (by kernel_rfl) (machGoes (b := b) (by kernel_rfl) (popStepC (b := p) (mp := mp) (sb := pb) (k := x.pool) (m := m) (q := t.q) hk) (R2 := fun v L' => v = .tuple #[] ∧ L' = tkB b u (mth 183 b) (mth 164 p) (mth 165 p) (mth 166 b) (IntKind.i64.wrap (cnt + 1)) (.pointer (some ⟨p, 0, none⟩)) t.chunk t.seen t.is_ ::
          pt (some ⟨p, 0, none⟩) (PopO pb x.pool (popStep x.pool m t.q).1) :: pt (some ⟨mp, 0, none⟩) (MemO (popStep x.pool m t.q).2) :: pt (some ⟨u, 0, none⟩) (SupO mp pb x s) :: pt (some ⟨pb, 0, none⟩) (SkO mp x.pool) :: G) ?_)) ?_
        · rintro v L1 ⟨rfl, rfl⟩
          have hon := machOnNo (b := b) (by kernel_rfl) (fd := 165) (w := .pointer (some ⟨p, 0, none⟩)) (L := pt (some ⟨p, 0, none⟩) (PopO pb x.pool (popStep x.pool m t.q).1) :: pt (some ⟨mp, 0, none⟩) (MemO (popStep x.pool m t.q).2) :: tkB b u .nilFunc (mth 164 p) (mth 165 p) (mth 166 b) (IntKind.i64.wrap (cnt + 1)) (.pointer (some ⟨p, 0, none⟩)) t.chunk t.seen t.is_ :: pt (some ⟨u, 0, none⟩) (SupO mp pb x s) :: pt (some ⟨pb, 0, none⟩) (SkO mp x.pool) :: G)
            ((popDoneC (b := p) (sb := pb) (k := x.pool) (q := (popStep x.pool m t.q).1)).mono (by rintro v L' ⟨rfl, rfl⟩; exact ⟨by rw [hq], rfl⟩))
          refine hon.mono ?_
          rintro v L' ⟨rfl, rfl⟩
          exact ⟨rfl, rfl⟩
        · rintro v L' ⟨rfl, w, _, w2, _, rfl⟩
          refine go ?_
          refine Kr.one (.inr rfl) rfl ?_ ⟨rfl, rfl⟩
          refine Ent.trans (TakeO.closeP (p := p) { t with q := (popStep x.pool m t.q).1 } hd (by dsimp only; omega) rfl rfl rfl rfl) ?_
          refine Ent.cons ?_
          refine Ent.trans ?_ (Ent.cons (Ent.cons (Ent.of t4.back)))
          exact ent
theorem takeStep_ok {k : Sk} {ba : Int} {m : Mm} {s : SupS} {t : TakeS} (h : t.ok) : (takeStep k ba m s t).2.2.ok := by
  unfold takeStep
  split
  · exact h
  · rename_i hd
    have hd' : t.done = false := by simpa using hd
    have hi := h.i hd'
    split
    · unfold keepT
      dsimp only
      split
      · rename_i hr
        split at hr
        · cases hr
        · cases hr; exact ⟨by show t.at_ ≤ 1; exact h.a, fun h => by cases h⟩
      · exact ⟨by simp, fun _ => ⟨hi.1, hi.2⟩⟩
    · dsimp only
      split
      · unfold popped
        split
        · exact ⟨h.a, fun h => by cases h⟩
        · exact ⟨h.a, fun h => by cases h⟩
      · exact ⟨h.a, fun _ => hi⟩
theorem takeInit_ok {ba : Int} {s : SupS} : (takeInit ba s).2.ok := by
  unfold takeInit keepT
  split
  · rename_i r hr
    split at hr
    · cases hr
    · cases hr; exact ⟨by simp [TakeS.none_], fun h => by cases h⟩
  · split
    · exact ⟨by simp [TakeS.none_], fun _ => ⟨rfl, rfl⟩⟩
    · exact ⟨by simp, fun _ => ⟨rfl, rfl⟩⟩
theorem takeDone {b u pb : Nat} {k : Sk} {t : TakeS} {F1 : St} (ht : t.ok) [t1 : Take L (some ⟨b, 0, none⟩) (TakeO u pb k t) F1] : Fx Tryz.prog 62 [.pointer (some ⟨b, 0, none⟩)] L (fun v L' => v = .bool t.done ∧ L = L') := by
  refine Fx.kept (t := t1) ?_
  refine Fx.mk Tryz.func62 k62 (Nat.le_of_ble_eq_true rfl) ?_
  dsimp only [c62, envOf, Nat.reduceAdd]
  refine Cx.ent (Ent.of t1.out) ?_
  cases hd : t.done with
  | true =>
    refine Cx.openp (a := some ⟨b, 0, none⟩) (TakeO.d hd) ?_
    rintro ⟨n1, n2, n3, pp, cnt⟩
    simp only [takeDL, List.cons_append, List.nil_append]
    refine go ?_
    refine Sx.ca rfl (machDoneYes (b := b)) ?_
    rintro v L' ⟨rfl, rfl⟩
    refine go ?_
    exact Kr.one (.inr rfl) rfl (TakeO.closeD t hd rfl rfl rfl) ⟨rfl, rfl⟩
  | false =>
    have ha := ht.a
    rcases (show t.at_ = 0 ∨ t.at_ = 1 by omega) with h0 | h0
    · refine Cx.openp (a := some ⟨b, 0, none⟩) (TakeO.l hd h0) ?_
      rintro ⟨n1, n2, n3, pp, cnt⟩
      simp only [takeLL, List.cons_append, List.nil_append]
      refine go ?_
      refine Sx.ca rfl (machDoneNo (b := b)) ?_
      rintro v L' ⟨rfl, rfl⟩
      refine go ?_
      exact Kr.one (.inr rfl) rfl (TakeO.closeL t hd h0 rfl rfl rfl) ⟨rfl, rfl⟩
    · refine Cx.openp (a := some ⟨b, 0, none⟩) (TakeO.p hd (by omega)) ?_
      rintro ⟨p, cnt⟩
      simp only [takePL, List.cons_append, List.nil_append]
      refine go ?_
      refine Sx.ca rfl (machDoneNo (b := b)) ?_
      rintro v L' ⟨rfl, rfl⟩
      refine go ?_
      exact Kr.one (.inr rfl) rfl (TakeO.closeP (p := p) t hd (by omega) rfl rfl rfl rfl) ⟨rfl, rfl⟩
/-- What a Take got. -/
theorem takeChunk {b u pb : Nat} {k : Sk} {t : TakeS} {F1 : St} (ht : t.ok) [t1 : Take L (some ⟨b, 0, none⟩) (TakeO u pb k t) F1] : Fx Tryz.prog 64 [.pointer (some ⟨b, 0, none⟩)] L (fun v L' => v = .tuple #[.int .i64 t.chunk, .bool t.is_] ∧ L = L') := by
  refine Fx.kept (t := t1) ?_
  refine Fx.mk Tryz.func64 k64 (Nat.le_of_ble_eq_true rfl) ?_
  dsimp only [c64, envOf, Nat.reduceAdd]
  refine Cx.ent (Ent.of t1.out) ?_
  refine go ?_
  refine Sx.ca rfl (takeDone (b := b) (u := u) (pb := pb) (k := k) (t := t) ht) ?_
  rintro v L' ⟨rfl, rfl⟩
  cases hd : t.done with
  | false =>
    refine go ?_
    exact Kr.two (.inr rfl) rfl rfl (Ent.refl _) ⟨by rw [(ht.i hd).1, (ht.i hd).2], rfl⟩
  | true =>
    refine go ?_
    refine Cx.openp (a := some ⟨b, 0, none⟩) (TakeO.d hd) ?_
    rintro ⟨n1, n2, n3, pp, cnt⟩
    simp only [takeDL, List.cons_append, List.nil_append]
    refine Cx.ordc rfl (by kernel_rfl) ?_
    refine ge ?_
    refine go ?_
    exact Kr.two (.inr rfl) rfl rfl (TakeO.closeD t hd rfl rfl rfl) ⟨rfl, rfl⟩
end
end Go.Proofs.YtnbkjcmmjgkdaaaGreat

/-
  Epochs: New; gather: New.
-/
set_option linter.unusedVariables false
set_option linter.unusedSimpArgs false
namespace Go.Proofs.YtnbkjcmmjgkdaaaGreat
open Go
attribute [local irreducible] Sx Cx Rx Fx Krg Ksq Kbl Klp Kr
section
variable {L F G : St}
theorem layPinN {x : Cn} (h : x.ok) (n : Nat) (hn : n < x.w) : Fx Tryz.prog 49 [x.v, .int .i64 n] L (fun v L' => v = .int .i64 ((3 + n : Nat) : Int) ∧ L = L') := by
  refine (layPin _ _ _ _ _ _ h (n : Int)).mono ?_
  rintro v L' ⟨rfl, rfl⟩
  refine ⟨congrArg (Value.int .i64) ?_, rfl⟩
  unfold cellC
  rw [if_pos ⟨by omega, by simp only [manyC]; omega⟩]
  simp only [startC]
  push_cast; rfl
/-- An epoch over the configuration's cells. -/
abbrev EpO (mp : Nat) (x : Cn) : Option Addr → As := Blk 161 [.pointer (some ⟨mp, 0, none⟩), .int .i64 2, .int .i64 3, .int .i64 (x.w : Nat)]
abbrev GaO (mp e : Nat) : Option Addr → As := Blk 131 [.pointer (some ⟨mp, 0, none⟩), .pointer (some ⟨e, 0, none⟩)]
theorem epochCell {g mp : Nat} {T : TypeId} {m : Mm} (i : Int) {F G : St} [t : Take L (some ⟨mp, 0, none⟩) (MemO m) F] [s : Take L (some ⟨g, 0, none⟩) (Blk T [.pointer (some ⟨mp, 0, none⟩)]) G] :
    Fx Tryz.prog 118 [.int .i64 i, .pointer (some ⟨g, 0, none⟩)] L (fun v L' => v = .bool (decide (0 ≤ i ∧ i < m.ws.length)) ∧ L = L') := by
  refine Fx.mk Tryz.func118 k118 (Nat.le_of_ble_eq_true rfl) ?_
  dsimp only [c118, envOf, Nat.reduceAdd]
  refine go ?_
  refine Sx.ifp rfl (fun h => ?_) (fun h => ?_)
  · refine go ?_
    refine Sx.ca rfl (cellsLen (b := mp) (m := m)) ?_
    rintro v L' ⟨rfl, rfl⟩
    refine go ?_
    exact Kr.one (.inr rfl) rfl (Ent.refl _) ⟨congrArg Value.bool (decide_eq_decide.2 (by omega)), rfl⟩
  · refine go ?_
    exact Kr.one (.inr rfl) rfl (Ent.refl _) ⟨congrArg Value.bool (decide_eq_false (fun hh => h hh.1)).symm, rfl⟩
theorem epochNew {mp : Nat} {m : Mm} {x : Cn} (hx : x.ok) (hl : x.len ≤ m.ws.length) [t : Take L (some ⟨mp, 0, none⟩) (MemO m) F] :
    Fx Tryz.prog 59 [.pointer (some ⟨mp, 0, none⟩), .int .i64 2, .int .i64 3, .int .i64 (x.w : Nat)] L (fun v L' => ∃ e, v = .tuple #[.pointer (some ⟨e, 0, none⟩), .int .i64 0] ∧ L' = pt (some ⟨e, 0, none⟩) (EpO mp x) :: L) := by
  have hb1 := hx.1
  have hlen : 3 + x.w ≤ x.len := by unfold Cn.len; omega
  refine Fx.mk Tryz.func59 k59 (Nat.le_of_ble_eq_true rfl) ?_
  dsimp only [c59, envOf, Nat.reduceAdd]
  refine Cx.pure (memKey (b := mp) (m := m)) fun hm => ?_
  refine Cx.sq ?_
  refine Cx.rg ?_
  refine Sx.bx rfl rfl fun g => ?_
  refine go ?_
  refine Sx.gyes rfl (decide_eq_false (by omega)) ?_
  refine go ?_
  refine Sx.gyes rfl (decide_eq_false (by omega)) ?_
  refine go ?_
  refine Sx.cl (p := []) (q := [.pointer (some ⟨g, 0, none⟩)]) rfl (by kernel_rfl) rfl (epochCell (mp := mp) (m := m) 2) ?_
  rintro v L' ⟨rfl, rfl⟩
  rw [decide_eq_true (show (0 : Int) ≤ 2 ∧ (2 : Int) < m.ws.length by omega)]
  refine go ?_
  refine Sx.cl (p := []) (q := [.pointer (some ⟨g, 0, none⟩)]) rfl (by kernel_rfl) rfl (epochCell (mp := mp) (m := m) 3) ?_
  rintro v L' ⟨rfl, rfl⟩
  rw [decide_eq_true (show (0 : Int) ≤ 3 ∧ (3 : Int) < m.ws.length by omega)]
  refine go ?_
  rw [w64 (n := (3 : Int) + x.w) (by omega) (by omega), w64 (n := (3 : Int) + x.w - 1) (by omega) (by omega)]
  refine Sx.cl (p := []) (q := [.pointer (some ⟨g, 0, none⟩)]) rfl (by kernel_rfl) rfl (epochCell (mp := mp) (m := m) ((3 : Int) + x.w - 1)) ?_
  rintro v L' ⟨rfl, rfl⟩
  rw [decide_eq_true (show (0 : Int) ≤ (3 : Int) + x.w - 1 ∧ (3 : Int) + x.w - 1 < m.ws.length by omega)]
  refine go ?_
  refine Sx.bx rfl rfl fun q => ?_
  refine go ?_
  exact Kr.two (.inr rfl) rfl rfl (Ent.cons Ent.drop) ⟨q, rfl, rfl⟩
set_option maxHeartbeats 1000000 in
theorem gatherNew {mp : Nat} {m : Mm} {x : Cn} (hx : x.ok) (hl : x.len ≤ m.ws.length) [t : Take L (some ⟨mp, 0, none⟩) (MemO m) F] :
    Fx Tryz.prog 14 [.pointer (some ⟨mp, 0, none⟩), x.v] L (fun v L' => ∃ g e, v = .tuple #[.pointer (some ⟨g, 0, none⟩), .int .i64 0] ∧ L' = pt (some ⟨g, 0, none⟩) (GaO mp e) :: pt (some ⟨e, 0, none⟩) (EpO mp x) :: L) := by
  refine Fx.mk Tryz.func14 k14 (Nat.le_of_ble_eq_true rfl) ?_
  dsimp only [c14, envOf, Nat.reduceAdd]
  refine Cx.sq ?_
  refine Cx.rg ?_
  refine Sx.bx rfl rfl fun g => ?_
  refine go ?_
  refine Cx.ordc rfl (by kernel_rfl) ?_
  refine ge ?_
  refine Ev.cakH (by kernel_rfl) rfl rfl (may_ (x.w : Int) x.c x.wd x.sl x.ca x.ba) ?_
  rw [decide_eq_true (show MayC (x.w : Int) x.c x.wd x.sl x.ca x.ba from hx)]
  refine ge ?_
  refine Ev.cakH (by kernel_rfl) rfl rfl (cellsLen (b := mp) (m := m)) ?_
  refine ge ?_
  refine Ev.cakH (by kernel_rfl) rfl rfl (layLen (x.w : Int) x.c x.wd x.sl x.ca x.ba hx) ?_
  rw [x.lenC]
  refine ge ?_
  refine Cx.cno rfl (decide_eq_false (by omega)) ?_
  refine go ?_
  refine Cx.ordc rfl (by kernel_rfl) ?_
  refine ge ?_
  refine Ev.cakH (by kernel_rfl) rfl rfl (layPinN hx 0 (by have := hx.1; omega)) ?_
  refine ge ?_
  refine Ev.caH (by kernel_rfl) rfl rfl (epochNew (mp := mp) (m := m) (x := x) hx hl) (Pres.deps (by kernel_rfl)) ?_
  rintro v L' ⟨e, rfl, rfl⟩
  refine ge ?_
  refine go ?_
  refine Sx.bx rfl rfl fun q => ?_
  refine go ?_
  exact Kr.two (.inr rfl) rfl rfl (Ent.cons (Ent.cons Ent.drop)) ⟨q, e, rfl, rfl⟩
end
end Go.Proofs.YtnbkjcmmjgkdaaaGreat

/-
  Epochs: an Advance, a Collect, one access at a time; alone.
-/
set_option linter.unusedVariables false
set_option linter.unusedSimpArgs false
namespace Go.Proofs.YtnbkjcmmjgkdaaaGreat
/-- What a worker's cell announces. -/
def pinI (w : Nat) : Int := ((w / 2 : Nat) : Int)
/-- Whether it hinders. -/
def behind (e w : Nat) : Prop := w % 2 = 1 ∧ pinI w ≠ cutE e
instance (e w : Nat) : Decidable (behind e w) := by unfold behind; infer_instance
/-- An Advance: at: 0: the Load, 1: a worker's cell, 2: the Cas. -/
structure AdvS where
  was : Nat
  worker : Nat
  won : Bool
  at_ : Nat
  done : Bool
def AdvS.init : AdvS := ⟨0, 0, false, 0, false⟩
def advStep (n : Nat) (m : Mm) (a : AdvS) : AdvS × Mm :=
  if a.done then (a, m) else
  match a.at_ with
  | 0 => ({ a with was := m.at_ 2, at_ := 1 }, m.tick)
  | 1 => if behind a.was (m.at_ (3 + a.worker)) then ({ a with done := true }, m.tick) else ({ a with worker := a.worker + 1, at_ := if a.worker + 1 < n then 1 else 2 }, m.tick)
  | _ => ({ a with won := decide (m.at_ 2 = a.was), done := true }, m.cas 2 a.was ((a.was + 1) % 18446744073709551616))
def advIt (n : Nat) : Nat → AdvS × Mm → AdvS × Mm
  | 0, s => s
  | j + 1, s => advStep n (advIt n j s).2 (advIt n j s).1
theorem adv_looks {n : Nat} {m : Mm} (hn : 1 ≤ n) (hp : ∀ j, j < n → ¬ behind (m.at_ 2) (m.at_ (3 + j))) : ∀ j, j ≤ n → advIt n (j + 1) (AdvS.init, m) = (⟨m.at_ 2, j, false, if j < n then 1 else 2, false⟩, m.add (j + 1))
  | 0, _ => by
    simp only [advIt, advStep, AdvS.init, Bool.false_eq_true, if_false]
    rw [if_pos (by omega)]
    rfl
  | j + 1, h => by
    have ih := adv_looks hn hp j (by omega)
    show advStep n (advIt n (j + 1) (AdvS.init, m)).2 (advIt n (j + 1) (AdvS.init, m)).1 = _
    rw [ih]
    have hat : ∀ i, (m.add (j + 1)).at_ i = m.at_ i := fun _ => rfl
    simp only [advStep, Bool.false_eq_true, if_false, if_pos (show j < n by omega), hat]
    rw [if_neg (hp j (by omega))]
    rfl
theorem adv_alone {n : Nat} {m : Mm} (hn : 1 ≤ n) (hp : ∀ j, j < n → ¬ behind (m.at_ 2) (m.at_ (3 + j))) :
    advIt n (n + 2) (AdvS.init, m) = (⟨m.at_ 2, n, true, 2, true⟩, (m.add (n + 1)).put 2 ((m.at_ 2 + 1) % 18446744073709551616)) ∧ (∀ j, j < n + 2 → (advIt n j (AdvS.init, m)).1.done = false) := by
  refine ⟨?_, fun j hj => ?_⟩
  · show advStep n (advIt n (n + 1) (AdvS.init, m)).2 (advIt n (n + 1) (AdvS.init, m)).1 = _
    rw [adv_looks hn hp n (Nat.le_refl _)]
    have hat : ∀ i, (m.add (n + 1)).at_ i = m.at_ i := fun _ => rfl
    simp only [advStep, Bool.false_eq_true, if_false, if_neg (Nat.lt_irrefl n), hat]
    simp [Mm.cas, hat]
  · rcases j with _ | j
    · rfl
    · rw [adv_looks hn hp j (by omega)]
end Go.Proofs.YtnbkjcmmjgkdaaaGreat

/-
  Epochs: an Advance, one access at a time.
-/
set_option linter.unusedVariables false
set_option linter.unusedSimpArgs false
namespace Go.Proofs.YtnbkjcmmjgkdaaaGreat
open Go
attribute [local irreducible] Sx Cx Rx Fx Krg Ksq Kbl Klp Kr
section
variable {L F G : St}
theorem getPin (w : Nat) (hw : w < 18446744073709551616) : Fx Tryz.prog 197 [wd w] L (fun v L' => v = .tuple #[.int .i64 (if w % 2 = 1 then pinI w else 0), .bool (decide (w % 2 = 1))] ∧ L = L') := by
  refine Fx.mk Tryz.func197 k197 (Nat.le_of_ble_eq_true rfl) ?_
  dsimp only [c197, envOf, Nat.reduceAdd]
  refine go ?_
  refine Sx.ca rfl (bitsGet w 0 1 hw (by omega) (by omega)) ?_
  rintro v L' ⟨rfl, rfl⟩
  rw [show w / 2 ^ 0 % 2 ^ 1 = w % 2 by omega]
  refine go ?_
  refine Cx.ifp rfl (fun h => ?_) (fun h => ?_)
  · refine go ?_
    refine Kr.two (.inr rfl) rfl rfl (Ent.refl _) ⟨?_, rfl⟩
    rw [if_neg (by omega), decide_eq_false (by omega)]
  · refine go ?_
    refine Sx.ca rfl (bitsGet w 1 63 hw (by omega) (by omega)) ?_
    rintro v L' ⟨rfl, rfl⟩
    rw [show w / 2 ^ 1 % 2 ^ 63 = w / 2 by omega]
    refine go ?_
    rw [w64 (n := ((w / 2 : Nat) : Int)) (by omega) (by omega)]
    refine Kr.two (.inr rfl) rfl rfl (Ent.refl _) ⟨?_, rfl⟩
    rw [if_pos (by omega), decide_eq_true (by omega)]
    rfl
/-- What may be of an Advance. -/
structure AdvS.ok (n : Nat) (s : AdvS) : Prop where
  w : s.was < 18446744073709551616
  k : s.worker ≤ n
  a : s.at_ ≤ 2
  l : s.done = false → s.at_ = 1 → s.worker < n
  z : s.at_ = 0 → s.worker = 0
theorem AdvS.ok_init {n : Nat} : AdvS.init.ok n := ⟨by simp [AdvS.init], by simp [AdvS.init], by simp [AdvS.init], by simp [AdvS.init], by simp [AdvS.init]⟩
theorem advStep_ok {n : Nat} {m : Mm} {s : AdvS} (hn : 1 ≤ n) (hm : m.ok) (h : s.ok n) : (advStep n m s).1.ok n := by
  have hw := h.w; have hk := h.k; have ha := h.a
  unfold advStep
  split
  · exact h
  · rename_i hd
    split
    · rename_i e
      exact ⟨Mm.at_lt hm _, hk, by simp, fun _ _ => by have := h.z e; dsimp only; omega, by simp⟩
    · rename_i e
      have hl := h.l (by simpa using hd) e
      split
      · exact ⟨hw, hk, ha, (fun h => by cases h), h.z⟩
      · refine ⟨hw, by dsimp only; omega, by dsimp only; split <;> omega, fun _ h1 => ?_, by dsimp only; split <;> intro h <;> cases h⟩
        dsimp only at h1 ⊢
        split at h1
        · assumption
        · omega
    · exact ⟨hw, hk, ha, (fun h => by cases h), h.z⟩
def advFn (s : AdvS) : FuncId := match s.at_ with | 0 => 156 | 1 => 182 | _ => 198
def advNx (a : Option Addr) (s : AdvS) : Value := bif s.done then .nilFunc else .func (.func (advFn s)) #[.pointer a] #[]
def advL (T : TypeId) (e : Nat) (x : Cn) (s : AdvS) (a : Option Addr) (y : Int) : St :=
  [lift (s.ok x.w), pt a (Blk T [advNx a s, .nilFunc, .nilFunc, .nilFunc, .int .i64 y, .pointer (some ⟨e, 0, none⟩), wd s.was, .int .i64 (s.worker : Nat), .bool s.won])]
def AdvT (T : TypeId) (e : Nat) (x : Cn) (s : AdvS) (a : Option Addr) : As := exs (advL T e x s a)
abbrev AdvO := AdvT 225
theorem AdvO.close {T : TypeId} {e : Nat} {x : Cn} {a : Option Addr} {cnt : Int} {v0 v1 v2 v3 : Value} {F : St} (s : AdvS) (hs : s.ok x.w) [t : Take L a (Blk T [v0, .nilFunc, .nilFunc, .nilFunc, .int .i64 cnt, .pointer (some ⟨e, 0, none⟩), v1, v2, v3]) F]
    (h0 : v0 = advNx a s) (h1 : v1 = wd s.was) (h2 : v2 = .int .i64 (s.worker : Nat)) (h3 : v3 = .bool s.won) : Ent L (pt a (AdvT T e x s) :: F) := by
  subst h0; subst h1; subst h2; subst h3
  refine Ent.trans (Ent.of t.out) ?_
  refine Ent.trans (Ent.lift hs (Ent.refl _)) ?_
  exact Ent.close (f := advL T e x s a) rfl cnt
end
end Go.Proofs.YtnbkjcmmjgkdaaaGreat

/-
  Epochs: an Advance's accesses.
-/
set_option linter.unusedVariables false
set_option linter.unusedSimpArgs false
namespace Go.Proofs.YtnbkjcmmjgkdaaaGreat
open Go
attribute [local irreducible] Sx Cx Rx Fx Krg Ksq Kbl Klp Kr
section
variable {L F G : St}
abbrev advF (b e mp : Nat) (x : Cn) (m : Mm) (s : AdvS) (cnt : Int) (G : St) : St :=
  pt (some ⟨b, 0, none⟩) (Blk 225 [.nilFunc, .nilFunc, .nilFunc, .nilFunc, .int .i64 cnt, .pointer (some ⟨e, 0, none⟩), wd s.was, .int .i64 (s.worker : Nat), .bool s.won]) :: pt (some ⟨mp, 0, none⟩) (MemO m) :: pt (some ⟨e, 0, none⟩) (EpO mp x) :: G
abbrev advR (b e mp : Nat) (x : Cn) (m : Mm) (s : AdvS) (G : St) (v : Value) (L' : St) : Prop :=
  L' = pt (some ⟨b, 0, none⟩) (AdvO e x (advStep x.w m s).1) :: pt (some ⟨mp, 0, none⟩) (MemO (advStep x.w m s).2) :: pt (some ⟨e, 0, none⟩) (EpO mp x) :: G
theorem adv_load_ {b e mp : Nat} {x : Cn} {m : Mm} {s : AdvS} {cnt : Int} (hx : x.ok) (hm : m.ok) (hl : x.len ≤ m.ws.length) (hs : s.ok x.w) (ha : s.at_ = 0) (hd : s.done = false) :
    Fx Tryz.prog 156 [.pointer (some ⟨b, 0, none⟩)] (advF b e mp x m s cnt G) (advR b e mp x m s G) := by
  have hlen : 3 + x.w ≤ x.len := by unfold Cn.len; omega
  have hb1 := hx.1
  have hok := advStep_ok (by omega) hm hs
  have e1 : advStep x.w m s = ({ s with was := m.at_ 2, at_ := 1 }, m.tick) := by unfold advStep; rw [hd, ha]; rfl
  rw [e1] at hok
  refine Fx.mk Tryz.func156 k156 (Nat.le_of_ble_eq_true rfl) ?_
  dsimp only [c156, envOf, Nat.reduceAdd]
  unfold advF
  refine go ?_
  refine Cx.ordc rfl (by kernel_rfl) ?_
  refine ge ?_
  refine Ev.caH (by kernel_rfl) rfl rfl (cellsLoad (b := mp) (m := m) 2 (by omega)) (Pres.deps (by kernel_rfl)) ?_
  rintro v L' ⟨rfl, rfl⟩
  refine ge ?_
  refine Ev.stbH (b := b) (by kernel_rfl) rfl rfl rfl rfl rfl (by rfl) rfl (Pres.deps (by kernel_rfl)) ?_
  refine ge ?_
  refine go ?_
  refine Sx.ca rfl (machGo (b := b)) ?_
  rintro v L' ⟨rfl, rfl⟩
  refine go ?_
  refine Kr.none (.inl rfl) ?_ rfl
  rw [e1]
  refine Ent.trans (AdvO.close (a := some ⟨b, 0, none⟩) (e := e) (x := x) _ hok ?_ rfl rfl rfl) ?_
  · simp [advNx, advFn, hd]
  · exact ent
theorem adv_cas_ {b e mp : Nat} {x : Cn} {m : Mm} {s : AdvS} {cnt : Int} (hx : x.ok) (hm : m.ok) (hl : x.len ≤ m.ws.length) (hs : s.ok x.w) (ha : s.at_ = 2) (hd : s.done = false) :
    Fx Tryz.prog 198 [.pointer (some ⟨b, 0, none⟩)] (advF b e mp x m s cnt G) (advR b e mp x m s G) := by
  have hlen : 3 + x.w ≤ x.len := by unfold Cn.len; omega
  have hb1 := hx.1
  have hok := advStep_ok (by omega) hm hs
  have hw := hs.w
  have e1 : advStep x.w m s = ({ s with won := decide (m.at_ 2 = s.was), done := true }, m.cas 2 s.was ((s.was + 1) % 18446744073709551616)) := by unfold advStep; rw [hd, ha]; rfl
  rw [e1] at hok
  refine Fx.mk Tryz.func198 k198 (Nat.le_of_ble_eq_true rfl) ?_
  dsimp only [c198, envOf, Nat.reduceAdd]
  unfold advF
  refine go ?_
  refine Cx.orde rfl (by kernel_rfl) ?_
  refine ge ?_
  rw [show IntKind.u64.wrap ((s.was : Int) + 1) = (((s.was + 1) % 18446744073709551616 : Nat) : Int) by
    by_cases h : s.was = 18446744073709551615
    · rw [h]; rfl
    · rw [wu64 (by omega) (by omega)]; omega]
  refine Ev.caH (by kernel_rfl) rfl rfl (cellsCas (b := mp) (m := m) 2 s.was ((s.was + 1) % 18446744073709551616) (by omega) (by omega)) (Pres.deps (by kernel_rfl)) ?_
  rintro v L' ⟨rfl, rfl⟩
  refine ge ?_
  refine Ev.stbH (b := b) (by kernel_rfl) rfl rfl rfl rfl rfl (by rfl) rfl (Pres.deps (by kernel_rfl)) ?_
  refine ge ?_
  refine go ?_
  refine Kr.none (.inl rfl) ?_ rfl
  rw [e1]
  refine Ent.trans (AdvO.close (a := some ⟨b, 0, none⟩) (e := e) (x := x) _ hok ?_ rfl rfl rfl) ?_
  · simp [advNx]
  · exact ent
theorem adv_look_ {b e mp : Nat} {x : Cn} {m : Mm} {s : AdvS} {cnt : Int} (hx : x.ok) (hm : m.ok) (hl : x.len ≤ m.ws.length) (hs : s.ok x.w) (ha : s.at_ = 1) (hd : s.done = false) :
    Fx Tryz.prog 182 [.pointer (some ⟨b, 0, none⟩)] (advF b e mp x m s cnt G) (advR b e mp x m s G) := by
  have hlen : 3 + x.w ≤ x.len := by unfold Cn.len; omega
  have hb1 := hx.1
  have hok := advStep_ok (by omega) hm hs
  have hw := hs.w
  have hwk := hs.l hd ha
  have hlt := Mm.at_lt hm (3 + s.worker)
  have e1 : advStep x.w m s = if behind s.was (m.at_ (3 + s.worker)) then ({ s with done := true }, m.tick) else ({ s with worker := s.worker + 1, at_ := if s.worker + 1 < x.w then 1 else 2 }, m.tick) := by unfold advStep; rw [hd, ha]; rfl
  refine Fx.mk Tryz.func182 k182 (Nat.le_of_ble_eq_true rfl) ?_
  dsimp only [c182, envOf, Nat.reduceAdd]
  unfold advF
  refine go ?_
  refine Cx.ordc rfl (by kernel_rfl) ?_
  refine ge ?_
  rw [w64 (n := (3 : Int) + s.worker) (by omega) (by omega), show (3 : Int) + s.worker = ((3 + s.worker : Nat) : Int) by omega]
  refine Ev.caH (by kernel_rfl) rfl rfl (cellsLoad (b := mp) (m := m) (3 + s.worker) (by omega)) (Pres.deps (by kernel_rfl)) ?_
  rintro v L' ⟨rfl, rfl⟩
  refine ge ?_
  refine Cx.sq ?_
  refine Cx.jn (β := {u : Unit // ¬ behind s.was (m.at_ (3 + s.worker))}) (fun _ => [(0, .pointer (some ⟨b, 0, none⟩))]) (fun _ => pt (some ⟨b, 0, none⟩) (Blk 225 [.nilFunc, .nilFunc, .nilFunc, .nilFunc, .int .i64 cnt, .pointer (some ⟨e, 0, none⟩), wd s.was, .int .i64 (s.worker : Nat), .bool s.won]) :: pt (some ⟨mp, 0, none⟩) (MemO m.tick) :: pt (some ⟨e, 0, none⟩) (EpO mp x) :: G) ?_ ?_
  · refine go ?_
    refine Sx.ca rfl (getPin _ hlt) ?_
    rintro v L' ⟨rfl, rfl⟩
    by_cases hp : m.at_ (3 + s.worker) % 2 = 1
    · rw [if_pos hp, decide_eq_true hp]
      refine go ?_
      refine Sx.ca rfl (epochCut s.was hw) ?_
      rintro v L' ⟨rfl, rfl⟩
      refine go ?_
      refine Cx.ifn rfl (fun h => ?_) (fun h => ?_)
      · have e2 : advStep x.w m s = ({ s with done := true }, m.tick) := by rw [e1, if_pos ⟨hp, h⟩]
        rw [e2] at hok
        refine go ?_
        refine Kr.none (.inr rfl) ?_ rfl
        rw [e2]
        refine Ent.trans (Ent.take (a := some ⟨b, 0, none⟩)) ?_
        refine Ent.trans (AdvO.close (a := some ⟨b, 0, none⟩) (e := e) (x := x) _ hok ?_ rfl rfl rfl) ?_
        · simp [advNx]
        · exact ent
      · refine go ?_
        refine Kjn.nm ⟨(), fun h2 => h2.2 h⟩ (sub.cons rfl sub.nil) ?_
        exact ent
    · rw [if_neg hp, decide_eq_false hp]
      refine go ?_
      refine Kjn.nm ⟨(), fun h2 => hp h2.1⟩ (sub.cons rfl sub.nil) ?_
      exact ent
  · rintro ⟨_, hno⟩
    rw [if_neg hno] at e1
    rw [e1] at hok
    refine go ?_
    rw [w64 (n := (s.worker : Int) + 1) (by omega) (by omega)]
    refine Cx.ordc rfl (by kernel_rfl) ?_
    refine ge ?_
    refine Cx.ifp rfl (fun h => ?_) (fun h => ?_)
    · refine go ?_
      refine Sx.ca rfl (machGo (b := b)) ?_
      rintro v L' ⟨rfl, rfl⟩
      refine go ?_
      refine Kr.none (.inl rfl) ?_ rfl
      rw [e1]
      refine Ent.trans (AdvO.close (a := some ⟨b, 0, none⟩) (e := e) (x := x) _ hok ?_ rfl rfl rfl) ?_
      · simp [advNx, advFn, hd, show s.worker + 1 < x.w by omega]
      · exact ent
    · refine go ?_
      refine Sx.ca rfl (machGo (b := b)) ?_
      rintro v L' ⟨rfl, rfl⟩
      refine go ?_
      refine Kr.none (.inl rfl) ?_ rfl
      rw [e1]
      refine Ent.trans (AdvO.close (a := some ⟨b, 0, none⟩) (e := e) (x := x) _ hok ?_ rfl rfl rfl) ?_
      · simp [advNx, advFn, hd, show ¬ s.worker + 1 < x.w by omega]
      · exact ent
end
end Go.Proofs.YtnbkjcmmjgkdaaaGreat

/-
  Epochs: an Advance's Step, Done, Won; Now.
-/
set_option linter.unusedVariables false
set_option linter.unusedSimpArgs false
namespace Go.Proofs.YtnbkjcmmjgkdaaaGreat
open Go
attribute [local irreducible] Sx Cx Rx Fx Krg Ksq Kbl Klp Kr
section
variable {L F G : St}
theorem advStepC {b e mp : Nat} {x : Cn} {m : Mm} {s : AdvS} {F1 F2 : St} (hx : x.ok) (hl : x.len ≤ m.ws.length) [t1 : Take L (some ⟨b, 0, none⟩) (AdvO e x s) F1] [t2 : Take F1 (some ⟨mp, 0, none⟩) (MemO m) F2] [t3 : Take F2 (some ⟨e, 0, none⟩) (EpO mp x) G] :
    Fx Tryz.prog 103 [.pointer (some ⟨b, 0, none⟩)] L (fun v L' => v = .bool (!s.done) ∧ L' = pt (some ⟨b, 0, none⟩) (AdvO e x (advStep x.w m s).1) :: pt (some ⟨mp, 0, none⟩) (MemO (advStep x.w m s).2) :: F2) := by
  refine Fx.mk Tryz.func103 k103 (Nat.le_of_ble_eq_true rfl) ?_
  dsimp only [c103, envOf, Nat.reduceAdd]
  refine Cx.ent (Ent.trans (Ent.of t1.out) (Ent.cons (Ent.trans (Ent.of t2.out) (Ent.cons (Ent.of t3.out))))) ?_
  refine Cx.pure (memKey (b := mp) (m := m)) fun hm => ?_
  refine Cx.openp (a := some ⟨b, 0, none⟩) rfl ?_
  rintro cnt
  simp only [advL, List.cons_append, List.nil_append]
  refine Cx.liftp fun hs => ?_
  cases hd : s.done with
  | true =>
    have e1 : advStep x.w m s = (s, m) := by unfold advStep; rw [hd]; rfl
    rw [e1, show advNx (some ⟨b, 0, none⟩) s = .nilFunc by simp [advNx, hd]]
    refine go ?_
    refine Sx.ca rfl (machStepDone (b := b)) ?_
    rintro v L' ⟨rfl, rfl⟩
    refine go ?_
    refine Kr.one (.inr rfl) rfl ?_ ⟨rfl, rfl⟩
    refine Ent.trans (AdvO.close (a := some ⟨b, 0, none⟩) (e := e) (x := x) s hs ?_ rfl rfl rfl) (Ent.cons (Ent.cons (Ent.of t3.back)))
    simp [advNx, hd]
  | false =>
    have hcase := hs.a
    rcases (show s.at_ = 0 ∨ s.at_ = 1 ∨ s.at_ = 2 by omega) with ha | ha | ha
    · rw [show advNx (some ⟨b, 0, none⟩) s = .func (.func 156) #[.pointer (some ⟨b, 0, none⟩)] #[] by simp [advNx, advFn, hd, ha]]
      refine go ?_
      refine Sx.ca rfl (machStep (b := b) (by kernel_rfl) (adv_load_ (G := G) hx hm.1 hl hs ha hd)) ?_
      rintro v L' ⟨rfl, w, rfl⟩
      refine go ?_
      exact Kr.one (.inr rfl) rfl (Ent.cons (Ent.cons (Ent.of t3.back))) ⟨rfl, rfl⟩
    · rw [show advNx (some ⟨b, 0, none⟩) s = .func (.func 182) #[.pointer (some ⟨b, 0, none⟩)] #[] by simp [advNx, advFn, hd, ha]]
      refine go ?_
      refine Sx.ca rfl (machStep (b := b) (by kernel_rfl) (adv_look_ (G := G) hx hm.1 hl hs ha hd)) ?_
      rintro v L' ⟨rfl, w, rfl⟩
      refine go ?_
      exact Kr.one (.inr rfl) rfl (Ent.cons (Ent.cons (Ent.of t3.back))) ⟨rfl, rfl⟩
    · rw [show advNx (some ⟨b, 0, none⟩) s = .func (.func 198) #[.pointer (some ⟨b, 0, none⟩)] #[] by simp [advNx, advFn, hd, ha]]
      refine go ?_
      refine Sx.ca rfl (machStep (b := b) (by kernel_rfl) (adv_cas_ (G := G) hx hm.1 hl hs ha hd)) ?_
      rintro v L' ⟨rfl, w, rfl⟩
      refine go ?_
      exact Kr.one (.inr rfl) rfl (Ent.cons (Ent.cons (Ent.of t3.back))) ⟨rfl, rfl⟩
theorem advDoneC {b e : Nat} {x : Cn} {s : AdvS} {F1 : St} [tp : Take L (some ⟨b, 0, none⟩) (AdvO e x s) F1] : Fx Tryz.prog 104 [.pointer (some ⟨b, 0, none⟩)] L (fun v L' => v = .bool s.done ∧ L = L') := by
  refine Fx.kept (t := tp) ?_
  refine Fx.mk Tryz.func104 k104 (Nat.le_of_ble_eq_true rfl) ?_
  dsimp only [c104, envOf, Nat.reduceAdd]
  refine Cx.openp (t := tp) rfl ?_
  rintro cnt
  simp only [advL, List.cons_append, List.nil_append]
  refine Cx.liftp fun hs => ?_
  cases hd : s.done with
  | true =>
    have e1 : advNx (some ⟨b, 0, none⟩) s = .nilFunc := by simp [advNx, hd]
    rw [e1]
    refine go ?_
    refine Sx.ca rfl (machDoneYes (b := b)) ?_
    rintro v L' ⟨rfl, rfl⟩
    refine go ?_
    exact Kr.one (.inr rfl) rfl (AdvO.close (a := some ⟨b, 0, none⟩) (e := e) (x := x) s hs e1.symm rfl rfl rfl) ⟨rfl, rfl⟩
  | false =>
    have e1 : advNx (some ⟨b, 0, none⟩) s = .func (.func (advFn s)) #[.pointer (some ⟨b, 0, none⟩)] #[] := by simp [advNx, hd]
    rw [e1]
    refine go ?_
    refine Sx.ca rfl (machDoneNo (b := b)) ?_
    rintro v L' ⟨rfl, rfl⟩
    refine go ?_
    exact Kr.one (.inr rfl) rfl (AdvO.close (a := some ⟨b, 0, none⟩) (e := e) (x := x) s hs e1.symm rfl rfl rfl) ⟨rfl, rfl⟩
theorem advWonC {b e : Nat} {x : Cn} {s : AdvS} {F1 : St} [tp : Take L (some ⟨b, 0, none⟩) (AdvO e x s) F1] : Fx Tryz.prog 98 [.pointer (some ⟨b, 0, none⟩)] L (fun v L' => v = .bool s.won ∧ L = L') := by
  refine Fx.kept (t := tp) ?_
  refine Fx.mk Tryz.func98 k98 (Nat.le_of_ble_eq_true rfl) ?_
  dsimp only [c98, envOf, Nat.reduceAdd]
  refine Cx.openp (t := tp) rfl ?_
  rintro cnt
  simp only [advL, List.cons_append, List.nil_append]
  refine Cx.liftp fun hs => ?_
  refine go ?_
  exact Kr.one (.inr rfl) rfl (AdvO.close (a := some ⟨b, 0, none⟩) (e := e) (x := x) s hs rfl rfl rfl rfl) ⟨rfl, rfl⟩
theorem epochNow {e mp : Nat} {x : Cn} {m : Mm} (hl : 2 < m.ws.length) {F1 F2 : St} [t1 : Take L (some ⟨e, 0, none⟩) (EpO mp x) F1] [t2 : Take L (some ⟨mp, 0, none⟩) (MemO m) F2] :
    Fx Tryz.prog 32 [.pointer (some ⟨e, 0, none⟩)] L (fun v L' => v = .int .i64 (cutE (m.at_ 2)) ∧ L = L') := by
  refine Fx.mk Tryz.func32 k32 (Nat.le_of_ble_eq_true rfl) ?_
  dsimp only [c32, envOf, Nat.reduceAdd]
  refine Cx.pure (memKey (b := mp) (m := m)) fun hm => ?_
  refine go ?_
  refine Cx.ordc rfl (by kernel_rfl) ?_
  refine ge ?_
  refine Ev.cakH (by kernel_rfl) rfl rfl (cellsPeek (b := mp) (m := m) 2 hl) ?_
  refine ge ?_
  refine Ev.cakH (by kernel_rfl) rfl rfl (epochCut (m.at_ 2) (Mm.at_lt hm.1 2)) ?_
  refine ge ?_
  refine go ?_
  exact Kr.one (.inr rfl) rfl (Ent.refl _) ⟨rfl, rfl⟩
end
end Go.Proofs.YtnbkjcmmjgkdaaaGreat

/-
  Epochs: an Advance is made.
-/
set_option linter.unusedVariables false
set_option linter.unusedSimpArgs false
namespace Go.Proofs.YtnbkjcmmjgkdaaaGreat
open Go
attribute [local irreducible] Sx Cx Rx Fx Krg Ksq Kbl Klp Kr
section
variable {L F G : St}
theorem epochAdvance {e : Nat} {x : Cn} : Fx Tryz.prog 101 [.pointer (some ⟨e, 0, none⟩)] L (fun v L' => ∃ b, v = .pointer (some ⟨b, 0, none⟩) ∧ L' = pt (some ⟨b, 0, none⟩) (AdvO e x AdvS.init) :: L) := by
  refine Fx.mk Tryz.func101 k101 (Nat.le_of_ble_eq_true rfl) ?_
  dsimp only [c101, envOf, Nat.reduceAdd]
  refine go ?_
  refine Sx.bx rfl rfl fun b => ?_
  refine go ?_
  refine Sx.ca rfl (machGo (b := b)) ?_
  rintro v L' ⟨rfl, rfl⟩
  refine go ?_
  exact Kr.one (.inr rfl) rfl (AdvO.close (a := some ⟨b, 0, none⟩) (e := e) (x := x) AdvS.init AdvS.ok_init rfl rfl rfl rfl) ⟨b, rfl, rfl⟩
end
end Go.Proofs.YtnbkjcmmjgkdaaaGreat

/-
  Stacks: a Push, one access at a time.
-/
set_option linter.unusedVariables false
set_option linter.unusedSimpArgs false
namespace Go.Proofs.YtnbkjcmmjgkdaaaGreat
open Go
attribute [local irreducible] Sx Cx Rx Fx Krg Ksq Kbl Klp Kr
theorem itI_some {l : List Int} {i : Nat} (h : i < l.length) : (ints l)[i]? = some (.int .i64 (itI l i)) := by simp [ints, itI, h]
section
variable {L F G : St}
theorem Rd.pre {a : Option Addr} {n m : Nat} {vs : List Value} (h : Rd L 1 a n vs) (hm : m ≤ n) : Rd L 1 a m (vs.take m) := by
  obtain ⟨h1, h2⟩ := h
  refine ⟨by rw [List.length_take]; omega, ?_⟩
  rcases h2 with h0 | ⟨b, o, rfl, hh⟩
  · left; omega
  · right
    have := hh.sub (i := 0) (n := m)
    exact ⟨b, o, rfl, by simpa using this⟩
theorem Rd.get1 {a : Option Addr} {n i : Nat} {vs : List Value} {v : Value} (h : Rd L 1 a n vs) (hv : vs[i]? = some v) : ∃ b o, a = some ⟨b, o, none⟩ ∧ Has L b (o + i) [v] := by
  have hlt := (List.getElem?_eq_some_iff.1 hv).1
  obtain ⟨h1, h0 | ⟨b, o, rfl, h2⟩⟩ := h
  · omega
  · exact ⟨b, o, rfl, (h2.sub (i := i) (n := 1)).one (take_one hv)⟩
theorem sliceIndex {a : Option Addr} {n c : Nat} {xs : List Int} (x : Int) (hr : Rd L 1 a n (ints xs)) (hn : n ≤ 1000000000) :
    Fx Tryz.prog 192 [.slice a n c, .int .i64 x] L (fun v L' => (∃ i : Int, v = .int .i64 i ∧ (0 ≤ i ↔ x ∈ xs)) ∧ L = L') := by
  have hl : xs.length = n := by have := hr.1; simpa [ints] using this
  refine Fx.mk Tryz.func192 k192 (Nat.le_of_ble_eq_true rfl) ?_
  dsimp only [c192, envOf, Nat.reduceAdd]
  refine go ?_
  refine Cx.lp (α := {i : Nat // i ≤ n ∧ x ∉ xs.take i}) (fun i => [(0, .slice a n c), (1, .int .i64 x), (7, .int .i64 n), (8, .int .i64 i.1)]) (fun _ => L) (fun i => n - i.1) ⟨0, by omega, by simp⟩ (sub.cons rfl (sub.cons rfl (sub.cons rfl (sub.cons rfl sub.nil)))) (Ent.refl _) ?_
  rintro ⟨i, hi, hni⟩
  dsimp only
  refine go ?_
  refine Cx.ifp rfl (fun h => ?_) (fun h => ?_)
  · have hv := itI_some (l := xs) (i := i) (by omega)
    obtain ⟨b, o, rfl, hh⟩ := hr.get1 hv
    refine go ?_
    refine Sx.pv rfl ⟨by omega, by omega⟩ ?_
    refine Sx.ld rfl (by simpa using hh) rfl ?_
    refine go ?_
    refine Cx.ifp rfl (fun e => ?_) (fun e => ?_)
    · refine go ?_
      refine Kr.one (.inr rfl) rfl (Ent.refl _) ⟨⟨i, rfl, fun _ => ?_, fun _ => by omega⟩, rfl⟩
      rw [e]
      exact itI_mem (by omega)
    · refine go ?_
      rw [w64 (by omega) (by omega)]
      refine Klp.nm ⟨i + 1, by omega, ?_⟩ (sub.cons rfl (sub.cons rfl (sub.cons rfl (sub.cons rfl sub.nil)))) (Ent.refl _) (by dsimp only; omega)
      rw [List.take_succ_eq_append_getElem (by omega), List.mem_append]
      rintro (h1 | h1)
      · exact hni h1
      · rw [List.mem_singleton] at h1
        exact e (h1.trans (by simp [itI, show i < xs.length by omega]))
  · obtain rfl : i = n := by omega
    rw [← hl, List.take_length] at hni
    refine go ?_
    exact Kr.one (.inr rfl) rfl (Ent.refl _) ⟨⟨-1, rfl, by simp [hni]⟩, rfl⟩
theorem sliceContains {a : Option Addr} {n c : Nat} {xs : List Int} (x : Int) (hr : Rd L 1 a n (ints xs)) (hn : n ≤ 1000000000) :
    Fx Tryz.prog 170 [.slice a n c, .int .i64 x] L (fun v L' => v = .bool (decide (x ∈ xs)) ∧ L = L') := by
  refine Fx.mk Tryz.func170 k170 (Nat.le_of_ble_eq_true rfl) ?_
  dsimp only [c170, envOf, Nat.reduceAdd]
  refine go ?_
  refine Sx.ca rfl (sliceIndex (a := a) (n := n) (c := c) (xs := xs) x hr hn) ?_
  rintro v L' ⟨⟨i, rfl, hi⟩, rfl⟩
  refine go ?_
  exact Kr.one (.inr rfl) rfl (Ent.refl _) ⟨congrArg Value.bool (decide_eq_decide.2 hi), rfl⟩
/-- A Push. -/
def pushI (p : PushS) : Nat := min p.at_ (p.l.length - 1)
def pushFn (p : PushS) : FuncId := if p.at_ + 1 < p.l.length then 172 else if p.at_ + 1 = p.l.length then 171 else if p.at_ = p.l.length then 193 else 201
def pushNx (a : Option Addr) (p : PushS) : Value := bif p.done then .nilFunc else .func (.func (pushFn p)) #[.pointer a] #[]
def pushL (T : TypeId) (sb : Nat) (k : Sk) (p : PushS) (a : Option Addr) (y : (Option Addr × Nat) × Int) : St :=
  [lift (p.ok k), pt a (Blk T [pushNx a p, .nilFunc, .nilFunc, .nilFunc, .int .i64 y.2, .pointer (some ⟨sb, 0, none⟩), .slice y.1.1 p.l.length y.1.2, .int .i64 (pushI p : Nat), wd p.was]), pt y.1.1 (Row 3 1 p.l.length y.1.2 (ints p.l))]
def PushT (T : TypeId) (sb : Nat) (k : Sk) (p : PushS) (a : Option Addr) : As := exs (pushL T sb k p a)
abbrev PushO := PushT 239
theorem PushO.close {T : TypeId} {sb : Nat} {k : Sk} {a r : Option Addr} {c n : Nat} {cnt : Int} {v0 v1 v2 : Value} {w : List Value} {F G : St} (p : PushS) (hp : p.ok k)
    [t : Take L a (Blk T [v0, .nilFunc, .nilFunc, .nilFunc, .int .i64 cnt, .pointer (some ⟨sb, 0, none⟩), .slice r n c, v1, v2]) F] [u : Take F r (Row 3 1 n c w) G]
    (h0 : v0 = pushNx a p) (h1 : v1 = .int .i64 (pushI p : Nat)) (h2 : v2 = wd p.was) (hn : n = p.l.length) (hw : w = ints p.l) : Ent L (pt a (PushT T sb k p) :: G) := by
  subst h0; subst h1; subst h2; subst hn; subst hw
  refine Ent.trans (Ent.take1 (t := t) (Ent.of u.out)) ?_
  refine Ent.trans (Ent.lift hp (Ent.refl _)) ?_
  exact Ent.close (f := pushL T sb k p a) rfl ((r, c), cnt)
set_option maxHeartbeats 2000000 in
theorem stackPush {sb mp : Nat} {k : Sk} {a : Option Addr} {n c : Nat} {l : List Int} (hr : Rd L 1 a n (ints l)) (hc : n ≤ c) (hn : n ≤ 1000000000) [s : Take L (some ⟨sb, 0, none⟩) (SkO mp k) F] :
    Fx Tryz.prog 135 [.pointer (some ⟨sb, 0, none⟩), .slice a n c] L (fun v L' =>
      (¬ (l.Nodup ∧ ∀ x ∈ l, 0 ≤ x ∧ x < k.n) ∧ v = .tuple #[.pointer none, .int .i64 1] ∧ L = L') ∨
      ((l.Nodup ∧ ∀ x ∈ l, 0 ≤ x ∧ x < k.n) ∧ ∃ g, v = .tuple #[.pointer (some ⟨g, 0, none⟩), .int .i64 0] ∧ L' = pt (some ⟨g, 0, none⟩) (PushO sb k (PushS.init l)) :: L)) := by
  have hl : l.length = n := by have := hr.1; simpa [ints] using this
  refine Fx.mk Tryz.func135 k135 (Nat.le_of_ble_eq_true rfl) ?_
  dsimp only [c135, envOf, Nat.reduceAdd]
  refine go ?_
  refine Cx.lp (α := {i : Nat // i ≤ n ∧ (l.take i).Nodup ∧ ∀ x ∈ l.take i, 0 ≤ x ∧ x < k.n}) (fun i => [(0, .pointer (some ⟨sb, 0, none⟩)), (1, .slice a n c), (9, .slice a n c), (10, .int .i64 n), (11, .int .i64 i.1)]) (fun _ => L) (fun i => n - i.1)
    ⟨0, by omega, by simp, by simp⟩ (sub.cons rfl (sub.cons rfl (sub.cons rfl (sub.cons rfl (sub.cons rfl sub.nil))))) (Ent.refl _) ?_
  rintro ⟨i, hi, hnd, hrg⟩
  dsimp only
  refine go ?_
  refine Cx.ifp rfl (fun h => ?_) (fun h => ?_)
  · have hv := itI_some (l := l) (i := i) (by omega)
    obtain ⟨b, o, rfl, hh⟩ := hr.get1 hv
    have hmem := itI_mem (l := l) (i := i) (by omega)
    have hbad : ∀ (hb : ¬ ((0 ≤ itI l i ∧ itI l i < k.n) ∧ itI l i ∉ l.take i)), ¬ (l.Nodup ∧ ∀ x ∈ l, 0 ≤ x ∧ x < k.n) := by
      rintro hb ⟨g1, g2⟩
      refine hb ⟨g2 _ hmem, fun hin => ?_⟩
      obtain ⟨j, hj, e⟩ := List.getElem_of_mem hin
      have hj' : j < i := by rw [List.length_take] at hj; omega
      rw [List.getElem_take] at e
      have e2 : itI l i = l[i]'(by omega) := by simp [itI, show i < l.length by omega]
      have := (List.getElem_inj g1).1 (e.trans e2)
      omega
    refine go ?_
    refine Sx.pv rfl ⟨by omega, by omega⟩ ?_
    refine Sx.ld rfl (by simpa using hh) rfl ?_
    refine go ?_
    refine Sx.ifp rfl (fun h1 => ?_) (fun h1 => ?_)
    · refine go ?_
      exact Kr.two (.inr rfl) rfl rfl (Ent.refl _) (.inl ⟨hbad fun hg => by omega, rfl, rfl⟩)
    · refine go ?_
      refine Sx.ifp rfl (fun h2 => ?_) (fun h2 => ?_)
      · refine go ?_
        exact Kr.two (.inr rfl) rfl rfl (Ent.refl _) (.inl ⟨hbad fun hg => by omega, rfl, rfl⟩)
      · refine go ?_
        refine Sx.pv rfl ⟨by omega, by omega⟩ ?_
        refine go ?_
        have hpre : Rd L 1 (some ⟨b, o, none⟩) (i : Int).toNat (ints (l.take i)) := by
          have := hr.pre (m := i) (by omega)
          rw [show (i : Int).toNat = i by omega]
          rwa [show (ints l).take i = ints (l.take i) by simp [ints]] at this
        refine Sx.ca rfl (sliceContains (xs := l.take i) (itI l i) hpre (by omega)) ?_
        rintro v L' ⟨rfl, rfl⟩
        refine go ?_
        refine Cx.ifp rfl (fun h3 => ?_) (fun h3 => ?_)
        · refine go ?_
          exact Kr.two (.inr rfl) rfl rfl (Ent.refl _) (.inl ⟨hbad fun hg => hg.2 h3, rfl, rfl⟩)
        · refine go ?_
          rw [w64 (by omega) (by omega)]
          have ht : l.take (i + 1) = l.take i ++ [itI l i] := by
            rw [List.take_succ_eq_append_getElem (by omega)]; simp [itI, show i < l.length by omega]
          refine Klp.nm ⟨i + 1, by omega, ?_, ?_⟩ (sub.cons rfl (sub.cons rfl (sub.cons rfl (sub.cons rfl (sub.cons rfl sub.nil))))) (Ent.refl _) (by dsimp only; omega)
          · rw [ht, List.nodup_append]
            refine ⟨hnd, by simp, ?_⟩
            intro x hx y hy e
            rw [List.mem_singleton] at hy
            exact h3 (by rw [← hy, ← e]; exact hx)
          · rw [ht]
            intro x hx
            rcases List.mem_append.1 hx with hx | hx
            · exact hrg x hx
            · rw [List.mem_singleton] at hx
              subst hx
              omega
  · obtain rfl : i = n := by omega
    rw [← hl, List.take_length] at hnd hrg
    refine go ?_
    refine Sx.ca rfl (clone hr (ones_ints _) hn) ?_
    rintro v L' ⟨ra, ca, rfl, rfl⟩
    refine go ?_
    refine Sx.bx rfl rfl fun g => ?_
    refine go ?_
    have hok : (PushS.init l).ok k := PushS.ok_init hrg
    refine Cx.ifp rfl (fun h0 => ?_) (fun h0 => ?_)
    · refine go ?_
      refine Kr.two (.inr rfl) rfl rfl ?_ (.inr ⟨⟨hnd, hrg⟩, g, rfl, rfl⟩)
      have hl0 : l = [] := List.length_eq_zero_iff.1 (by omega)
      refine Ent.trans (PushO.close (a := some ⟨g, 0, none⟩) (r := ra) (sb := sb) (k := k) (PushS.init l) hok ?_ ?_ rfl hl.symm rfl) ?_
      · simp [pushNx, PushS.init, hl0]
      · simp [pushI, PushS.init, hl0]
      · exact ent
    · refine go ?_
      refine Cx.ifp rfl (fun h1 => ?_) (fun h1 => ?_)
      · refine go ?_
        refine Sx.ca rfl (machGo (b := g)) ?_
        rintro v L' ⟨rfl, rfl⟩
        refine go ?_
        refine Kr.two (.inr rfl) rfl rfl ?_ (.inr ⟨⟨hnd, hrg⟩, g, rfl, rfl⟩)
        have hl0 : l ≠ [] := fun e => by subst e; simp at hl; omega
        refine Ent.trans (PushO.close (a := some ⟨g, 0, none⟩) (r := ra) (sb := sb) (k := k) (PushS.init l) hok ?_ ?_ rfl hl.symm rfl) ?_
        · simp [pushNx, pushFn, PushS.init, hl0, hl, show i = 1 by omega]
        · simp [pushI, PushS.init]
        · exact ent
      · refine go ?_
        refine Sx.ca rfl (machGo (b := g)) ?_
        rintro v L' ⟨rfl, rfl⟩
        refine go ?_
        refine Kr.two (.inr rfl) rfl rfl ?_ (.inr ⟨⟨hnd, hrg⟩, g, rfl, rfl⟩)
        have hl0 : l ≠ [] := fun e => by subst e; simp at hl; omega
        refine Ent.trans (PushO.close (a := some ⟨g, 0, none⟩) (r := ra) (sb := sb) (k := k) (PushS.init l) hok ?_ ?_ rfl hl.symm rfl) ?_
        · simp [pushNx, pushFn, PushS.init, hl0, hl, show 1 < i by omega]
        · simp [pushI, PushS.init]
        · exact ent
end
end Go.Proofs.YtnbkjcmmjgkdaaaGreat

/-
  Stacks: a Push's accesses.
-/
set_option linter.unusedVariables false
set_option linter.unusedSimpArgs false
namespace Go.Proofs.YtnbkjcmmjgkdaaaGreat
open Go
attribute [local irreducible] Sx Cx Rx Fx Krg Ksq Kbl Klp Kr
section
variable {L F G : St}
/-- The frame of a Push's access. -/
abbrev pushF (b sb mp : Nat) (k : Sk) (m : Mm) (p : PushS) (r : Option Addr) (c : Nat) (cnt : Int) (G : St) : St :=
  pt (some ⟨b, 0, none⟩) (Blk 239 [.nilFunc, .nilFunc, .nilFunc, .nilFunc, .int .i64 cnt, .pointer (some ⟨sb, 0, none⟩), .slice r p.l.length c, .int .i64 (pushI p : Nat), wd p.was]) ::
  pt r (Row 3 1 p.l.length c (ints p.l)) :: pt (some ⟨mp, 0, none⟩) (MemO m) :: pt (some ⟨sb, 0, none⟩) (SkO mp k) :: G
abbrev pushR (b sb mp : Nat) (k : Sk) (m : Mm) (p : PushS) (G : St) (v : Value) (L' : St) : Prop :=
  L' = pt (some ⟨b, 0, none⟩) (PushO sb k (pushStep k m p).1) :: pt (some ⟨mp, 0, none⟩) (MemO (pushStep k m p).2) :: pt (some ⟨sb, 0, none⟩) (SkO mp k) :: G
theorem wrapS {x : Int} (h1 : 0 ≤ x) (h2 : x ≤ 9223372036854775807) : IntKind.u64.wrap (IntKind.i64.wrap x) = ((x.toNat : Nat) : Int) := by
  rw [w64 (by omega) h2, wu64 h1 (by omega)]; omega
theorem push_link_ {b sb mp : Nat} {k : Sk} {m : Mm} {p : PushS} {r : Option Addr} {c : Nat} {cnt : Int} (hm : m.ok) (hk : k.ok m.ws.length) (hp : p.ok k) (ha : p.at_ + 1 < p.l.length) (hd : p.done = false) :
    Fx Tryz.prog 172 [.pointer (some ⟨b, 0, none⟩)] (pushF b sb mp k m p r c cnt G) (pushR b sb mp k m p G) := by
  have hok := pushStep_ok (k := k) hm hp
  have e : pushStep k m p = ({ p with at_ := p.at_ + 1 }, m.put (k.links + (itI p.l p.at_).toNat) (itI p.l (p.at_ + 1) + 1).toNat) := by
    unfold pushStep; rw [hd]; simp only [Bool.false_eq_true, if_false]; rw [if_pos ha]
  have hI : pushI p = p.at_ := by unfold pushI; omega
  have hv1 := itI_some (l := p.l) (i := p.at_) (by omega)
  have hv2 := itI_some (l := p.l) (i := p.at_ + 1) (by omega)
  have hr1 := hp.g _ (itI_mem (l := p.l) (i := p.at_) (by omega))
  have hr2 := hp.g _ (itI_mem (l := p.l) (i := p.at_ + 1) (by omega))
  obtain ⟨k1, k2, k3, k4, k5, k6⟩ := hk
  obtain ⟨x, hx⟩ : ∃ x : Nat, itI p.l p.at_ = x := ⟨(itI p.l p.at_).toNat, by omega⟩
  obtain ⟨y, hy⟩ : ∃ y : Nat, itI p.l (p.at_ + 1) = y := ⟨(itI p.l (p.at_ + 1)).toNat, by omega⟩
  have e' : pushStep k m p = ({ p with at_ := p.at_ + 1 }, m.put (k.links + x) (y + 1)) := by rw [e, hx, hy]; rfl
  rw [hx] at hr1 hv1
  rw [hy] at hr2 hv2
  refine Fx.mk Tryz.func172 k172 (Nat.le_of_ble_eq_true rfl) ?_
  dsimp only [c172, envOf, Nat.reduceAdd]
  unfold pushF
  rw [hI]
  refine Cx.rowkey (a := r) fun hxl hc1 hc2 hkr => ?_
  have hc3 : c ≤ 18446744073709551616 := by have := hc2; unfold maxLen at this; omega
  obtain ⟨rg, rfl⟩ : ∃ g, r = some ⟨g, 0, none⟩ := by
    rcases hkr with h | h
    · omega
    · exact h
  have hlm : p.l.length ≤ 9223372036854775807 := by unfold maxLen at hc2; omega
  refine go ?_
  refine Cx.ordc rfl (by kernel_rfl) ?_
  refine ge ?_
  refine Ev.ldrH (b := rg) (by kernel_rfl) rfl rfl (v := .int .i64 (x : Nat)) (by rw [show 0 + ((p.at_ : Int)).toNat * 1 = p.at_ by omega]; exact hv1) ?_
  refine ge ?_
  rw [w64 (n := (p.at_ : Int) + 1) (by omega) (by omega)]
  refine Ev.pvH (by kernel_rfl) rfl rfl ⟨by omega, by omega⟩ ?_
  refine Ev.ldrH (b := rg) (by kernel_rfl) rfl rfl (v := .int .i64 (y : Nat)) (by rw [show 0 + ((p.at_ : Int) + 1).toNat * 1 = p.at_ + 1 by omega]; exact hv2) ?_
  refine ge ?_
  rw [w64 (n := (k.links : Int) + x) (by omega) (by omega), show (k.links : Int) + x = ((k.links + x : Nat) : Int) by omega, wrapS (x := (y : Int) + 1) (by omega) (by omega), show ((y : Int) + 1).toNat = y + 1 by omega]
  refine Ev.caH (by kernel_rfl) rfl rfl (cellsStore (b := mp) (m := m) (k.links + x) (y + 1) (by omega) (by omega)) (Pres.deps (by kernel_rfl)) ?_
  rintro v L' ⟨rfl, rfl⟩
  refine ge ?_
  refine go ?_
  rw [w64 (n := (p.at_ : Int) + 1) (by omega) (by omega)]
  refine go ?_
  refine Cx.ordc rfl (by kernel_rfl) ?_
  refine ge ?_
  rw [w64 (n := (p.l.length : Int) - 1) (by omega) (by omega)]
  rw [e'] at hok
  have hI2 : pushI { p with at_ := p.at_ + 1 } = p.at_ + 1 := by unfold pushI; dsimp only; omega
  refine Cx.ifp rfl (fun h => ?_) (fun h => ?_)
  · refine go ?_
    refine Sx.ca rfl (machGo (b := b)) ?_
    rintro v L' ⟨rfl, rfl⟩
    refine go ?_
    refine Kr.none (.inl rfl) ?_ rfl
    rw [e']
    refine Ent.trans (PushO.close (a := some ⟨b, 0, none⟩) (r := some ⟨rg, 0, none⟩) (sb := sb) (k := k) _ hok ?_ ?_ rfl rfl rfl) ?_
    · simp [pushNx, pushFn, hd, show p.at_ + 1 + 1 < p.l.length by omega]
    · rw [hI2]; rfl
    · exact ent
  · refine go ?_
    refine Sx.ca rfl (machGo (b := b)) ?_
    rintro v L' ⟨rfl, rfl⟩
    refine go ?_
    refine Kr.none (.inl rfl) ?_ rfl
    rw [e']
    refine Ent.trans (PushO.close (a := some ⟨b, 0, none⟩) (r := some ⟨rg, 0, none⟩) (sb := sb) (k := k) _ hok ?_ ?_ rfl rfl rfl) ?_
    · simp [pushNx, pushFn, hd, show ¬ p.at_ + 1 + 1 < p.l.length by omega, show p.at_ + 1 + 1 = p.l.length by omega]
    · rw [hI2]; rfl
    · exact ent
theorem push_load_ {b sb mp : Nat} {k : Sk} {m : Mm} {p : PushS} {r : Option Addr} {c : Nat} {cnt : Int} (hm : m.ok) (hk : k.ok m.ws.length) (hp : p.ok k) (ha : p.at_ + 1 = p.l.length) (hd : p.done = false) :
    Fx Tryz.prog 171 [.pointer (some ⟨b, 0, none⟩)] (pushF b sb mp k m p r c cnt G) (pushR b sb mp k m p G) := by
  have hok := pushStep_ok (k := k) hm hp
  have e : pushStep k m p = ({ p with at_ := p.at_ + 1, was := m.at_ k.head }, m.tick) := by
    unfold pushStep; rw [hd]; simp only [Bool.false_eq_true, if_false]; rw [if_neg (by omega), if_pos ha]
  rw [e] at hok
  have hI : pushI p = p.at_ := by unfold pushI; omega
  obtain ⟨k1, k2, k3, k4, k5, k6⟩ := hk
  refine Fx.mk Tryz.func171 k171 (Nat.le_of_ble_eq_true rfl) ?_
  dsimp only [c171, envOf, Nat.reduceAdd]
  unfold pushF
  rw [hI]
  refine go ?_
  refine Cx.ordc rfl (by kernel_rfl) ?_
  refine ge ?_
  refine Ev.caH (by kernel_rfl) rfl rfl (cellsLoad (b := mp) (m := m) k.head k3) (Pres.deps (by kernel_rfl)) ?_
  rintro v L' ⟨rfl, rfl⟩
  refine ge ?_
  refine Ev.stbH (b := b) (by kernel_rfl) rfl rfl rfl rfl rfl (by rfl) rfl (Pres.deps (by kernel_rfl)) ?_
  refine ge ?_
  refine go ?_
  refine Sx.ca rfl (machGo (b := b)) ?_
  rintro v L' ⟨rfl, rfl⟩
  refine go ?_
  refine Kr.none (.inl rfl) ?_ rfl
  rw [e]
  refine Ent.trans (PushO.close (a := some ⟨b, 0, none⟩) (r := r) (sb := sb) (k := k) _ hok ?_ ?_ rfl rfl rfl) ?_
  · simp [pushNx, pushFn, hd, ha]
  · rw [show pushI { p with at_ := p.at_ + 1, was := m.at_ k.head } = p.at_ by unfold pushI; dsimp only; omega]
  · exact ent
theorem push_last_ {b sb mp : Nat} {k : Sk} {m : Mm} {p : PushS} {r : Option Addr} {c : Nat} {cnt : Int} (hm : m.ok) (hk : k.ok m.ws.length) (hp : p.ok k) (ha : p.at_ = p.l.length) (hd : p.done = false) :
    Fx Tryz.prog 193 [.pointer (some ⟨b, 0, none⟩)] (pushF b sb mp k m p r c cnt G) (pushR b sb mp k m p G) := by
  have hok := pushStep_ok (k := k) hm hp
  have hlp := List.length_pos_iff.2 (hp.ne hd)
  have hv1 := itI_some (l := p.l) (i := p.l.length - 1) (by omega)
  have hr1 := hp.g _ (itI_mem (l := p.l) (i := p.l.length - 1) (by omega))
  have ht1 := k.top_ge p.was
  have ht2 := k.top_lt p.was
  obtain ⟨k1, k2, k3, k4, k5, k6⟩ := hk
  obtain ⟨x, hx⟩ : ∃ x : Nat, itI p.l (p.l.length - 1) = x := ⟨(itI p.l (p.l.length - 1)).toNat, by omega⟩
  have e : pushStep k m p = ({ p with at_ := p.at_ + 1 }, m.put (k.links + x) (k.top p.was + 1).toNat) := by
    unfold pushStep; rw [hd]; simp only [Bool.false_eq_true, if_false]; rw [if_neg (by omega), if_neg (by omega), if_pos ha, hx]; rfl
  rw [e] at hok
  rw [hx] at hr1 hv1
  have hI : pushI p = p.l.length - 1 := by unfold pushI; omega
  refine Fx.mk Tryz.func193 k193 (Nat.le_of_ble_eq_true rfl) ?_
  dsimp only [c193, envOf, Nat.reduceAdd]
  unfold pushF
  rw [hI]
  refine Cx.rowkey (a := r) fun hxl hc1 hc2 hkr => ?_
  obtain ⟨rg, rfl⟩ : ∃ g, r = some ⟨g, 0, none⟩ := by
    rcases hkr with h | h
    · omega
    · exact h
  have hlm : p.l.length ≤ 9223372036854775807 := by unfold maxLen at hc2; omega
  refine go ?_
  refine Cx.ordc rfl (by kernel_rfl) ?_
  refine ge ?_
  rw [w64 (n := (p.l.length : Int) - 1) (by omega) (by omega)]
  refine Ev.pvH (by kernel_rfl) rfl rfl ⟨by omega, by omega⟩ ?_
  refine Ev.ldrH (b := rg) (by kernel_rfl) rfl rfl (v := .int .i64 (x : Nat)) (by rw [show 0 + ((p.l.length : Int) - 1).toNat * 1 = p.l.length - 1 by omega]; exact hv1) ?_
  refine ge ?_
  refine Ev.cakH (by kernel_rfl) rfl rfl (stackTop (sb := sb) (mp := mp) (k := k) p.was hp.w) ?_
  refine ge ?_
  rw [w64 (n := (k.links : Int) + x) (by omega) (by omega), show (k.links : Int) + x = ((k.links + x : Nat) : Int) by omega, wrapS (x := k.top p.was + 1) (by omega) (by omega)]
  refine Ev.caH (by kernel_rfl) rfl rfl (cellsStore (b := mp) (m := m) (k.links + x) (k.top p.was + 1).toNat (by omega) (by omega)) (Pres.deps (by kernel_rfl)) ?_
  rintro v L' ⟨rfl, rfl⟩
  refine ge ?_
  refine go ?_
  refine Sx.ca rfl (machGo (b := b)) ?_
  rintro v L' ⟨rfl, rfl⟩
  refine go ?_
  refine Kr.none (.inl rfl) ?_ rfl
  rw [e]
  refine Ent.trans (PushO.close (a := some ⟨b, 0, none⟩) (r := some ⟨rg, 0, none⟩) (sb := sb) (k := k) _ hok ?_ ?_ rfl rfl rfl) ?_
  · (unfold pushNx pushFn; dsimp only; rw [hd]; (first | rw [if_pos (by omega)] | rw [if_neg (by omega), if_pos (by omega)] | rw [if_neg (by omega), if_neg (by omega), if_pos (by omega)] | rw [if_neg (by omega), if_neg (by omega), if_neg (by omega)]); rfl)
  · rw [show pushI { p with at_ := p.at_ + 1 } = p.l.length - 1 by unfold pushI; dsimp only; omega]
  · exact ent
theorem push_cas_ {b sb mp : Nat} {k : Sk} {m : Mm} {p : PushS} {r : Option Addr} {c : Nat} {cnt : Int} (hm : m.ok) (hk : k.ok m.ws.length) (hp : p.ok k) (ha : p.at_ = p.l.length + 1) (hd : p.done = false) :
    Fx Tryz.prog 201 [.pointer (some ⟨b, 0, none⟩)] (pushF b sb mp k m p r c cnt G) (pushR b sb mp k m p G) := by
  have hok := pushStep_ok (k := k) hm hp
  have hlp := List.length_pos_iff.2 (hp.ne hd)
  have hv1 := itI_some (l := p.l) (i := 0) (by omega)
  have hr1 := hp.g _ (itI_mem (l := p.l) (i := 0) (by omega))
  have e : pushStep k m p = ({ p with at_ := p.l.length - 1, done := decide (m.at_ k.head = p.was) }, m.cas k.head p.was (nextW p.was (itI p.l 0))) := by
    unfold pushStep; rw [hd]; simp only [Bool.false_eq_true, if_false]; rw [if_neg (by omega), if_neg (by omega), if_neg (by omega)]
  rw [e] at hok
  have hI : pushI p = p.l.length - 1 := by unfold pushI; omega
  refine Fx.mk Tryz.func201 k201 (Nat.le_of_ble_eq_true rfl) ?_
  dsimp only [c201, envOf, Nat.reduceAdd]
  unfold pushF
  rw [hI]
  refine Cx.rowkey (a := r) fun hxl hc1 hc2 hkr => ?_
  obtain ⟨rg, rfl⟩ : ∃ g, r = some ⟨g, 0, none⟩ := by
    rcases hkr with h | h
    · omega
    · exact h
  refine go ?_
  refine Cx.ordc rfl (by kernel_rfl) ?_
  refine ge ?_
  refine Ev.ldrH (b := rg) (by kernel_rfl) rfl rfl (v := .int .i64 (itI p.l 0)) hv1 ?_
  refine ge ?_
  refine Ev.caH (by kernel_rfl) rfl rfl (stackExchange (sb := sb) (mp := mp) (k := k) (m := m) p.was (itI p.l 0) hk hp.w (by omega) hr1.2) (Pres.deps (by kernel_rfl)) ?_
  rintro v L' ⟨rfl, rfl⟩
  refine ge ?_
  have hI2 : ∀ d, pushI { p with at_ := p.l.length - 1, done := d } = p.l.length - 1 := fun d => by unfold pushI; dsimp only; omega
  refine Cx.ifn rfl (fun h => ?_) (fun h => ?_)
  · rw [decide_eq_false h] at e hok
    refine go ?_
    refine Sx.ca rfl (machGo (b := b)) ?_
    rintro v L' ⟨rfl, rfl⟩
    refine go ?_
    refine Kr.none (.inl rfl) ?_ rfl
    rw [e]
    refine Ent.trans (PushO.close (a := some ⟨b, 0, none⟩) (r := some ⟨rg, 0, none⟩) (sb := sb) (k := k) _ hok ?_ ?_ rfl rfl rfl) ?_
    · simp [pushNx, pushFn, show ¬ p.l.length - 1 + 1 < p.l.length by omega, show p.l.length - 1 + 1 = p.l.length by omega]
    · rw [hI2]
    · exact ent
  · rw [decide_eq_true h] at e hok
    refine go ?_
    refine Kr.none (.inl rfl) ?_ rfl
    rw [e]
    refine Ent.trans (PushO.close (a := some ⟨b, 0, none⟩) (r := some ⟨rg, 0, none⟩) (sb := sb) (k := k) _ hok ?_ ?_ rfl rfl rfl) ?_
    · simp [pushNx]
    · rw [hI2]
    · exact ent
/-- One access of a Push. -/
theorem pushStepC {b sb mp : Nat} {k : Sk} {m : Mm} {p : PushS} {F1 F2 : St} (hk : k.ok m.ws.length) [tp : Take L (some ⟨b, 0, none⟩) (PushO sb k p) F1] [t : Take F1 (some ⟨mp, 0, none⟩) (MemO m) F2] [s : Take F2 (some ⟨sb, 0, none⟩) (SkO mp k) G] :
    Fx Tryz.prog 136 [.pointer (some ⟨b, 0, none⟩)] L (fun v L' => v = .bool (!p.done) ∧ L' = pt (some ⟨b, 0, none⟩) (PushO sb k (pushStep k m p).1) :: pt (some ⟨mp, 0, none⟩) (MemO (pushStep k m p).2) :: F2) := by
  refine Fx.mk Tryz.func136 k136 (Nat.le_of_ble_eq_true rfl) ?_
  dsimp only [c136, envOf, Nat.reduceAdd]
  refine Cx.ent (Ent.trans (Ent.of tp.out) (Ent.cons (Ent.trans (Ent.of t.out) (Ent.cons (Ent.of s.out))))) ?_
  refine Cx.pure (memKey (b := mp) (m := m)) fun hm => ?_
  refine Cx.openp (a := some ⟨b, 0, none⟩) rfl ?_
  rintro ⟨⟨r, c⟩, cnt⟩
  simp only [pushL, List.cons_append, List.nil_append]
  refine Cx.liftp fun hp => ?_
  cases hd : p.done with
  | true =>
    have e : pushStep k m p = (p, m) := by unfold pushStep; rw [hd]; rfl
    rw [e, show pushNx (some ⟨b, 0, none⟩) p = .nilFunc by simp [pushNx, hd]]
    refine go ?_
    refine Sx.ca rfl (machStepDone (b := b)) ?_
    rintro v L' ⟨rfl, rfl⟩
    refine go ?_
    refine Kr.one (.inr rfl) rfl ?_ ⟨rfl, rfl⟩
    refine Ent.trans (PushO.close (a := some ⟨b, 0, none⟩) (r := r) (sb := sb) (k := k) p hp ?_ rfl rfl rfl rfl) (Ent.cons (Ent.cons (Ent.of s.back)))
    simp [pushNx, hd]
  | false =>
    have hcase := hp.a
    rcases (show p.at_ + 1 < p.l.length ∨ p.at_ + 1 = p.l.length ∨ p.at_ = p.l.length ∨ p.at_ = p.l.length + 1 by omega) with ha | ha | ha | ha
    · rw [show pushNx (some ⟨b, 0, none⟩) p = .func (.func 172) #[.pointer (some ⟨b, 0, none⟩)] #[] by (unfold pushNx pushFn; rw [hd]; (first | rw [if_pos (by omega)] | rw [if_neg (by omega), if_pos (by omega)] | rw [if_neg (by omega), if_neg (by omega), if_pos (by omega)] | rw [if_neg (by omega), if_neg (by omega), if_neg (by omega)]); rfl)]
      refine go ?_
      refine Sx.ca rfl (machStep (b := b) (by kernel_rfl) (push_link_ (G := G) hm.1 hk hp ha hd)) ?_
      rintro v L' ⟨rfl, u, rfl⟩
      refine go ?_
      exact Kr.one (.inr rfl) rfl (Ent.cons (Ent.cons (Ent.of s.back))) ⟨rfl, rfl⟩
    · rw [show pushNx (some ⟨b, 0, none⟩) p = .func (.func 171) #[.pointer (some ⟨b, 0, none⟩)] #[] by (unfold pushNx pushFn; rw [hd]; (first | rw [if_pos (by omega)] | rw [if_neg (by omega), if_pos (by omega)] | rw [if_neg (by omega), if_neg (by omega), if_pos (by omega)] | rw [if_neg (by omega), if_neg (by omega), if_neg (by omega)]); rfl)]
      refine go ?_
      refine Sx.ca rfl (machStep (b := b) (by kernel_rfl) (push_load_ (G := G) hm.1 hk hp ha hd)) ?_
      rintro v L' ⟨rfl, u, rfl⟩
      refine go ?_
      exact Kr.one (.inr rfl) rfl (Ent.cons (Ent.cons (Ent.of s.back))) ⟨rfl, rfl⟩
    · rw [show pushNx (some ⟨b, 0, none⟩) p = .func (.func 193) #[.pointer (some ⟨b, 0, none⟩)] #[] by (unfold pushNx pushFn; rw [hd]; (first | rw [if_pos (by omega)] | rw [if_neg (by omega), if_pos (by omega)] | rw [if_neg (by omega), if_neg (by omega), if_pos (by omega)] | rw [if_neg (by omega), if_neg (by omega), if_neg (by omega)]); rfl)]
      refine go ?_
      refine Sx.ca rfl (machStep (b := b) (by kernel_rfl) (push_last_ (G := G) hm.1 hk hp ha hd)) ?_
      rintro v L' ⟨rfl, u, rfl⟩
      refine go ?_
      exact Kr.one (.inr rfl) rfl (Ent.cons (Ent.cons (Ent.of s.back))) ⟨rfl, rfl⟩
    · rw [show pushNx (some ⟨b, 0, none⟩) p = .func (.func 201) #[.pointer (some ⟨b, 0, none⟩)] #[] by (unfold pushNx pushFn; rw [hd]; (first | rw [if_pos (by omega)] | rw [if_neg (by omega), if_pos (by omega)] | rw [if_neg (by omega), if_neg (by omega), if_pos (by omega)] | rw [if_neg (by omega), if_neg (by omega), if_neg (by omega)]); rfl)]
      refine go ?_
      refine Sx.ca rfl (machStep (b := b) (by kernel_rfl) (push_cas_ (G := G) hm.1 hk hp ha hd)) ?_
      rintro v L' ⟨rfl, u, rfl⟩
      refine go ?_
      exact Kr.one (.inr rfl) rfl (Ent.cons (Ent.cons (Ent.of s.back))) ⟨rfl, rfl⟩
theorem pushDoneC {b sb : Nat} {k : Sk} {p : PushS} {F1 : St} [tp : Take L (some ⟨b, 0, none⟩) (PushO sb k p) F1] : Fx Tryz.prog 137 [.pointer (some ⟨b, 0, none⟩)] L (fun v L' => v = .bool p.done ∧ L = L') := by
  refine Fx.kept (t := tp) ?_
  refine Fx.mk Tryz.func137 k137 (Nat.le_of_ble_eq_true rfl) ?_
  dsimp only [c137, envOf, Nat.reduceAdd]
  refine Cx.openp (t := tp) rfl ?_
  rintro ⟨⟨r, c⟩, cnt⟩
  simp only [pushL, List.cons_append, List.nil_append]
  refine Cx.liftp fun hp => ?_
  cases hd : p.done with
  | true =>
    have e : pushNx (some ⟨b, 0, none⟩) p = .nilFunc := by simp [pushNx, hd]
    rw [e]
    refine go ?_
    refine Sx.ca rfl (machDoneYes (b := b)) ?_
    rintro v L' ⟨rfl, rfl⟩
    refine go ?_
    exact Kr.one (.inr rfl) rfl (PushO.close (a := some ⟨b, 0, none⟩) (r := r) (sb := sb) (k := k) p hp e.symm rfl rfl rfl rfl) ⟨rfl, rfl⟩
  | false =>
    have e : pushNx (some ⟨b, 0, none⟩) p = .func (.func (pushFn p)) #[.pointer (some ⟨b, 0, none⟩)] #[] := by simp [pushNx, hd]
    rw [e]
    refine go ?_
    refine Sx.ca rfl (machDoneNo (b := b)) ?_
    rintro v L' ⟨rfl, rfl⟩
    refine go ?_
    exact Kr.one (.inr rfl) rfl (PushO.close (a := some ⟨b, 0, none⟩) (r := r) (sb := sb) (k := k) p hp e.symm rfl rfl rfl rfl) ⟨rfl, rfl⟩
end
end Go.Proofs.YtnbkjcmmjgkdaaaGreat

/-
  Supplies: a Give is a Push; all, what is over.
-/
set_option linter.unusedVariables false
set_option linter.unusedSimpArgs false
namespace Go.Proofs.YtnbkjcmmjgkdaaaGreat
open Go
attribute [local irreducible] Sx Cx Rx Fx Krg Ksq Kbl Klp Kr
open Classical in
noncomputable def giveInit (k : Sk) (l : List Int) : PushS := if l.Nodup ∧ ∀ x ∈ l, 0 ≤ x ∧ x < k.n then PushS.init l else ⟨l, 0, 0, true⟩
theorem giveInit_yes {k : Sk} {l : List Int} (h : l.Nodup ∧ ∀ x ∈ l, 0 ≤ x ∧ x < k.n) : giveInit k l = PushS.init l := if_pos h
theorem giveInit_no {k : Sk} {l : List Int} (h : ¬ (l.Nodup ∧ ∀ x ∈ l, 0 ≤ x ∧ x < k.n)) : giveInit k l = ⟨l, 0, 0, true⟩ := if_neg h
theorem pushStep_l (k : Sk) (m : Mm) (p : PushS) : (pushStep k m p).1.l = p.l := by
  unfold pushStep
  (repeat' split) <;> rfl
section
variable {L F G : St}
abbrev gvB (b : Nat) (nx n1 n2 n3 : Value) (cnt : Int) (sl : Value) : As := pt (some ⟨b, 0, none⟩) (Blk 206 [nx, n1, n2, n3, .int .i64 cnt, sl])
def giveDL (T : TypeId) (a : Option Addr) (y : Value × Value × Value × Int × Value) : St := [pt a (Blk T [.nilFunc, y.1, y.2.1, y.2.2.1, .int .i64 y.2.2.2.1, y.2.2.2.2])]
def givePL (T : TypeId) (pb : Nat) (k : Sk) (p : PushS) (a : Option Addr) (y : Nat × Int × (Option Addr × Nat)) : St :=
  [pt a (Blk T [.func (.func 183) #[.pointer a] #[], mth 136 y.1, mth 137 y.1, .func (.func 138) #[.pointer a] #[], .int .i64 y.2.1, .slice y.2.2.1 p.l.length y.2.2.2]),
   pt (some ⟨y.1, 0, none⟩) (PushO pb k p), pt y.2.2.1 (Row 3 1 p.l.length y.2.2.2 (ints p.l))]
def GiveT (T : TypeId) (pb : Nat) (k : Sk) (p : PushS) (a : Option Addr) : As := bif p.done then exs (giveDL T a) else exs (givePL T pb k p a)
abbrev GiveO := GiveT 206
theorem GiveO.d {T : TypeId} {pb : Nat} {k : Sk} {p : PushS} {a : Option Addr} (h : p.done = true) : GiveT T pb k p a = exs (giveDL T a) := by unfold GiveT; rw [h]; rfl
theorem GiveO.p {T : TypeId} {pb : Nat} {k : Sk} {p : PushS} {a : Option Addr} (h : p.done = false) : GiveT T pb k p a = exs (givePL T pb k p a) := by unfold GiveT; rw [h]; rfl
theorem GiveO.closeD {b pb : Nat} {k : Sk} (p : PushS) (h : p.done = true) {n1 n2 n3 sl : Value} {cnt : Int} : Ent (gvB b .nilFunc n1 n2 n3 cnt sl :: G) (pt (some ⟨b, 0, none⟩) (GiveO pb k p) :: G) :=
  Ent.close (f := giveDL 206 (some ⟨b, 0, none⟩)) (GiveO.d h) (n1, n2, n3, cnt, sl)
theorem GiveO.closeP {b pb g : Nat} {k : Sk} {r : Option Addr} {c n : Nat} {vs : List Value} {q : PushS} (p : PushS) (h : p.done = false) {cnt : Int} (hq : q = p) (hn : n = p.l.length) (hv : vs = ints p.l) :
    Ent (gvB b (mth 183 b) (mth 136 g) (mth 137 g) (mth 138 b) cnt (.slice r n c) :: pt (some ⟨g, 0, none⟩) (PushO pb k q) :: pt r (Row 3 1 n c vs) :: G) (pt (some ⟨b, 0, none⟩) (GiveO pb k p) :: G) := by
  subst hq; subst hn; subst hv
  exact Ent.close (f := givePL 206 pb k q (some ⟨b, 0, none⟩)) (GiveO.p h) (g, cnt, r, c)
theorem giveEnd {v : Value} : Fx Tryz.prog 138 [v] L (fun v L' => v = .tuple #[] ∧ L = L') := by
  refine Fx.mk Tryz.func138 k138 (Nat.le_of_ble_eq_true rfl) ?_
  dsimp only [c138, envOf, Nat.reduceAdd]
  refine Cx.sk ?_
  exact Kr.none (.inl rfl) (Ent.refl _) ⟨rfl, rfl⟩
theorem supGive {u mp pb : Nat} {x : Cn} {s : SupS} {l : List Int} {r : Option Addr} {n c : Nat} {F : St} (hl : n = l.length) (hn : n ≤ 1000000000) [t : Take L (some ⟨u, 0, none⟩) (SupO mp pb x s) F] [tr : Take F r (Row 3 1 n c (ints l)) G] {F3 : St} [tb : Take G (some ⟨pb, 0, none⟩) (SkO mp x.pool) F3] :
    Fx Tryz.prog 75 [.pointer (some ⟨u, 0, none⟩), .slice r n c] L (fun v L' => ∃ b, v = .pointer (some ⟨b, 0, none⟩) ∧ L' = pt (some ⟨b, 0, none⟩) (GiveO pb x.pool (giveInit x.pool l)) :: pt (some ⟨u, 0, none⟩) (SupO mp pb x s) :: G) := by
  subst hl
  refine Fx.mk Tryz.func75 k75 (Nat.le_of_ble_eq_true rfl) ?_
  dsimp only [c75, envOf, Nat.reduceAdd]
  refine Cx.ent (Ent.trans (Ent.of t.out) (Ent.cons (Ent.of tr.out))) ?_
  refine Cx.openp (a := some ⟨u, 0, none⟩) rfl ?_
  rintro ⟨sh, lm⟩
  simp only [supL, List.cons_append, List.nil_append]
  refine Cx.rowkey (a := r) fun hxl hc1 _ hkr => ?_
  refine go ?_
  refine Sx.bx rfl rfl fun b => ?_
  refine go ?_
  refine Sx.ca rfl (stackPush (sb := pb) (mp := mp) (k := x.pool) (l := l) (Rd.any (a := r) hxl (hkr.imp (fun h => h.2.1) id)) hc1 hn) ?_
  rintro v L' (⟨hno, rfl, rfl⟩ | ⟨hyes, g, rfl, rfl⟩)
  · rw [giveInit_no hno]
    refine go ?_
    refine Kr.one (.inr rfl) rfl ?_ ⟨b, rfl, rfl⟩
    refine Ent.trans (GiveO.closeD ⟨l, 0, 0, true⟩ rfl) (Ent.cons ?_)
    refine Ent.trans (SupO.close (a := some ⟨u, 0, none⟩) (sh := sh) (lm := lm) (mp := mp) (pb := pb) (x := x) s rfl rfl rfl) (Ent.cons ?_)
    exact ent
  · rw [giveInit_yes hyes]
    refine go ?_
    by_cases hl0 : l = []
    · have hd : (PushS.init l).done = true := by simp [PushS.init, hl0]
      refine Sx.ca rfl (machThrough (b := b) (machOnYes (b := b) (by kernel_rfl) ((pushDoneC (b := g) (sb := pb) (k := x.pool) (p := PushS.init l)).mono (by rintro v L' ⟨rfl, rfl⟩; exact ⟨by rw [hd], rfl⟩)) (by kernel_rfl) giveEnd)) ?_
      rintro v L' ⟨rfl, w, rfl, w2, rfl, rfl⟩
      refine go ?_
      refine Kr.one (.inr rfl) rfl ?_ ⟨b, rfl, rfl⟩
      refine Ent.trans (GiveO.closeD (PushS.init l) hd) (Ent.cons ?_)
      refine Ent.trans Ent.drop ?_
      refine Ent.trans (SupO.close (a := some ⟨u, 0, none⟩) (sh := sh) (lm := lm) (mp := mp) (pb := pb) (x := x) s rfl rfl rfl) (Ent.cons ?_)
      exact ent
    · have hd : (PushS.init l).done = false := by simp [PushS.init, hl0]
      refine Sx.ca rfl (machThrough (b := b) (machOnNo (b := b) (by kernel_rfl) ((pushDoneC (b := g) (sb := pb) (k := x.pool) (p := PushS.init l)).mono (by rintro v L' ⟨rfl, rfl⟩; exact ⟨by rw [hd], rfl⟩)))) ?_
      rintro v L' ⟨rfl, w, rfl, rfl⟩
      refine go ?_
      refine Kr.one (.inr rfl) rfl ?_ ⟨b, rfl, rfl⟩
      refine Ent.trans (Ent.cons (Ent.cons (Ent.take (a := r)))) ?_
      refine Ent.trans (GiveO.closeP (PushS.init l) hd rfl rfl rfl) (Ent.cons ?_)
      refine Ent.trans (SupO.close (a := some ⟨u, 0, none⟩) (sh := sh) (lm := lm) (mp := mp) (pb := pb) (x := x) s rfl rfl rfl) (Ent.cons ?_)
      exact ent
/-- All that is in the stash. -/
theorem supAll {u mp pb : Nat} {x : Cn} {s : SupS} {F : St} (hn : s.xs.length ≤ 1000000000) [t : Take L (some ⟨u, 0, none⟩) (SupO mp pb x s) F] {F3 : St} [tb : Take F (some ⟨pb, 0, none⟩) (SkO mp x.pool) F3] :
    Fx Tryz.prog 24 [.pointer (some ⟨u, 0, none⟩)] L (fun v L' => ∃ b, v = .pointer (some ⟨b, 0, none⟩) ∧ L' = pt (some ⟨b, 0, none⟩) (GiveO pb x.pool (giveInit x.pool s.xs)) :: pt (some ⟨u, 0, none⟩) (SupO mp pb x { s with xs := [] }) :: F) := by
  refine Fx.mk Tryz.func24 k24 (Nat.le_of_ble_eq_true rfl) ?_
  dsimp only [c24, envOf, Nat.reduceAdd]
  refine Cx.ent (Ent.of t.out) ?_
  refine Cx.openp (a := some ⟨u, 0, none⟩) rfl ?_
  rintro ⟨sh, lm⟩
  simp only [supL, List.cons_append, List.nil_append]
  refine go ?_
  refine Sx.ca rfl (stashAll (b := sh) (most := s.most) (xs := s.xs) hn) ?_
  rintro v L' ⟨r, c, rfl, rfl⟩
  refine Sx.ent (Ent.trans (Ent.cons (SupO.close (a := some ⟨u, 0, none⟩) (sh := sh) (lm := lm) (mp := mp) (pb := pb) (x := x) { s with xs := [] } rfl rfl rfl)) Ent.swap) ?_
  refine go ?_
  refine Sx.ca rfl (supGive (u := u) (mp := mp) (pb := pb) (x := x) (s := { s with xs := [] }) (l := s.xs) (r := r) rfl hn) ?_
  rintro v L' ⟨b, rfl, rfl⟩
  refine go ?_
  exact Kr.one (.inr rfl) rfl (Ent.refl _) ⟨b, rfl, rfl⟩
/-- One access of a Give. -/
theorem giveStep {b mp pb : Nat} {k : Sk} {m : Mm} {p : PushS} {F1 F2 : St} (hk : k.ok m.ws.length) [t1 : Take L (some ⟨b, 0, none⟩) (GiveO pb k p) F1] [t2 : Take F1 (some ⟨mp, 0, none⟩) (MemO m) F2] [t3 : Take F2 (some ⟨pb, 0, none⟩) (SkO mp k) G] :
    Fx Tryz.prog 74 [.pointer (some ⟨b, 0, none⟩)] L (fun v L' => v = .bool (!p.done) ∧ L' = pt (some ⟨b, 0, none⟩) (GiveO pb k (pushStep k m p).1) :: pt (some ⟨mp, 0, none⟩) (MemO (pushStep k m p).2) :: F2) := by
  refine Fx.mk Tryz.func74 k74 (Nat.le_of_ble_eq_true rfl) ?_
  dsimp only [c74, envOf, Nat.reduceAdd]
  refine Cx.ent (Ent.trans (Ent.of t1.out) (Ent.cons (Ent.trans (Ent.of t2.out) (Ent.cons (Ent.of t3.out))))) ?_
  cases hd : p.done with
  | true =>
    have e : pushStep k m p = (p, m) := by unfold pushStep; rw [hd]; rfl
    rw [e]
    refine Cx.openp (a := some ⟨b, 0, none⟩) (GiveO.d hd) ?_
    rintro ⟨n1, n2, n3, cnt, sl⟩
    simp only [giveDL, List.cons_append, List.nil_append]
    refine go ?_
    refine Sx.ca rfl (machStepDone (b := b)) ?_
    rintro v L' ⟨rfl, rfl⟩
    refine go ?_
    exact Kr.one (.inr rfl) rfl (Ent.trans (GiveO.closeD p hd) (Ent.cons (Ent.cons (Ent.of t3.back)))) ⟨rfl, rfl⟩
  | false =>
    refine Cx.openp (a := some ⟨b, 0, none⟩) (GiveO.p hd) ?_
    rintro ⟨g, cnt, r, c⟩
    simp only [givePL, List.cons_append, List.nil_append]
    have hpl := pushStep_l k m p
    cases hq : (pushStep k m p).1.done with
    | true =>
      refine go ?_
      refine Sx.ca rfl (machStep (b := b) (by kernel_rfl) (machGoes (b := b) (by kernel_rfl) (pushStepC (b := g) (mp := mp) (sb := pb) (k := k) (m := m) (p := p) hk) (R2 := fun v L' => v = .tuple #[] ∧ ∃ w : Value, w = .tuple #[] ∧ pt (some ⟨g, 0, none⟩) (PushO pb k (pushStep k m p).1) :: pt (some ⟨mp, 0, none⟩) (MemO (pushStep k m p).2) :: gvB b .nilFunc (mth 136 g) (mth 137 g) (mth 138 b) (IntKind.i64.wrap (cnt + 1)) (.slice r p.l.length c) :: pt r (Row 3 1 p.l.length c (ints p.l)) :: pt (some ⟨pb, 0, none⟩) (SkO mp k) :: G = L') ?_)) ?_
      · rintro v L1 ⟨rfl, rfl⟩
        exact machOnYes (b := b) (by kernel_rfl) ((pushDoneC (b := g) (sb := pb) (k := k) (p := (pushStep k m p).1)).mono (by rintro v L' ⟨rfl, rfl⟩; exact ⟨by rw [hq], rfl⟩)) (by kernel_rfl) giveEnd
      · rintro v L' ⟨rfl, w, rfl, w2, _, w3, _, rfl⟩
        refine go ?_
        refine Kr.one (.inr rfl) rfl ?_ ⟨rfl, rfl⟩
        refine Ent.trans (Ent.take (a := some ⟨b, 0, none⟩)) ?_
        refine Ent.trans (GiveO.closeD (pushStep k m p).1 hq) (Ent.cons ?_)
        refine Ent.trans (Ent.take (a := some ⟨mp, 0, none⟩)) (Ent.cons ?_)
        refine Ent.trans ?_ (Ent.of t3.back)
        exact ent
    | false =>
      refine go ?_
      refine Sx.ca rfl (machStep (b := b) (by kernel_rfl) (machGoes (b := b) (by kernel_rfl) (pushStepC (b := g) (mp := mp) (sb := pb) (k := k) (m := m) (p := p) hk) (R2 := fun v L' => v = .tuple #[] ∧ L' = gvB b (mth 183 b) (mth 136 g) (mth 137 g) (mth 138 b) (IntKind.i64.wrap (cnt + 1)) (.slice r p.l.length c) ::
          pt (some ⟨g, 0, none⟩) (PushO pb k (pushStep k m p).1) :: pt (some ⟨mp, 0, none⟩) (MemO (pushStep k m p).2) :: pt r (Row 3 1 p.l.length c (ints p.l)) :: pt (some ⟨pb, 0, none⟩) (SkO mp k) :: G) ?_)) ?_
      · rintro v L1 ⟨rfl, rfl⟩
        refine (machOnNo (b := b) (by kernel_rfl) ((pushDoneC (b := g) (sb := pb) (k := k) (p := (pushStep k m p).1)).mono (by rintro v L' ⟨rfl, rfl⟩; exact ⟨by rw [hq], rfl⟩))).mono ?_
        rintro v L' ⟨rfl, rfl⟩
        exact ⟨rfl, rfl⟩
      · rintro v L' ⟨rfl, w, _, w2, _, rfl⟩
        refine go ?_
        refine Kr.one (.inr rfl) rfl ?_ ⟨rfl, rfl⟩
        refine Ent.trans (Ent.cons (Ent.cons (Ent.take (a := r)))) ?_
        refine Ent.trans (GiveO.closeP (pushStep k m p).1 hq rfl (by rw [hpl]) (by rw [hpl])) (Ent.cons ?_)
        refine Ent.cons ?_
        exact Ent.of t3.back
theorem giveDone {b pb : Nat} {k : Sk} {p : PushS} {F1 : St} [t1 : Take L (some ⟨b, 0, none⟩) (GiveO pb k p) F1] : Fx Tryz.prog 146 [.pointer (some ⟨b, 0, none⟩)] L (fun v L' => v = .bool p.done ∧ L = L') := by
  refine Fx.kept (t := t1) ?_
  refine Fx.mk Tryz.func146 k146 (Nat.le_of_ble_eq_true rfl) ?_
  dsimp only [c146, envOf, Nat.reduceAdd]
  refine Cx.ent (Ent.of t1.out) ?_
  cases hd : p.done with
  | true =>
    refine Cx.openp (a := some ⟨b, 0, none⟩) (GiveO.d hd) ?_
    rintro ⟨n1, n2, n3, cnt, sl⟩
    simp only [giveDL, List.cons_append, List.nil_append]
    refine go ?_
    refine Sx.ca rfl (machDoneYes (b := b)) ?_
    rintro v L' ⟨rfl, rfl⟩
    refine go ?_
    exact Kr.one (.inr rfl) rfl (GiveO.closeD p hd) ⟨rfl, rfl⟩
  | false =>
    refine Cx.openp (a := some ⟨b, 0, none⟩) (GiveO.p hd) ?_
    rintro ⟨g, cnt, r, c⟩
    simp only [givePL, List.cons_append, List.nil_append]
    refine go ?_
    refine Sx.ca rfl (machDoneNo (b := b)) ?_
    rintro v L' ⟨rfl, rfl⟩
    refine go ?_
    exact Kr.one (.inr rfl) rfl (GiveO.closeP p hd rfl rfl rfl) ⟨rfl, rfl⟩
end
end Go.Proofs.YtnbkjcmmjgkdaaaGreat

/-
  A Collect, one access at a time.
-/
set_option linter.unusedVariables false
set_option linter.unusedSimpArgs false
namespace Go.Proofs.YtnbkjcmmjgkdaaaGreat
/-- A Collect: at: 0: the Advance, 1: the Load of the epoch, 2: the Give. -/
structure ColS where
  at_ : Nat
  a : AdvS
  g : PushS
  done : Bool
def ColS.init : ColS := ⟨0, AdvS.init, ⟨[], 0, 0, true⟩, false⟩
noncomputable def colStep (k : Sk) (n : Nat) (m : Mm) (s : SupS) (c : ColS) : Mm × SupS × ColS :=
  if c.done then (m, s, c) else
  match c.at_ with
  | 0 => ((advStep n m c.a).2, s, { c with a := (advStep n m c.a).1, at_ := if (advStep n m c.a).1.done then 1 else 0 })
  | 1 => (m.tick, { s.ready (cutE (m.at_ 2)) with xs := [] }, { c with at_ := 2, g := giveInit k (s.ready (cutE (m.at_ 2))).xs, done := (giveInit k (s.ready (cutE (m.at_ 2))).xs).done })
  | _ => ((pushStep k m c.g).2, s, { c with g := (pushStep k m c.g).1, done := (pushStep k m c.g).1.done })
noncomputable def colIt (k : Sk) (n : Nat) : Nat → Mm × SupS × ColS → Mm × SupS × ColS
  | 0, r => r
  | j + 1, r => colStep k n (colIt k n j r).1 (colIt k n j r).2.1 (colIt k n j r).2.2
end Go.Proofs.YtnbkjcmmjgkdaaaGreat

/-
  gather: a Collect is made.
-/
set_option linter.unusedVariables false
set_option linter.unusedSimpArgs false
namespace Go.Proofs.YtnbkjcmmjgkdaaaGreat
open Go
attribute [local irreducible] Sx Cx Rx Fx Krg Ksq Kbl Klp Kr
section
variable {L F G : St}
abbrev coB (b g u : Nat) (nx n1 n2 n3 : Value) (cnt : Int) (ap gp : Value) : As := pt (some ⟨b, 0, none⟩) (Blk 166 [nx, n1, n2, n3, .int .i64 cnt, .pointer (some ⟨g, 0, none⟩), .pointer (some ⟨u, 0, none⟩), ap, gp])
def colAL (T : TypeId) (g u e : Nat) (x : Cn) (c : ColS) (a : Option Addr) (y : Nat × Int) : St :=
  [pt a (Blk T [.func (.func 183) #[.pointer a] #[], mth 103 y.1, mth 104 y.1, .func (.func 105) #[.pointer a] #[], .int .i64 y.2, .pointer (some ⟨g, 0, none⟩), .pointer (some ⟨u, 0, none⟩), .pointer (some ⟨y.1, 0, none⟩), .pointer none]),
   pt (some ⟨y.1, 0, none⟩) (AdvO e x c.a)]
def colBL (T : TypeId) (g u e : Nat) (x : Cn) (c : ColS) (a : Option Addr) (y : Nat × Value × Value × Value × Int) : St :=
  [pt a (Blk T [.func (.func 158) #[.pointer a] #[], y.2.1, y.2.2.1, y.2.2.2.1, .int .i64 y.2.2.2.2, .pointer (some ⟨g, 0, none⟩), .pointer (some ⟨u, 0, none⟩), .pointer (some ⟨y.1, 0, none⟩), .pointer none]),
   pt (some ⟨y.1, 0, none⟩) (AdvO e x c.a)]
def colCL (T : TypeId) (g u e pb : Nat) (x : Cn) (c : ColS) (a : Option Addr) (y : Nat × Nat × Int) : St :=
  [pt a (Blk T [.func (.func 183) #[.pointer a] #[], mth 74 y.2.1, mth 146 y.2.1, .func (.func 184) #[.pointer a] #[], .int .i64 y.2.2, .pointer (some ⟨g, 0, none⟩), .pointer (some ⟨u, 0, none⟩), .pointer (some ⟨y.1, 0, none⟩), .pointer (some ⟨y.2.1, 0, none⟩)]),
   pt (some ⟨y.1, 0, none⟩) (AdvO e x c.a), pt (some ⟨y.2.1, 0, none⟩) (GiveO pb x.pool c.g)]
def colDL (T : TypeId) (g u e pb : Nat) (x : Cn) (c : ColS) (a : Option Addr) (y : Nat × Nat × Value × Value × Value × Int) : St :=
  [pt a (Blk T [.nilFunc, y.2.2.1, y.2.2.2.1, y.2.2.2.2.1, .int .i64 y.2.2.2.2.2, .pointer (some ⟨g, 0, none⟩), .pointer (some ⟨u, 0, none⟩), .pointer (some ⟨y.1, 0, none⟩), .pointer (some ⟨y.2.1, 0, none⟩)]),
   pt (some ⟨y.1, 0, none⟩) (AdvO e x c.a), pt (some ⟨y.2.1, 0, none⟩) (GiveO pb x.pool c.g)]
def ColT (T : TypeId) (g u e pb : Nat) (x : Cn) (c : ColS) (a : Option Addr) : As := bif c.done then exs (colDL T g u e pb x c a) else match c.at_ with
  | 0 => exs (colAL T g u e x c a) | 1 => exs (colBL T g u e x c a) | _ => exs (colCL T g u e pb x c a)
abbrev ColO := ColT 166
theorem ColO.a {T : TypeId} {g u e pb : Nat} {x : Cn} {c : ColS} {a : Option Addr} (h : c.done = false) (h0 : c.at_ = 0) : ColT T g u e pb x c a = exs (colAL T g u e x c a) := by unfold ColT; rw [h, h0]; rfl
theorem ColO.b {T : TypeId} {g u e pb : Nat} {x : Cn} {c : ColS} {a : Option Addr} (h : c.done = false) (h0 : c.at_ = 1) : ColT T g u e pb x c a = exs (colBL T g u e x c a) := by unfold ColT; rw [h, h0]; rfl
theorem ColO.c {T : TypeId} {g u e pb : Nat} {x : Cn} {c : ColS} {a : Option Addr} (h : c.done = false) (h0 : c.at_ = 2) : ColT T g u e pb x c a = exs (colCL T g u e pb x c a) := by unfold ColT; rw [h, h0]; rfl
theorem ColO.d {T : TypeId} {g u e pb : Nat} {x : Cn} {c : ColS} {a : Option Addr} (h : c.done = true) : ColT T g u e pb x c a = exs (colDL T g u e pb x c a) := by unfold ColT; rw [h]; rfl
theorem ColO.closeA {b g u e pb q : Nat} {x : Cn} {cnt : Int} {s : AdvS} (c : ColS) (h : c.done = false) (h0 : c.at_ = 0) (hs : s = c.a) :
    Ent (coB b g u (mth 183 b) (mth 103 q) (mth 104 q) (mth 105 b) cnt (.pointer (some ⟨q, 0, none⟩)) (.pointer none) :: pt (some ⟨q, 0, none⟩) (AdvO e x s) :: G) (pt (some ⟨b, 0, none⟩) (ColO g u e pb x c) :: G) := by
  subst hs
  exact Ent.close (f := colAL 166 g u e x c (some ⟨b, 0, none⟩)) (ColO.a h h0) (q, cnt)
theorem gatherCollect {g u e mp pb : Nat} {x : Cn} {F1 : St} [t1 : Take L (some ⟨g, 0, none⟩) (GaO mp e) F1] :
    Fx Tryz.prog 39 [.pointer (some ⟨g, 0, none⟩), .pointer (some ⟨u, 0, none⟩)] L (fun v L' => ∃ b, v = .pointer (some ⟨b, 0, none⟩) ∧ L' = pt (some ⟨b, 0, none⟩) (ColO g u e pb x ColS.init) :: L) := by
  refine Fx.mk Tryz.func39 k39 (Nat.le_of_ble_eq_true rfl) ?_
  dsimp only [c39, envOf, Nat.reduceAdd]
  refine go ?_
  refine Sx.ca rfl (epochAdvance (e := e) (x := x)) ?_
  rintro v L' ⟨q, rfl, rfl⟩
  refine go ?_
  refine Sx.bx rfl rfl fun b => ?_
  refine go ?_
  refine Cx.ordc rfl (by kernel_rfl) ?_
  refine ge ?_
  refine Ev.caH (by kernel_rfl) rfl rfl (machThrough (b := b) (machOnNo (b := b) (by kernel_rfl) (advDoneC (b := q) (e := e) (x := x) (s := AdvS.init)))) (Pres.deps (by kernel_rfl)) ?_
  rintro v L' ⟨rfl, w, rfl, rfl⟩
  refine ge ?_
  refine go ?_
  exact Kr.one (.inr rfl) rfl (ColO.closeA ColS.init rfl rfl rfl) ⟨b, rfl, rfl⟩
end
end Go.Proofs.YtnbkjcmmjgkdaaaGreat

/-
  gather: a Collect's accesses.
-/
set_option linter.unusedVariables false
set_option linter.unusedSimpArgs false
namespace Go.Proofs.YtnbkjcmmjgkdaaaGreat
open Go
attribute [local irreducible] Sx Cx Rx Fx Krg Ksq Kbl Klp Kr
section
variable {L F G : St}
theorem ColO.closeB {b g u e pb q : Nat} {x : Cn} {n1 n2 n3 : Value} {cnt : Int} {s : AdvS} (c : ColS) (h : c.done = false) (h0 : c.at_ = 1) (hs : s = c.a) :
    Ent (coB b g u (mth 158 b) n1 n2 n3 cnt (.pointer (some ⟨q, 0, none⟩)) (.pointer none) :: pt (some ⟨q, 0, none⟩) (AdvO e x s) :: G) (pt (some ⟨b, 0, none⟩) (ColO g u e pb x c) :: G) := by
  subst hs
  exact Ent.close (f := colBL 166 g u e x c (some ⟨b, 0, none⟩)) (ColO.b h h0) (q, n1, n2, n3, cnt)
theorem ColO.closeC {b g u e pb q r : Nat} {x : Cn} {cnt : Int} {s : AdvS} {p : PushS} (c : ColS) (h : c.done = false) (h0 : c.at_ = 2) (hs : s = c.a) (hp : p = c.g) :
    Ent (coB b g u (mth 183 b) (mth 74 r) (mth 146 r) (mth 184 b) cnt (.pointer (some ⟨q, 0, none⟩)) (.pointer (some ⟨r, 0, none⟩)) :: pt (some ⟨q, 0, none⟩) (AdvO e x s) :: pt (some ⟨r, 0, none⟩) (GiveO pb x.pool p) :: G) (pt (some ⟨b, 0, none⟩) (ColO g u e pb x c) :: G) := by
  subst hs; subst hp
  exact Ent.close (f := colCL 166 g u e pb x c (some ⟨b, 0, none⟩)) (ColO.c h h0) (q, r, cnt)
theorem ColO.closeD {b g u e pb q r : Nat} {x : Cn} {n1 n2 n3 : Value} {cnt : Int} {s : AdvS} {p : PushS} (c : ColS) (h : c.done = true) (hs : s = c.a) (hp : p = c.g) :
    Ent (coB b g u .nilFunc n1 n2 n3 cnt (.pointer (some ⟨q, 0, none⟩)) (.pointer (some ⟨r, 0, none⟩)) :: pt (some ⟨q, 0, none⟩) (AdvO e x s) :: pt (some ⟨r, 0, none⟩) (GiveO pb x.pool p) :: G) (pt (some ⟨b, 0, none⟩) (ColO g u e pb x c) :: G) := by
  subst hs; subst hp
  exact Ent.close (f := colDL 166 g u e pb x c (some ⟨b, 0, none⟩)) (ColO.d h) (q, r, n1, n2, n3, cnt)
theorem colAdvanced {b : Nat} {T : TypeId} {nx : Value} {rest : List Value} {F : St} [t : Take L (some ⟨b, 0, none⟩) (Blk T (nx :: rest)) F] :
    Fx Tryz.prog 105 [.pointer (some ⟨b, 0, none⟩)] L (fun v L' => v = .tuple #[] ∧ L' = pt (some ⟨b, 0, none⟩) (Blk T (mth 158 b :: rest)) :: F) := by
  refine Fx.mk Tryz.func105 k105 (Nat.le_of_ble_eq_true rfl) ?_
  dsimp only [c105, envOf, Nat.reduceAdd]
  refine go ?_
  refine Sx.ca rfl (machGo (b := b)) ?_
  rintro v L' ⟨rfl, rfl⟩
  refine go ?_
  exact Kr.none (.inl rfl) (Ent.refl _) ⟨rfl, rfl⟩
theorem colOver {v : Value} : Fx Tryz.prog 184 [v] L (fun v L' => v = .tuple #[] ∧ L = L') := by
  refine Fx.mk Tryz.func184 k184 (Nat.le_of_ble_eq_true rfl) ?_
  dsimp only [c184, envOf, Nat.reduceAdd]
  refine Cx.sk ?_
  exact Kr.none (.inl rfl) (Ent.refl _) ⟨rfl, rfl⟩
set_option maxHeartbeats 2000000 in
theorem colLook {b g u e mp pb q : Nat} {x : Cn} {s : SupS} {m : Mm} {c : ColS} {n1 n2 n3 : Value} {cnt : Int} (hx : x.ok) (hm : m.ok) (hl : x.len ≤ m.ws.length) (hb : s.xs.length + s.lm.size ≤ 1000000) (hd : c.done = false) (h0 : c.at_ = 1) :
    Fx Tryz.prog 158 [.pointer (some ⟨b, 0, none⟩)] (coB b g u .nilFunc n1 n2 n3 cnt (.pointer (some ⟨q, 0, none⟩)) (.pointer none) :: pt (some ⟨q, 0, none⟩) (AdvO e x c.a) :: pt (some ⟨u, 0, none⟩) (SupO mp pb x s) :: pt (some ⟨mp, 0, none⟩) (MemO m) :: pt (some ⟨pb, 0, none⟩) (SkO mp x.pool) :: pt (some ⟨g, 0, none⟩) (GaO mp e) :: G)
      (fun v L' => L' = pt (some ⟨b, 0, none⟩) (ColO g u e pb x (colStep x.pool x.w m s c).2.2) :: pt (some ⟨u, 0, none⟩) (SupO mp pb x (colStep x.pool x.w m s c).2.1) :: pt (some ⟨mp, 0, none⟩) (MemO (colStep x.pool x.w m s c).1) :: pt (some ⟨pb, 0, none⟩) (SkO mp x.pool) :: pt (some ⟨g, 0, none⟩) (GaO mp e) :: G) := by
  have hl3 : 3 ≤ x.len := by unfold Cn.len; omega
  have hlt := Mm.at_lt hm 2
  have hz := size_ready (cutE (m.at_ 2)) s.lm
  have hrl : (s.ready (cutE (m.at_ 2))).xs.length ≤ 1000000 := by show (s.xs ++ (readyAll (cutE (m.at_ 2)) s.lm).1).length ≤ _; rw [List.length_append]; omega
  have e1 : colStep x.pool x.w m s c = (m.tick, { s.ready (cutE (m.at_ 2)) with xs := [] }, { c with at_ := 2, g := giveInit x.pool (s.ready (cutE (m.at_ 2))).xs, done := (giveInit x.pool (s.ready (cutE (m.at_ 2))).xs).done }) := by unfold colStep; rw [hd, h0]; rfl
  rw [e1]
  refine Fx.mk Tryz.func158 k158 (Nat.le_of_ble_eq_true rfl) ?_
  dsimp only [c158, envOf, Nat.reduceAdd]
  refine go ?_
  refine Sx.ca rfl (cellsLoad (b := mp) (m := m) 2 (by omega)) ?_
  rintro v L' ⟨rfl, rfl⟩
  refine go ?_
  refine Cx.ordc rfl (by kernel_rfl) ?_
  refine ge ?_
  refine Ev.cakH (by kernel_rfl) rfl rfl (epochCut (m.at_ 2) hlt) ?_
  refine ge ?_
  refine Ev.caH (by kernel_rfl) rfl rfl (supReady (u := u) (mp := mp) (pb := pb) (x := x) (s := s) (now := cutE (m.at_ 2)) (by omega) (by omega) (by unfold cutE; omega)) (Pres.deps (by kernel_rfl)) ?_
  rintro v L' ⟨rfl, rfl⟩
  refine ge ?_
  refine go ?_
  refine Sx.ca rfl (supAll (u := u) (mp := mp) (pb := pb) (x := x) (s := s.ready (cutE (m.at_ 2))) (by omega)) ?_
  rintro v L' ⟨r, rfl, rfl⟩
  refine go ?_
  refine Cx.orde rfl (by kernel_rfl) ?_
  refine ge ?_
  cases hg : (giveInit x.pool (s.ready (cutE (m.at_ 2))).xs).done with
  | true =>
    refine Ev.caH (by kernel_rfl) rfl rfl (machThrough (b := b) (machOnYes (b := b) (by kernel_rfl) ((giveDone (b := r) (pb := pb) (k := x.pool) (p := giveInit x.pool (s.ready (cutE (m.at_ 2))).xs)).mono (by rintro v L' ⟨rfl, rfl⟩; exact ⟨by rw [hg], rfl⟩)) (by kernel_rfl) colOver)) (Pres.deps (by kernel_rfl)) ?_
    rintro v L' ⟨rfl, w, rfl, w2, rfl, rfl⟩
    refine ge ?_
    refine go ?_
    refine Kr.none (.inl rfl) ?_ rfl
    refine Ent.trans (Ent.cons (Ent.take (a := some ⟨q, 0, none⟩))) ?_
    refine Ent.trans (Ent.cons (Ent.cons (Ent.take (a := some ⟨r, 0, none⟩)))) ?_
    refine Ent.trans (ColO.closeD { c with at_ := 2, g := giveInit x.pool (s.ready (cutE (m.at_ 2))).xs, done := true } rfl rfl rfl) (Ent.cons ?_)
    exact ent
  | false =>
    refine Ev.caH (by kernel_rfl) rfl rfl (machThrough (b := b) (machOnNo (b := b) (by kernel_rfl) ((giveDone (b := r) (pb := pb) (k := x.pool) (p := giveInit x.pool (s.ready (cutE (m.at_ 2))).xs)).mono (by rintro v L' ⟨rfl, rfl⟩; exact ⟨by rw [hg], rfl⟩)))) (Pres.deps (by kernel_rfl)) ?_
    rintro v L' ⟨rfl, w, rfl, rfl⟩
    refine ge ?_
    refine go ?_
    refine Kr.none (.inl rfl) ?_ rfl
    refine Ent.trans (Ent.cons (Ent.take (a := some ⟨q, 0, none⟩))) ?_
    refine Ent.trans (Ent.cons (Ent.cons (Ent.take (a := some ⟨r, 0, none⟩)))) ?_
    refine Ent.trans (ColO.closeC { c with at_ := 2, g := giveInit x.pool (s.ready (cutE (m.at_ 2))).xs, done := false } rfl rfl rfl rfl) (Ent.cons ?_)
    exact ent
theorem giveHandDone {b pb : Nat} {k : Sk} {p : PushS} {F1 : St} (hd : p.done = true) [t1 : Take L (some ⟨b, 0, none⟩) (GiveO pb k p) F1] : Fx Tryz.prog 99 [.pointer (some ⟨b, 0, none⟩)] L (fun v L' => v = .slice none 0 0 ∧ L = L') := by
  refine Fx.mk Tryz.func99 k99 (Nat.le_of_ble_eq_true rfl) ?_
  dsimp only [c99, envOf, Nat.reduceAdd]
  refine go ?_
  refine Sx.ca rfl (giveDone (b := b) (pb := pb) (k := k) (p := p)) ?_
  rintro v L' ⟨rfl, rfl⟩
  rw [hd]
  refine go ?_
  exact Kr.one (.inr rfl) rfl (Ent.refl _) ⟨rfl, rfl⟩
/-- One access of a Collect. -/
theorem colStepC {b g u e mp pb : Nat} {x : Cn} {s : SupS} {m : Mm} {c : ColS} {F1 F2 F3 F4 F5 : St} (hx : x.ok) (hl : x.len ≤ m.ws.length) (hc : c.at_ ≤ 2) (hb : s.xs.length + s.lm.size ≤ 1000000)
    [t1 : Take L (some ⟨b, 0, none⟩) (ColO g u e pb x c) F1] [t2 : Take F1 (some ⟨u, 0, none⟩) (SupO mp pb x s) F2] [t3 : Take F2 (some ⟨mp, 0, none⟩) (MemO m) F3] [t4 : Take F3 (some ⟨pb, 0, none⟩) (SkO mp x.pool) F4] [t5 : Take F4 (some ⟨g, 0, none⟩) (GaO mp e) F5] [t6 : Take F5 (some ⟨e, 0, none⟩) (EpO mp x) G] :
    Fx Tryz.prog 33 [.pointer (some ⟨b, 0, none⟩)] L
      (fun v L' => v = .bool (!c.done) ∧ L' = pt (some ⟨b, 0, none⟩) (ColO g u e pb x (colStep x.pool x.w m s c).2.2) :: pt (some ⟨u, 0, none⟩) (SupO mp pb x (colStep x.pool x.w m s c).2.1) :: pt (some ⟨mp, 0, none⟩) (MemO (colStep x.pool x.w m s c).1) :: F3) := by
  have hback : Ent (pt (some ⟨pb, 0, none⟩) (SkO mp x.pool) :: pt (some ⟨g, 0, none⟩) (GaO mp e) :: pt (some ⟨e, 0, none⟩) (EpO mp x) :: G) F3 := Ent.trans (Ent.cons (Ent.trans (Ent.cons (Ent.of t6.back)) (Ent.of t5.back))) (Ent.of t4.back)
  refine Fx.mk Tryz.func33 k33 (Nat.le_of_ble_eq_true rfl) ?_
  dsimp only [c33, envOf, Nat.reduceAdd]
  refine Cx.ent (Ent.trans (Ent.of t1.out) (Ent.cons (Ent.trans (Ent.of t2.out) (Ent.cons (Ent.trans (Ent.of t3.out) (Ent.cons (Ent.trans (Ent.of t4.out) (Ent.cons (Ent.trans (Ent.of t5.out) (Ent.cons (Ent.of t6.out))))))))))) ?_
  refine Cx.pure (memKey (b := mp) (m := m)) fun hm => ?_
  cases hd : c.done with
  | true =>
    have e1 : colStep x.pool x.w m s c = (m, s, c) := by unfold colStep; rw [hd]; rfl
    rw [e1]
    refine Cx.openp (a := some ⟨b, 0, none⟩) (ColO.d hd) ?_
    rintro ⟨q, r, n1, n2, n3, cnt⟩
    simp only [colDL, List.cons_append, List.nil_append]
    refine go ?_
    refine Sx.ca rfl (machStepDone (b := b)) ?_
    rintro v L' ⟨rfl, rfl⟩
    refine go ?_
    exact Kr.one (.inr rfl) rfl (Ent.trans (ColO.closeD c hd rfl rfl) (Ent.cons (Ent.cons (Ent.cons hback)))) ⟨rfl, rfl⟩
  | false =>
    rcases (show c.at_ = 0 ∨ c.at_ = 1 ∨ c.at_ = 2 by omega) with h0 | h0 | h0
    · refine Cx.openp (a := some ⟨b, 0, none⟩) (ColO.a hd h0) ?_
      rintro ⟨q, cnt⟩
      simp only [colAL, List.cons_append, List.nil_append]
      cases hq : (advStep x.w m c.a).1.done with
      | true =>
        have e1 : colStep x.pool x.w m s c = ((advStep x.w m c.a).2, s, { c with a := (advStep x.w m c.a).1, at_ := 1 }) := by unfold colStep; rw [hd, h0]; simp only [Bool.false_eq_true, if_false, hq, if_true]
        rw [e1]
        refine go ?_
        refine Sx.ca rfl (machStep (b := b) (by kernel_rfl) (machGoes (b := b) (by kernel_rfl) (advStepC (b := q) (e := e) (mp := mp) (x := x) (m := m) (s := c.a) hx hl)
          (R2 := fun v L' => v = .tuple #[] ∧ ∃ w : Value, L' = coB b g u (mth 158 b) (mth 103 q) (mth 104 q) (mth 105 b) (IntKind.i64.wrap (cnt + 1)) (.pointer (some ⟨q, 0, none⟩)) (.pointer none) :: pt (some ⟨q, 0, none⟩) (AdvO e x (advStep x.w m c.a).1) :: pt (some ⟨mp, 0, none⟩) (MemO (advStep x.w m c.a).2) :: pt (some ⟨u, 0, none⟩) (SupO mp pb x s) :: pt (some ⟨pb, 0, none⟩) (SkO mp x.pool) :: pt (some ⟨g, 0, none⟩) (GaO mp e) :: pt (some ⟨e, 0, none⟩) (EpO mp x) :: G) ?_)) ?_
        · rintro v L1 ⟨rfl, rfl⟩
          refine (machOnYes (b := b) (by kernel_rfl) ((advDoneC (b := q) (e := e) (x := x) (s := (advStep x.w m c.a).1)).mono (by rintro v L' ⟨rfl, rfl⟩; exact ⟨by rw [hq], rfl⟩)) (by kernel_rfl) (colAdvanced (b := b))).mono ?_
          rintro v L' ⟨rfl, w, rfl, rfl⟩
          exact ⟨rfl, .tuple #[], rfl⟩
        · rintro v L' ⟨rfl, w, _, w2, _, w3, rfl⟩
          refine go ?_
          refine Kr.one (.inr rfl) rfl ?_ ⟨rfl, rfl⟩
          refine Ent.trans (ColO.closeB (pb := pb) { c with a := (advStep x.w m c.a).1, at_ := 1 } hd rfl rfl) (Ent.cons ?_)
          refine Ent.trans Ent.swap (Ent.cons (Ent.cons hback))
      | false =>
        have e1 : colStep x.pool x.w m s c = ((advStep x.w m c.a).2, s, { c with a := (advStep x.w m c.a).1, at_ := 0 }) := by unfold colStep; rw [hd, h0]; simp only [Bool.false_eq_true, if_false, hq]
        rw [e1]
        refine go ?_
        refine Sx.ca rfl (machStep (b := b) (by kernel_rfl) (machGoes (b := b) (by kernel_rfl) (advStepC (b := q) (e := e) (mp := mp) (x := x) (m := m) (s := c.a) hx hl)
          (R2 := fun v L' => v = .tuple #[] ∧ L' = coB b g u (mth 183 b) (mth 103 q) (mth 104 q) (mth 105 b) (IntKind.i64.wrap (cnt + 1)) (.pointer (some ⟨q, 0, none⟩)) (.pointer none) :: pt (some ⟨q, 0, none⟩) (AdvO e x (advStep x.w m c.a).1) :: pt (some ⟨mp, 0, none⟩) (MemO (advStep x.w m c.a).2) :: pt (some ⟨u, 0, none⟩) (SupO mp pb x s) :: pt (some ⟨pb, 0, none⟩) (SkO mp x.pool) :: pt (some ⟨g, 0, none⟩) (GaO mp e) :: pt (some ⟨e, 0, none⟩) (EpO mp x) :: G) ?_)) ?_
        · rintro v L1 ⟨rfl, rfl⟩
          refine (machOnNo (b := b) (by kernel_rfl) ((advDoneC (b := q) (e := e) (x := x) (s := (advStep x.w m c.a).1)).mono (by rintro v L' ⟨rfl, rfl⟩; exact ⟨by rw [hq], rfl⟩))).mono ?_
          rintro v L' ⟨rfl, rfl⟩
          exact ⟨rfl, rfl⟩
        · rintro v L' ⟨rfl, w, _, w2, _, rfl⟩
          refine go ?_
          refine Kr.one (.inr rfl) rfl ?_ ⟨rfl, rfl⟩
          refine Ent.trans (ColO.closeA (pb := pb) { c with a := (advStep x.w m c.a).1, at_ := 0 } hd rfl rfl) (Ent.cons ?_)
          refine Ent.trans Ent.swap (Ent.cons (Ent.cons hback))
    · refine Cx.openp (a := some ⟨b, 0, none⟩) (ColO.b hd h0) ?_
      rintro ⟨q, n1, n2, n3, cnt⟩
      simp only [colBL, List.cons_append, List.nil_append]
      refine go ?_
      refine Sx.ca rfl (machStep (b := b) (by kernel_rfl) (colLook (b := b) (g := g) (u := u) (e := e) (mp := mp) (pb := pb) (q := q) (x := x) (s := s) (m := m) (c := c) hx hm.1 hl hb hd h0)) ?_
      rintro v L' ⟨rfl, w, rfl⟩
      refine go ?_
      exact Kr.one (.inr rfl) rfl (Ent.cons (Ent.cons (Ent.cons hback))) ⟨rfl, rfl⟩
    · refine Cx.openp (a := some ⟨b, 0, none⟩) (ColO.c hd h0) ?_
      rintro ⟨q, r, cnt⟩
      simp only [colCL, List.cons_append, List.nil_append]
      have hk := hx.pool (n := m.ws.length) hl hm.2
      cases hq : (pushStep x.pool m c.g).1.done with
      | true =>
        have e1 : colStep x.pool x.w m s c = ((pushStep x.pool m c.g).2, s, { c with g := (pushStep x.pool m c.g).1, done := true }) := by unfold colStep; rw [hd, h0]; simp only [Bool.false_eq_true, if_false, hq]
        rw [e1]
        refine go ?_
        refine Sx.ca rfl (machStep (b := b) (by kernel_rfl) (machGoes (b := b) (by kernel_rfl) (giveStep (b := r) (mp := mp) (pb := pb) (k := x.pool) (m := m) (p := c.g) hk)
          (R2 := fun v L' => v = .tuple #[] ∧ ∃ w : Value, pt (some ⟨r, 0, none⟩) (GiveO pb x.pool (pushStep x.pool m c.g).1) :: pt (some ⟨mp, 0, none⟩) (MemO (pushStep x.pool m c.g).2) :: coB b g u .nilFunc (mth 74 r) (mth 146 r) (mth 184 b) (IntKind.i64.wrap (cnt + 1)) (.pointer (some ⟨q, 0, none⟩)) (.pointer (some ⟨r, 0, none⟩)) :: pt (some ⟨q, 0, none⟩) (AdvO e x c.a) :: pt (some ⟨u, 0, none⟩) (SupO mp pb x s) :: pt (some ⟨pb, 0, none⟩) (SkO mp x.pool) :: pt (some ⟨g, 0, none⟩) (GaO mp e) :: pt (some ⟨e, 0, none⟩) (EpO mp x) :: G = L') ?_)) ?_
        · rintro v L1 ⟨rfl, rfl⟩
          refine (machOnYes (b := b) (by kernel_rfl) ((giveDone (b := r) (pb := pb) (k := x.pool) (p := (pushStep x.pool m c.g).1)).mono (by rintro v L' ⟨rfl, rfl⟩; exact ⟨by rw [hq], rfl⟩)) (by kernel_rfl) colOver).mono ?_
          rintro v L' ⟨rfl, w, _, rfl⟩
          exact ⟨rfl, .tuple #[], rfl⟩
        · rintro v L' ⟨rfl, w, _, w2, _, w3, rfl⟩
          refine go ?_
          refine Kr.one (.inr rfl) rfl ?_ ⟨rfl, rfl⟩
          refine Ent.trans (Ent.take (a := some ⟨b, 0, none⟩)) ?_
          refine Ent.trans (Ent.cons (Ent.take (a := some ⟨q, 0, none⟩))) ?_
          refine Ent.trans (ColO.closeD { c with g := (pushStep x.pool m c.g).1, done := true } rfl rfl rfl) (Ent.cons ?_)
          refine Ent.trans Ent.swap (Ent.cons (Ent.cons hback))
      | false =>
        have e1 : colStep x.pool x.w m s c = ((pushStep x.pool m c.g).2, s, { c with g := (pushStep x.pool m c.g).1, done := false }) := by unfold colStep; rw [hd, h0]; simp only [Bool.false_eq_true, if_false, hq]
        rw [e1]
        refine go ?_
        refine Sx.ca rfl (machStep (b := b) (by kernel_rfl) (machGoes (b := b) (by kernel_rfl) (giveStep (b := r) (mp := mp) (pb := pb) (k := x.pool) (m := m) (p := c.g) hk)
          (R2 := fun v L' => v = .tuple #[] ∧ L' = coB b g u (mth 183 b) (mth 74 r) (mth 146 r) (mth 184 b) (IntKind.i64.wrap (cnt + 1)) (.pointer (some ⟨q, 0, none⟩)) (.pointer (some ⟨r, 0, none⟩)) :: pt (some ⟨r, 0, none⟩) (GiveO pb x.pool (pushStep x.pool m c.g).1) :: pt (some ⟨mp, 0, none⟩) (MemO (pushStep x.pool m c.g).2) :: pt (some ⟨q, 0, none⟩) (AdvO e x c.a) :: pt (some ⟨u, 0, none⟩) (SupO mp pb x s) :: pt (some ⟨pb, 0, none⟩) (SkO mp x.pool) :: pt (some ⟨g, 0, none⟩) (GaO mp e) :: pt (some ⟨e, 0, none⟩) (EpO mp x) :: G) ?_)) ?_
        · rintro v L1 ⟨rfl, rfl⟩
          refine (machOnNo (b := b) (by kernel_rfl) ((giveDone (b := r) (pb := pb) (k := x.pool) (p := (pushStep x.pool m c.g).1)).mono (by rintro v L' ⟨rfl, rfl⟩; exact ⟨by rw [hq], rfl⟩))).mono ?_
          rintro v L' ⟨rfl, rfl⟩
          exact ⟨rfl, rfl⟩
        · rintro v L' ⟨rfl, w, _, w2, _, rfl⟩
          refine go ?_
          refine Kr.one (.inr rfl) rfl ?_ ⟨rfl, rfl⟩
          refine Ent.trans (Ent.cons (Ent.take (a := some ⟨q, 0, none⟩))) ?_
          refine Ent.trans (ColO.closeC { c with g := (pushStep x.pool m c.g).1, done := false } rfl h0 rfl rfl) (Ent.cons ?_)
          refine Ent.trans Ent.swap (Ent.cons (Ent.cons hback))
theorem colDone {b g u e pb : Nat} {x : Cn} {c : ColS} {F1 : St} (hc : c.at_ ≤ 2) [t1 : Take L (some ⟨b, 0, none⟩) (ColO g u e pb x c) F1] : Fx Tryz.prog 35 [.pointer (some ⟨b, 0, none⟩)] L (fun v L' => v = .bool c.done ∧ L = L') := by
  refine Fx.kept (t := t1) ?_
  refine Fx.mk Tryz.func35 k35 (Nat.le_of_ble_eq_true rfl) ?_
  dsimp only [c35, envOf, Nat.reduceAdd]
  refine Cx.ent (Ent.of t1.out) ?_
  cases hd : c.done with
  | true =>
    refine Cx.openp (a := some ⟨b, 0, none⟩) (ColO.d hd) ?_
    rintro ⟨q, r, n1, n2, n3, cnt⟩
    simp only [colDL, List.cons_append, List.nil_append]
    refine go ?_
    refine Sx.ca rfl (machDoneYes (b := b)) ?_
    rintro v L' ⟨rfl, rfl⟩
    refine go ?_
    exact Kr.one (.inr rfl) rfl (ColO.closeD c hd rfl rfl) ⟨rfl, rfl⟩
  | false =>
    rcases (show c.at_ = 0 ∨ c.at_ = 1 ∨ c.at_ = 2 by omega) with h0 | h0 | h0
    · refine Cx.openp (a := some ⟨b, 0, none⟩) (ColO.a hd h0) ?_
      rintro ⟨q, cnt⟩
      simp only [colAL, List.cons_append, List.nil_append]
      refine go ?_
      refine Sx.ca rfl (machDoneNo (b := b)) ?_
      rintro v L' ⟨rfl, rfl⟩
      refine go ?_
      exact Kr.one (.inr rfl) rfl (ColO.closeA c hd h0 rfl) ⟨rfl, rfl⟩
    · refine Cx.openp (a := some ⟨b, 0, none⟩) (ColO.b hd h0) ?_
      rintro ⟨q, n1, n2, n3, cnt⟩
      simp only [colBL, List.cons_append, List.nil_append]
      refine go ?_
      refine Sx.ca rfl (machDoneNo (b := b)) ?_
      rintro v L' ⟨rfl, rfl⟩
      refine go ?_
      exact Kr.one (.inr rfl) rfl (ColO.closeB c hd h0 rfl) ⟨rfl, rfl⟩
    · refine Cx.openp (a := some ⟨b, 0, none⟩) (ColO.c hd h0) ?_
      rintro ⟨q, r, cnt⟩
      simp only [colCL, List.cons_append, List.nil_append]
      refine go ?_
      refine Sx.ca rfl (machDoneNo (b := b)) ?_
      rintro v L' ⟨rfl, rfl⟩
      refine go ?_
      exact Kr.one (.inr rfl) rfl (ColO.closeC c hd h0 rfl rfl) ⟨rfl, rfl⟩
theorem colWon {b g u e pb : Nat} {x : Cn} {c : ColS} {F1 : St} (hd : c.done = true) [t1 : Take L (some ⟨b, 0, none⟩) (ColO g u e pb x c) F1] : Fx Tryz.prog 36 [.pointer (some ⟨b, 0, none⟩)] L (fun v L' => v = .bool c.a.won ∧ L = L') := by
  refine Fx.kept (t := t1) ?_
  refine Fx.mk Tryz.func36 k36 (Nat.le_of_ble_eq_true rfl) ?_
  dsimp only [c36, envOf, Nat.reduceAdd]
  refine Cx.ent (Ent.of t1.out) ?_
  refine Cx.openp (a := some ⟨b, 0, none⟩) (ColO.d hd) ?_
  rintro ⟨q, r, n1, n2, n3, cnt⟩
  simp only [colDL, List.cons_append, List.nil_append]
  refine go ?_
  refine Sx.ca rfl (advWonC (b := q) (e := e) (x := x) (s := c.a)) ?_
  rintro v L' ⟨rfl, rfl⟩
  refine go ?_
  exact Kr.one (.inr rfl) rfl (ColO.closeD c hd rfl rfl) ⟨rfl, rfl⟩
/-- What it has in its hands when it is done: none. -/
theorem colHandDone {b g u e pb : Nat} {x : Cn} {c : ColS} {F1 : St} (hd : c.done = true) (hg : c.g.done = true) [t1 : Take L (some ⟨b, 0, none⟩) (ColO g u e pb x c) F1] : Fx Tryz.prog 37 [.pointer (some ⟨b, 0, none⟩)] L (fun v L' => v = .slice none 0 0 ∧ L = L') := by
  refine Fx.kept (t := t1) ?_
  refine Fx.mk Tryz.func37 k37 (Nat.le_of_ble_eq_true rfl) ?_
  dsimp only [c37, envOf, Nat.reduceAdd]
  refine Cx.ent (Ent.of t1.out) ?_
  refine Cx.openp (a := some ⟨b, 0, none⟩) (ColO.d hd) ?_
  rintro ⟨q, r, n1, n2, n3, cnt⟩
  simp only [colDL, List.cons_append, List.nil_append]
  refine go ?_
  refine Sx.ca rfl (giveHandDone (b := r) (pb := pb) (k := x.pool) (p := c.g) hg) ?_
  rintro v L' ⟨rfl, rfl⟩
  refine go ?_
  exact Kr.one (.inr rfl) rfl (ColO.closeD c hd rfl rfl) ⟨rfl, rfl⟩
end
end Go.Proofs.YtnbkjcmmjgkdaaaGreat

/-
  The limbo's contract: Open.
-/
set_option linter.unusedVariables false
set_option linter.unusedSimpArgs false
namespace Go.Proofs.YtnbkjcmmjgkdaaaGreat
open Go
attribute [local irreducible] Sx Cx Rx Fx Krg Ksq Kbl Klp Kr
section
variable {L F : St}
/-- Are there any? -/
def anyOpen (now : Int) (m : Lm) : Bool := decide (2 ≤ now ∧ (m.open_ now 0 = true ∨ m.open_ now 1 = true ∨ m.open_ now 2 = true))
end
end Go.Proofs.YtnbkjcmmjgkdaaaGreat

/-
  What a limbo's Ready hands out, in plain words: the items of the open buckets, once each; the other buckets stay.
-/
set_option linter.unusedVariables false
set_option linter.unusedSimpArgs false
namespace Go.Proofs.YtnbkjcmmjgkdaaaGreat
open Go
end Go.Proofs.YtnbkjcmmjgkdaaaGreat

/-
  The document's limbo: its contracts, told of the program's limbo: what is in an empty bucket's tag does not count.
-/
set_option linter.unusedVariables false
set_option linter.unusedSimpArgs false
namespace Go.Proofs.YtnbkjcmmjgkdaaaGreat
open Go
attribute [local irreducible] Sx Cx Rx Fx Krg Ksq Kbl Klp Kr
/-- Tags of full buckets are what they are; the last tag. -/
structure RTag (m : Lm) (u0 u1 u2 l : Int) : Prop where
  h0 : m.x0 ≠ [] → u0 = m.t0
  h1 : m.x1 ≠ [] → u1 = m.t1
  h2 : m.x2 ≠ [] → u2 = m.t2
  hl : l = m.last ∨ (l = -1 ∧ m.last = 0)
section
variable {L F : St}
def refL (T : TypeId) (m : Lm) (a : Option Addr) (y : ((Option Addr × Nat) × (Option Addr × Nat) × (Option Addr × Nat)) × (Int × Int × Int × Int)) : St :=
    [lift (RTag m y.2.1 y.2.2.1 y.2.2.2.1 y.2.2.2.2), pt a (Blk T [.int .i64 y.2.1, .int .i64 y.2.2.1, .int .i64 y.2.2.2.1, .slice y.1.1.1 m.x0.length y.1.1.2, .slice y.1.2.1.1 m.x1.length y.1.2.1.2, .slice y.1.2.2.1 m.x2.length y.1.2.2.2, .int .i64 y.2.2.2.2]),
     pt y.1.1.1 (Row 3 1 m.x0.length y.1.1.2 (ints m.x0)), pt y.1.2.1.1 (Row 3 1 m.x1.length y.1.2.1.2 (ints m.x1)), pt y.1.2.2.1 (Row 3 1 m.x2.length y.1.2.2.2 (ints m.x2))]
def RLimboT (T : TypeId) (m : Lm) (a : Option Addr) : As := exs (refL T m a)
abbrev RLimboO := RLimboT 181
theorem RLimboO.close {T : TypeId} {a r0 r1 r2 : Option Addr} {c0 c1 c2 n0 n1 n2 : Nat} {u0 u1 u2 l : Int} {v0 v1 v2 v3 : Value} {w0 w1 w2 : List Value} {F F0 F1 G : St} (m : Lm) (hT : RTag m u0 u1 u2 l)
    [t : Take L a (Blk T [v0, v1, v2, .slice r0 n0 c0, .slice r1 n1 c1, .slice r2 n2 c2, v3]) F] [q0 : Take F r0 (Row 3 1 n0 c0 w0) F0] [q1 : Take F0 r1 (Row 3 1 n1 c1 w1) F1] [q2 : Take F1 r2 (Row 3 1 n2 c2 w2) G]
    (h0 : v0 = .int .i64 u0) (h1 : v1 = .int .i64 u1) (h2 : v2 = .int .i64 u2) (h3 : v3 = .int .i64 l) (e0 : n0 = m.x0.length) (e1 : n1 = m.x1.length) (e2 : n2 = m.x2.length)
    (g0 : w0 = ints m.x0) (g1 : w1 = ints m.x1) (g2 : w2 = ints m.x2) : Ent L (pt a (RLimboT T m) :: G) := by
  subst h0; subst h1; subst h2; subst h3; subst e0; subst e1; subst e2; subst g0; subst g1; subst g2
  refine Ent.trans (Ent.take1 (t := t) (Ent.trans (Ent.of q0.out) (Ent.cons (Ent.trans (Ent.of q1.out) (Ent.cons (Ent.of q2.out)))))) ?_
  refine Ent.trans (Ent.lift hT (Ent.refl _)) ?_
  exact Ent.close (f := refL T m a) rfl (((r0, c0), (r1, c1), (r2, c2)), (u0, u1, u2, l))
theorem RTag.nil : RTag Lm.nil 0 0 0 (-1) := ⟨fun h => absurd rfl h, fun h => absurd rfl h, fun h => absurd rfl h, .inr ⟨rfl, rfl⟩⟩
theorem refLimboNew : Fx Tryz.prog 133 [] L (fun v L' => ∃ g, v = .pointer (some ⟨g, 0, none⟩) ∧ L' = pt (some ⟨g, 0, none⟩) (RLimboO Lm.nil) :: L) := by
  refine Fx.mk Tryz.func133 k133 (Nat.le_of_ble_eq_true rfl) ?_
  dsimp only [c133, envOf, Nat.reduceAdd]
  refine go ?_
  refine Sx.bx rfl rfl fun g => ?_
  refine go ?_
  refine Kr.one (.inr rfl) rfl ?_ ⟨g, rfl, rfl⟩
  refine Ent.trans (Ent.rownil 3 1) (Ent.trans (Ent.rownil 3 1) (Ent.trans (Ent.rownil 3 1) ?_))
  exact RLimboO.close (a := some ⟨g, 0, none⟩) (r0 := none) (r1 := none) (r2 := none) Lm.nil RTag.nil rfl rfl rfl rfl rfl rfl rfl rfl rfl rfl
/-- The least bucket as the document numbers it. -/
def leastI (o : Option Nat) : Int := match o with | none => -1 | some j => j
set_option maxHeartbeats 4000000 in
theorem refLeast {b : Nat} {m : Lm} {now : Int} {F : St} [t : Take L (some ⟨b, 0, none⟩) (RLimboO m) F] (h2 : 2 ≤ now) (h3 : now ≤ 9223372036854775807) :
    Fx Tryz.prog 181 [.pointer (some ⟨b, 0, none⟩), .int .i64 now] L (fun v L' => v = .int .i64 (leastI (leastUp now m 3)) ∧ L = L') := by
  refine Fx.kept (t := t) ?_
  refine Fx.mk Tryz.func181 k181 (Nat.le_of_ble_eq_true rfl) ?_
  dsimp only [c181, envOf, Nat.reduceAdd]
  refine Cx.openp (t := t) rfl ?_
  rintro ⟨⟨⟨r0, c0⟩, ⟨r1, c1⟩, ⟨r2, c2⟩⟩, ⟨u0, u1, u2, l⟩⟩
  simp only [refL, List.cons_append, List.nil_append]
  refine Cx.liftp fun hT => ?_
  refine go ?_
  refine Cx.lp (α := {k : Nat // k ≤ 3}) (fun k => [(0, .pointer (some ⟨b, 0, none⟩)), (1, .int .i64 now), (5, .int .i64 (leastI (leastUp now m k.1))), (6, .int .i64 k.1)]) (fun _ => _) (fun k => 3 - k.1) ⟨0, by omega⟩
    (sub.cons rfl (sub.cons rfl (sub.cons rfl (sub.cons rfl sub.nil)))) (Ent.refl _) ?_
  rintro ⟨k, hk⟩
  dsimp only
  have hst : ∀ {k : Nat} {v : Int}, leastI (leastUp now m (k + 1)) = v → some (Value.int .i64 v) = some (Value.int .i64 (leastI (leastUp now m (k + 1)))) := fun h => by rw [h]
  rcases (show k = 0 ∨ k = 1 ∨ k = 2 ∨ k = 3 by omega) with rfl | rfl | rfl | rfl
  · refine go ?_
    refine Cx.ordc rfl (by kernel_rfl) ?_
    refine ge ?_
    by_cases hx : m.x0 = []
    · have ho : m.open_ now 0 = false := by simp [Lm.open_, openM, Lm.items, hx]
      refine Ev.no 19 rfl (decide_eq_false (by rw [hx]; decide)) ?_
      refine ge ?_
      refine go ?_
      exact Klp.nm ⟨0 + 1, by omega⟩ (sub.cons rfl (sub.cons rfl (sub.cons (Eq.trans rfl (hst (congrArg leastI (leastUp_no ho)))) (sub.cons rfl sub.nil)))) (Ent.refl _) (by simp)
    · have hu := hT.h0 hx
      have hp := List.length_pos_iff.2 hx
      refine Ev.yes 19 rfl (decide_eq_true (by omega)) ?_
      refine ge ?_
      rw [w64 (n := now - 2) (by omega) (by omega)]
      by_cases h4 : m.t0 ≤ now - 2
      · have ho : m.open_ now 0 = true := by simp [Lm.open_, openM, Lm.items, Lm.tag]; exact ⟨hp, h4⟩
        refine Ev.yes 30 rfl (decide_eq_true (by omega)) ?_
        refine ge ?_
        refine go ?_
        exact Klp.nm ⟨0 + 1, by omega⟩ (sub.cons rfl (sub.cons rfl (sub.cons (Eq.trans rfl (hst (congrArg leastI (leastUp_first ho rfl)))) (sub.cons rfl sub.nil)))) (Ent.refl _) (by simp)
      · have ho : m.open_ now 0 = false := by simp [Lm.open_, openM, Lm.items, Lm.tag]; intro _; omega
        refine Ev.no 30 rfl (decide_eq_false (by omega)) ?_
        refine ge ?_
        refine go ?_
        exact Klp.nm ⟨0 + 1, by omega⟩ (sub.cons rfl (sub.cons rfl (sub.cons (Eq.trans rfl (hst (congrArg leastI (leastUp_no ho)))) (sub.cons rfl sub.nil)))) (Ent.refl _) (by simp)
  · refine go ?_
    refine Cx.ordc rfl (by kernel_rfl) ?_
    refine ge ?_
    by_cases hx : m.x1 = []
    · have ho : m.open_ now 1 = false := by simp [Lm.open_, openM, Lm.items, hx]
      refine Ev.no 19 rfl (decide_eq_false (by rw [hx]; decide)) ?_
      refine ge ?_
      refine go ?_
      exact Klp.nm ⟨1 + 1, by omega⟩ (sub.cons rfl (sub.cons rfl (sub.cons (Eq.trans rfl (hst (congrArg leastI (leastUp_no ho)))) (sub.cons rfl sub.nil)))) (Ent.refl _) (by simp)
    · have hu := hT.h1 hx
      have hp := List.length_pos_iff.2 hx
      refine Ev.yes 19 rfl (decide_eq_true (by omega)) ?_
      refine ge ?_
      rw [w64 (n := now - 2) (by omega) (by omega)]
      by_cases h4 : m.t1 ≤ now - 2
      · have ho : m.open_ now 1 = true := by simp [Lm.open_, openM, Lm.items, Lm.tag]; exact ⟨hp, h4⟩
        refine Ev.yes 30 rfl (decide_eq_true (by omega)) ?_
        refine ge ?_
        rcases hlu : leastUp now m 1 with _ | j
        · refine Ev.yes 33 rfl (decide_eq_true (by simp [leastI])) ?_
          refine ge ?_
          refine go ?_
          exact Klp.nm ⟨1 + 1, by omega⟩ (sub.cons rfl (sub.cons rfl (sub.cons (Eq.trans rfl (hst (congrArg leastI (leastUp_first ho hlu)))) (sub.cons rfl sub.nil)))) (Ent.refl _) (by simp)
        · refine Ev.no 33 rfl (decide_eq_false (by simp [leastI])) ?_
          have hj := leastUp_lt hlu
          rcases (show j = 0 by omega) with rfl
          · have hv := hT.h0 (open_ne hj.2)
            refine ge ?_
            by_cases h5 : m.t1 < m.t0
            · refine Cx.cyes rfl (decide_eq_true (by omega)) ?_
              refine go ?_
              exact Klp.nm ⟨1 + 1, by omega⟩ (sub.cons rfl (sub.cons rfl (sub.cons (Eq.trans rfl (hst (congrArg leastI (leastUp_less ho hlu h5)))) (sub.cons rfl sub.nil)))) (Ent.refl _) (by simp)
            · refine Cx.cno rfl (decide_eq_false (by omega)) ?_
              refine go ?_
              exact Klp.nm ⟨1 + 1, by omega⟩ (sub.cons rfl (sub.cons rfl (sub.cons (Eq.trans rfl (hst (congrArg leastI (leastUp_keep ho hlu h5)))) (sub.cons rfl sub.nil)))) (Ent.refl _) (by simp)
      · have ho : m.open_ now 1 = false := by simp [Lm.open_, openM, Lm.items, Lm.tag]; intro _; omega
        refine Ev.no 30 rfl (decide_eq_false (by omega)) ?_
        refine ge ?_
        refine go ?_
        exact Klp.nm ⟨1 + 1, by omega⟩ (sub.cons rfl (sub.cons rfl (sub.cons (Eq.trans rfl (hst (congrArg leastI (leastUp_no ho)))) (sub.cons rfl sub.nil)))) (Ent.refl _) (by simp)
  · refine go ?_
    refine Cx.ordc rfl (by kernel_rfl) ?_
    refine ge ?_
    by_cases hx : m.x2 = []
    · have ho : m.open_ now 2 = false := by simp [Lm.open_, openM, Lm.items, hx]
      refine Ev.no 19 rfl (decide_eq_false (by rw [hx]; decide)) ?_
      refine ge ?_
      refine go ?_
      exact Klp.nm ⟨2 + 1, by omega⟩ (sub.cons rfl (sub.cons rfl (sub.cons (Eq.trans rfl (hst (congrArg leastI (leastUp_no ho)))) (sub.cons rfl sub.nil)))) (Ent.refl _) (by simp)
    · have hu := hT.h2 hx
      have hp := List.length_pos_iff.2 hx
      refine Ev.yes 19 rfl (decide_eq_true (by omega)) ?_
      refine ge ?_
      rw [w64 (n := now - 2) (by omega) (by omega)]
      by_cases h4 : m.t2 ≤ now - 2
      · have ho : m.open_ now 2 = true := by simp [Lm.open_, openM, Lm.items, Lm.tag]; exact ⟨hp, h4⟩
        refine Ev.yes 30 rfl (decide_eq_true (by omega)) ?_
        refine ge ?_
        rcases hlu : leastUp now m 2 with _ | j
        · refine Ev.yes 33 rfl (decide_eq_true (by simp [leastI])) ?_
          refine ge ?_
          refine go ?_
          exact Klp.nm ⟨2 + 1, by omega⟩ (sub.cons rfl (sub.cons rfl (sub.cons (Eq.trans rfl (hst (congrArg leastI (leastUp_first ho hlu)))) (sub.cons rfl sub.nil)))) (Ent.refl _) (by simp)
        · refine Ev.no 33 rfl (decide_eq_false (by simp [leastI])) ?_
          have hj := leastUp_lt hlu
          rcases (show j = 0 ∨ j = 1 by omega) with rfl | rfl
          · have hv := hT.h0 (open_ne hj.2)
            refine ge ?_
            by_cases h5 : m.t2 < m.t0
            · refine Cx.cyes rfl (decide_eq_true (by omega)) ?_
              refine go ?_
              exact Klp.nm ⟨2 + 1, by omega⟩ (sub.cons rfl (sub.cons rfl (sub.cons (Eq.trans rfl (hst (congrArg leastI (leastUp_less ho hlu h5)))) (sub.cons rfl sub.nil)))) (Ent.refl _) (by simp)
            · refine Cx.cno rfl (decide_eq_false (by omega)) ?_
              refine go ?_
              exact Klp.nm ⟨2 + 1, by omega⟩ (sub.cons rfl (sub.cons rfl (sub.cons (Eq.trans rfl (hst (congrArg leastI (leastUp_keep ho hlu h5)))) (sub.cons rfl sub.nil)))) (Ent.refl _) (by simp)
          · have hv := hT.h1 (open_ne hj.2)
            refine ge ?_
            by_cases h5 : m.t2 < m.t1
            · refine Cx.cyes rfl (decide_eq_true (by omega)) ?_
              refine go ?_
              exact Klp.nm ⟨2 + 1, by omega⟩ (sub.cons rfl (sub.cons rfl (sub.cons (Eq.trans rfl (hst (congrArg leastI (leastUp_less ho hlu h5)))) (sub.cons rfl sub.nil)))) (Ent.refl _) (by simp)
            · refine Cx.cno rfl (decide_eq_false (by omega)) ?_
              refine go ?_
              exact Klp.nm ⟨2 + 1, by omega⟩ (sub.cons rfl (sub.cons rfl (sub.cons (Eq.trans rfl (hst (congrArg leastI (leastUp_keep ho hlu h5)))) (sub.cons rfl sub.nil)))) (Ent.refl _) (by simp)
      · have ho : m.open_ now 2 = false := by simp [Lm.open_, openM, Lm.items, Lm.tag]; intro _; omega
        refine Ev.no 30 rfl (decide_eq_false (by omega)) ?_
        refine ge ?_
        refine go ?_
        exact Klp.nm ⟨2 + 1, by omega⟩ (sub.cons rfl (sub.cons rfl (sub.cons (Eq.trans rfl (hst (congrArg leastI (leastUp_no ho)))) (sub.cons rfl sub.nil)))) (Ent.refl _) (by simp)
  · refine go ?_
    refine Kr.one (.inr rfl) rfl ?_ ⟨rfl, rfl⟩
    exact RLimboO.close (a := some ⟨b, 0, none⟩) (r0 := r0) (r1 := r1) (r2 := r2) m hT rfl rfl rfl rfl rfl rfl rfl rfl rfl rfl
end
end Go.Proofs.YtnbkjcmmjgkdaaaGreat
