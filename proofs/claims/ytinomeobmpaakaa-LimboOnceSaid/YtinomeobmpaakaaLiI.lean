/-
  LimboOnce's law, in plain words: a Retire's step.
-/
import Derived.Test.YtinomeobmpaakaaLiH
set_option linter.unusedVariables false
set_option linter.unusedSimpArgs false
namespace Go.Proofs.Ytinomeobmpaakaa
open Go

theorem retire_items {m : Lm} {tag : Int} {ys : List Int} {k : Nat} (hk : k < 3) : (retireM m tag ys).items k = if k = bucketOf tag then (if m.tag (bucketOf tag) < tag then [] else m.items (bucketOf tag)) ++ ys else m.items k := by
  have hlt : bucketOf tag < 3 := Nat.mod_lt _ (by omega)
  unfold retireM
  generalize bucketOf tag = q at *
  rcases (show k = 0 ∨ k = 1 ∨ k = 2 by omega) with rfl | rfl | rfl <;> rcases (show q = 0 ∨ q = 1 ∨ q = 2 by omega) with rfl | rfl | rfl <;> first | rfl | simp [Lm.put, Lm.items]
theorem retire_tag {m : Lm} {tag : Int} {ys : List Int} {k : Nat} (hk : k < 3) : (retireM m tag ys).tag k = if k = bucketOf tag then tag else m.tag k := by
  have hlt : bucketOf tag < 3 := Nat.mod_lt _ (by omega)
  unfold retireM
  generalize bucketOf tag = q at *
  rcases (show k = 0 ∨ k = 1 ∨ k = 2 by omega) with rfl | rfl | rfl <;> rcases (show q = 0 ∨ q = 1 ∨ q = 2 by omega) with rfl | rfl | rfl <;> first | rfl | simp [Lm.put, Lm.tag]
theorem retire_size (m : Lm) (tag : Int) (ys : List Int) : (retireM m tag ys).size + (outM m tag).length = m.size + ys.length := by
  have hlt : bucketOf tag < 3 := Nat.mod_lt _ (by omega)
  unfold retireM outM
  generalize bucketOf tag = q at *
  rcases (show q = 0 ∨ q = 1 ∨ q = 2 by omega) with rfl | rfl | rfl <;> simp only [Lm.put, Lm.size, Lm.items, Lm.tag] <;> split <;> simp <;> omega
theorem Once.retire {now : Int} {next out : Nat} {m : Lm} {tg came : List Int} (h : Once now next out m tg came) (hn : next < 80) (h1 : now ≤ 1000) :
    ¬ refused m now [(next : Int)] ∧ Once now (next + 1) (out + (outM m now).length) (retireM m now [(next : Int)]) (tg.set next now) came ∧ Got now (next + 1) (retireM m now [(next : Int)]) (tg.set next now) came (outM m now) := by
  have hnn := h.nn
  have hlt : bucketOf now < 3 := Nat.mod_lt _ (by omega)
  have hset : ∀ n : Nat, n < next → (tg.set next now)[n]? = tg[n]? := fun n hq => by rw [List.getElem?_set_ne (by omega)]
  have hset2 : (tg.set next now)[next]? = some now := by rw [List.getElem?_set_self (by rw [h.lt]; exact hn)]
  have hold : ∀ k, k < 3 → (next : Int) ∉ m.items k := fun k hk hm => by
    obtain ⟨n, e, hlt, _⟩ := h.own k hk _ hm
    omega
  refine ⟨?_, ⟨hnn, ?_, Int.le_refl _, fun k hk => ?_, fun k hk => ?_, fun k hk x hx => ?_, fun k hk hne => ?_, fun n h2 h3 => h.zero n (by omega) h3, by rw [List.length_set]; exact h.lt, h.lc⟩, ⟨?_, fun x hx => ?_, fun k hk x hx hg => ?_⟩⟩
  · rintro (h | h2 | h2 | h2)
    · cases h
    · omega
    · omega
    · have := h.last; omega
  · have := retire_size m now [(next : Int)]
    have := h.size
    simp only [List.length_cons, List.length_nil] at *
    omega
  · rw [retire_tag hk]
    split
    · exact Int.le_refl _
    · exact h.tle k hk
  · rw [retire_items hk]
    split
    · split
      · simp
      · rw [List.nodup_append]
        refine ⟨h.nd _ hlt, by simp, ?_⟩
        rintro a ha b hb rfl
        simp only [List.mem_singleton] at hb
        subst hb
        exact hold _ hlt ha
    · exact h.nd k hk
  · rw [retire_items hk] at hx
    rw [retire_tag hk]
    split at hx
    · rename_i hkq
      rw [if_pos hkq]
      rcases List.mem_append.1 hx with hx | hx
      · split at hx
        · cases hx
        · rename_i ht
          obtain ⟨n, hn1, hn2, hn3, hn4⟩ := h.own _ hlt x hx
          have := h.tle _ hlt
          refine ⟨n, hn1, by omega, hn3, ?_⟩
          rw [hset n hn2, hn4]
          congr 1
          omega
      · simp only [List.mem_singleton] at hx
        exact ⟨next, hx, by omega, h.zero next (Nat.le_refl _) hn, hset2⟩
    · rename_i hkq
      rw [if_neg hkq]
      obtain ⟨n, hn1, hn2, hn3, hn4⟩ := h.own k hk x hx
      exact ⟨n, hn1, by omega, hn3, by rw [hset n hn2]; exact hn4⟩
  · rw [retire_tag hk]
    rw [retire_items hk] at hne
    split at hne
    · rename_i hkq; rw [if_pos hkq]; exact ⟨hkq.symm, hnn⟩
    · rename_i hkq; rw [if_neg hkq]; exact h.home k hk hne
  · unfold outM
    split
    · exact h.nd _ hlt
    · exact List.nodup_nil
  · unfold outM at hx
    split at hx
    · rename_i ht
      obtain ⟨n, hn1, hn2, hn3, hn4⟩ := h.own _ hlt x hx
      refine ⟨n, hn1, by omega, hn3, _, by rw [hset n hn2]; exact hn4, (h.home _ hlt (List.ne_nil_of_mem hx)).2, ?_⟩
      obtain ⟨e1, e2⟩ := h.home _ hlt (List.ne_nil_of_mem hx)
      generalize m.tag (bucketOf now) = t at *
      unfold bucketOf at e1
      omega
    · cases hx
  · unfold outM at hg
    split at hg
    · rename_i ht
      rw [retire_items hk, if_pos ht] at hx
      split at hx
      · simp only [List.nil_append, List.mem_singleton] at hx
        subst hx
        exact hold _ hlt hg
      · rename_i hkq
        exact hkq (h.apart hk hlt hx hg)
    · cases hg
/-- Two later all is out. -/
theorem Once.last_ {now : Int} {next out : Nat} {m : Lm} {tg came : List Int} (h : Once now next out m tg came) : (readyAll (now + 2) m).1.length = m.size ∧ (readyAll (now + 2) m).2.size = 0 := by
  have hnn := h.nn
  obtain ⟨e1, e2⟩ := readyAll_spec (now := now + 2) (m := m) (by omega)
  have hz : ∀ k, k < 3 → (closeAll (now + 2) m).items k = [] := by
    intro k hk
    rw [close_items hk]
    split
    · rfl
    · rename_i ho
      have := h.tle k hk
      simp only [Lm.open_, openM, decide_eq_true_eq, not_and] at ho
      cases hi : m.items k with
      | nil => rfl
      | cons a l => exact absurd (by omega) (ho (by rw [hi]; simp))
  have hs : (closeAll (now + 2) m).size = 0 := by
    have h0 := hz 0 (by omega)
    have h1 := hz 1 (by omega)
    have h2 := hz 2 (by omega)
    simp only [Lm.items] at h0 h1 h2
    simp [Lm.size, h0, h1, h2]
  rw [e1, e2.length_eq]
  have := close_size (now + 2) m
  exact ⟨by omega, hs⟩
end Go.Proofs.Ytinomeobmpaakaa
