/-
  LimboOnce's law, in plain words: what is kept true from step to step.
-/
import Derived.Test.YtinomeobmpaakaaLiG
set_option linter.unusedVariables false
set_option linter.unusedSimpArgs false
namespace Go.Proofs.Ytinomeobmpaakaa
open Go

theorem close_items {now : Int} {m : Lm} {k : Nat} (hk : k < 3) : (closeAll now m).items k = if m.open_ now k then [] else m.items k := by
  rcases (show k = 0 ∨ k = 1 ∨ k = 2 by omega) with rfl | rfl | rfl <;> rfl
theorem close_tag {now : Int} {m : Lm} {k : Nat} (hk : k < 3) : (closeAll now m).tag k = if m.open_ now k then 0 else m.tag k := by
  rcases (show k = 0 ∨ k = 1 ∨ k = 2 by omega) with rfl | rfl | rfl <;> rfl
theorem close_size (now : Int) (m : Lm) : (closeAll now m).size + (opened now m).length = m.size := by
  unfold Lm.size closeAll opened
  simp only [List.length_append]
  split <;> split <;> split <;> simp <;> omega
theorem mem_opened {now : Int} {m : Lm} {x : Int} (h : x ∈ opened now m) : ∃ k, k < 3 ∧ m.open_ now k = true ∧ x ∈ m.items k := by
  unfold opened at h
  simp only [List.mem_append] at h
  rcases h with h | h | h
  · split at h
    · rename_i ho; exact ⟨0, by omega, ho, h⟩
    · cases h
  · split at h
    · rename_i ho; exact ⟨1, by omega, ho, h⟩
    · cases h
  · split at h
    · rename_i ho; exact ⟨2, by omega, ho, h⟩
    · cases h
structure Once (now : Int) (next out : Nat) (m : Lm) (tg came : List Int) : Prop where
  nn : 0 ≤ now
  size : out + m.size = next
  last : m.last ≤ now
  tle : ∀ k, k < 3 → m.tag k ≤ now
  nd : ∀ k, k < 3 → (m.items k).Nodup
  own : ∀ k, k < 3 → ∀ x ∈ m.items k, ∃ n : Nat, x = (n : Int) ∧ n < next ∧ came[n]? = some 0 ∧ tg[n]? = some (m.tag k)
  home : ∀ k, k < 3 → m.items k ≠ [] → bucketOf (m.tag k) = k ∧ 0 ≤ m.tag k
  zero : ∀ n : Nat, next ≤ n → n < 80 → came[n]? = some 0
  lt : tg.length = 80
  lc : came.length = 80
theorem Once.apart {now : Int} {next out : Nat} {m : Lm} {tg came : List Int} (h : Once now next out m tg came) {j k : Nat} (hj : j < 3) (hk : k < 3) {x : Int} (hx : x ∈ m.items j) (hy : x ∈ m.items k) : j = k := by
  obtain ⟨n, rfl, _, _, h1⟩ := h.own j hj x hx
  obtain ⟨n', hn, _, _, h2⟩ := h.own k hk _ hy
  have : n = n' := by omega
  subst this
  rw [h1] at h2
  have ht := Option.some.inj h2
  have e1 := (h.home j hj (List.ne_nil_of_mem hx)).1
  have e2 := (h.home k hk (List.ne_nil_of_mem hy)).1
  rw [ht] at e1
  omega
theorem Once.nodup {now : Int} {next out : Nat} {m : Lm} {tg came : List Int} (h : Once now next out m tg came) (u : Int) : (opened u m).Nodup := by
  have h0 := h.nd 0 (by omega)
  have h1 := h.nd 1 (by omega)
  have h2 := h.nd 2 (by omega)
  unfold opened
  rw [List.nodup_append, List.nodup_append]
  refine ⟨?_, ⟨?_, ?_, ?_⟩, ?_⟩
  · split
    · exact h0
    · exact List.nodup_nil
  · split
    · exact h1
    · exact List.nodup_nil
  · split
    · exact h2
    · exact List.nodup_nil
  · rintro a ha b hb rfl
    split at ha
    · split at hb
      · exact absurd (h.apart (j := 1) (k := 2) (by omega) (by omega) ha hb) (by omega)
      · cases hb
    · cases ha
  · rintro a ha b hb rfl
    split at ha
    · rcases List.mem_append.1 hb with hb | hb
      · split at hb
        · exact absurd (h.apart (j := 0) (k := 1) (by omega) (by omega) ha hb) (by omega)
        · cases hb
      · split at hb
        · exact absurd (h.apart (j := 0) (k := 2) (by omega) (by omega) ha hb) (by omega)
        · cases hb
    · cases ha
/-- What comes out at a step. -/
structure Got (now : Int) (next : Nat) (m' : Lm) (tg came : List Int) (got : List Int) : Prop where
  nd : got.Nodup
  own : ∀ x ∈ got, ∃ n : Nat, x = (n : Int) ∧ n < next ∧ came[n]? = some 0 ∧ ∃ t, tg[n]? = some t ∧ 0 ≤ t ∧ t + 2 ≤ now
  far : ∀ k, k < 3 → ∀ x ∈ m'.items k, x ∉ got
theorem Once.later {now now' : Int} {next out : Nat} {m : Lm} {tg came : List Int} (h : Once now next out m tg came) (hn : now ≤ now') : Once now' next out m tg came :=
  ⟨by have := h.nn; omega, h.size, by have := h.last; omega, fun k hk => by have := h.tle k hk; omega, h.nd, h.own, h.home, h.zero, h.lt, h.lc⟩
/-- What has come out is counted. -/
theorem Once.counted {now : Int} {next out : Nat} {m : Lm} {tg came came' : List Int} {got : List Int} (h : Once now next out m tg came) (hg : Got now next m tg came got) (hl : came'.length = 80)
    (hc : ∀ n : Nat, (n : Int) ∉ got → came'[n]? = came[n]?) : Once now next out m tg came' := by
  refine ⟨h.nn, h.size, h.last, h.tle, h.nd, fun k hk x hx => ?_, h.home, fun n hn h80 => ?_, h.lt, hl⟩
  · obtain ⟨n, rfl, h1, h2, h3⟩ := h.own k hk x hx
    exact ⟨n, rfl, h1, by rw [hc n (hg.far k hk _ hx)]; exact h2, h3⟩
  · rw [hc n (fun hm => by obtain ⟨q, hq, h1, _⟩ := hg.own _ hm; omega)]
    exact h.zero n hn h80
theorem Once.ready {now : Int} {next out : Nat} {m : Lm} {tg came : List Int} (h : Once now next out m tg came) (h2 : 2 ≤ now) :
    Once now next (out + (readyAll now m).1.length) (readyAll now m).2 tg came ∧ Got now next (readyAll now m).2 tg came (readyAll now m).1 := by
  obtain ⟨e1, e2⟩ := readyAll_spec (m := m) h2
  rw [e1, e2.length_eq]
  refine ⟨⟨h.nn, by have := close_size now m; have := h.size; omega, h.last, fun k hk => ?_, fun k hk => ?_, fun k hk x hx => ?_, fun k hk hne => ?_, h.zero, h.lt, h.lc⟩, ⟨?_, fun x hx => ?_, fun k hk x hx hg => ?_⟩⟩
  · rw [close_tag hk]
    split
    · exact h.nn
    · exact h.tle k hk
  · rw [close_items hk]
    split
    · exact List.nodup_nil
    · exact h.nd k hk
  · rw [close_items hk] at hx
    rw [close_tag hk]
    split at hx
    · cases hx
    · rename_i ho; rw [if_neg ho]; exact h.own k hk x hx
  · rw [close_items hk] at hne
    rw [close_tag hk]
    split at hne
    · exact absurd rfl hne
    · rename_i ho; rw [if_neg ho]; exact h.home k hk hne
  · exact e2.nodup_iff.2 (h.nodup now)
  · obtain ⟨k, hk, ho, hxk⟩ := mem_opened (e2.mem_iff.1 hx)
    obtain ⟨n, hn, h1, h3, h4⟩ := h.own k hk x hxk
    refine ⟨n, hn, h1, h3, _, h4, (h.home k hk (List.ne_nil_of_mem hxk)).2, ?_⟩
    simp only [Lm.open_, openM, decide_eq_true_eq] at ho
    omega
  · rw [close_items hk] at hx
    split at hx
    · cases hx
    · rename_i ho
      obtain ⟨j, hj, hoj, hxj⟩ := mem_opened (e2.mem_iff.1 hg)
      have := h.apart hk hj hx hxj
      subst this
      exact ho hoj
end Go.Proofs.Ytinomeobmpaakaa
