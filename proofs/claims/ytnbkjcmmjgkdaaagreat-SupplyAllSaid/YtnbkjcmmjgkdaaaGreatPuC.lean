/-
  A stack's list in its cells; a Pop alone, a Push alone.
-/
import Derived.Test.YtnbkjcmmjgkdaaaGreatPuB
set_option linter.unusedVariables false
set_option linter.unusedSimpArgs false
namespace Go.Proofs.YtnbkjcmmjgkdaaaGreat

/-- From an item on: what is in the links. -/
def ChainL (k : Sk) (m : Mm) : Int → List Int → Prop
  | i, [] => i = -1
  | i, x :: l => i = x ∧ 0 ≤ x ∧ x < k.n ∧ ChainL k m (k.below (m.at_ (k.links + x.toNat))) l
/-- What is in a stack. -/
structure Pool (k : Sk) (m : Mm) (l : List Int) : Prop where
  c : ChainL k m (k.top (m.at_ k.head)) l
  nd : l.Nodup
theorem ChainL.mem {k : Sk} {m : Mm} : ∀ {l : List Int} {i : Int}, ChainL k m i l → ∀ x ∈ l, 0 ≤ x ∧ x < k.n
  | [], _, _, x, hx => by cases hx
  | y :: l, i, h, x, hx => by
    obtain ⟨_, h1, h2, h3⟩ := h
    rcases List.mem_cons.1 hx with rfl | hx
    · exact ⟨h1, h2⟩
    · exact h3.mem x hx
/-- Only the links of what is in it count. -/
theorem ChainL.congr {k : Sk} {m m' : Mm} : ∀ {l : List Int} {i : Int}, ChainL k m i l → (∀ x ∈ l, m'.at_ (k.links + x.toNat) = m.at_ (k.links + x.toNat)) → ChainL k m' i l
  | [], _, h, _ => h
  | y :: l, i, h, e => by
    obtain ⟨h0, h1, h2, h3⟩ := h
    refine ⟨h0, h1, h2, ?_⟩
    rw [e y (by simp)]
    exact h3.congr fun x hx => e x (by simp [hx])
theorem ChainL.uniq {k : Sk} {m : Mm} : ∀ {l l' : List Int} {i : Int}, ChainL k m i l → ChainL k m i l' → l = l'
  | [], [], _, _, _ => rfl
  | [], y :: l', i, h, h' => by
    have e : i = -1 := h
    have := h'.1; have := h'.2.1; omega
  | y :: l, [], i, h, h' => by
    have e : i = -1 := h'
    have := h.1; have := h.2.1; omega
  | x :: l, y :: l', i, h, h' => by
    have e : x = y := h.1.symm.trans h'.1
    subst e
    rw [h.2.2.2.uniq h'.2.2.2]
theorem ChainL.head_ {k : Sk} {m : Mm} {l : List Int} {i : Int} (h : ChainL k m i l) : i = l.headD (-1) := by
  cases l with
  | nil => exact h
  | cons x l => exact h.1
/-- Into the list: what is behind its first ones. -/
theorem ChainL.drop_ {k : Sk} {m : Mm} : ∀ {l : List Int} {i : Int} {j : Nat}, ChainL k m i l → (hj : j < l.length) → ChainL k m (k.below (m.at_ (k.links + (l[j]).toNat))) (l.drop (j + 1))
  | x :: l, i, 0, h, _ => by simpa using h.2.2.2
  | x :: l, i, j + 1, h, hj => by
    have := h.2.2.2.drop_ (j := j) (by simpa using hj)
    simpa using this
/-- So many steps. -/
def popIt (k : Sk) : Nat → PopS × Mm → PopS × Mm
  | 0, s => s
  | n + 1, s => popIt k n (popStep k s.2 s.1)
theorem popIt_add (k : Sk) : ∀ (a b : Nat) (s : PopS × Mm), popIt k (a + b) s = popIt k b (popIt k a s)
  | 0, b, s => by simp [popIt]
  | a + 1, b, s => by
    rw [show a + 1 + b = (a + b) + 1 by omega]
    exact popIt_add k a b _
theorem popIt_succ (k : Sk) (a : Nat) (s : PopS × Mm) : popIt k (a + 1) s = popStep k (popIt k a s).2 (popIt k a s).1 := popIt_add k a 1 s
def Mm.add (m : Mm) (j : Nat) : Mm := ⟨m.ws, m.n + j⟩
/-- A Pop alone, with some of the list taken already. -/
theorem pop_links {k : Sk} {m : Mm} {l : List Int} (hp : Pool k m l) (most : Int) (h1 : 1 ≤ most) (h8 : most ≤ 8) (hl : l ≠ []) :
    ∀ j : Nat, 1 ≤ j → (j : Int) ≤ most → j ≤ l.length → ∃ u : Int, popIt k j (PopS.init most, m) = (⟨most, 1, u, m.at_ k.head, l.take j, false⟩, m.add j) := by
  intro j
  induction j with
  | zero => intro h; omega
  | succ j ih =>
    intro _ hm hj
    rw [popIt_succ]
    by_cases hj0 : j = 0
    · subst hj0
      obtain ⟨x, l', rfl⟩ := List.exists_cons_of_ne_nil hl
      have hc := hp.c
      have e1 : k.top (m.at_ k.head) = x := hc.1
      have e2 := hc.2.1
      refine ⟨0, ?_⟩
      simp only [popIt, PopS.init, popStep, Bool.false_eq_true, if_false, e1, if_pos e2]
      simp [Mm.add, Mm.tick]
      omega
    · obtain ⟨u, hu⟩ := ih (by omega) (by omega) (by omega)
      rw [hu]
      have hlast : lastI (l.take j) = l[j - 1] := by
        unfold lastI
        rw [List.getLastD_eq_getLast?, List.getLast?_eq_getElem?]
        simp only [List.length_take, Nat.min_eq_left (show j ≤ l.length by omega)]
        rw [List.getElem?_take_of_lt (by omega), List.getElem?_eq_getElem (by omega)]; rfl
      have hd := hp.c.drop_ (j := j - 1) (by omega)
      rw [show j - 1 + 1 = j by omega, List.drop_eq_getElem_cons (by omega)] at hd
      have e1 : k.below (m.at_ (k.links + (l[j - 1]).toNat)) = l[j] := hd.1
      have e2 : 0 ≤ l[j] := hd.2.1
      refine ⟨l[j], ?_⟩
      have hat : ∀ i, (m.add j).at_ i = m.at_ i := fun _ => rfl
      have hlen : ((l.take j).length : Int) < most := by rw [List.length_take]; omega
      simp only [popStep, Bool.false_eq_true, if_false, hlast, hat, e1]
      rw [if_pos ⟨e2, hlen⟩, List.take_succ_eq_append_getElem (by omega)]
      simp [Mm.add, Mm.tick]; omega
theorem take_last {l : List Int} {j : Nat} (h0 : 0 < j) (hj : j ≤ l.length) : lastI (l.take j) = l[j - 1] := by
  unfold lastI
  rw [List.getLastD_eq_getLast?, List.getLast?_eq_getElem?]
  simp only [List.length_take, Nat.min_eq_left hj]
  rw [List.getElem?_take_of_lt (by omega), List.getElem?_eq_getElem (by omega)]; rfl
theorem pop_cas {k : Sk} {m : Mm} {l : List Int} (hp : Pool k m l) (most : Int) (h1 : 1 ≤ most) (h8 : most ≤ 8) (hl : l ≠ []) (c : Nat) (hc : (c : Int) = min most l.length) :
    popIt k (c + 1) (PopS.init most, m) = (⟨most, 2, (l.drop c).headD (-1), m.at_ k.head, l.take c, false⟩, m.add (c + 1)) := by
  have hlp := List.length_pos_iff.2 hl
  obtain ⟨u, hu⟩ := pop_links hp most h1 h8 hl c (by omega) (by omega) (by omega)
  rw [popIt_succ, hu]
  have hat : ∀ i, (m.add c).at_ i = m.at_ i := fun _ => rfl
  have hd := (hp.c.drop_ (j := c - 1) (by omega)).head_
  rw [show c - 1 + 1 = c by omega] at hd
  simp only [popStep, Bool.false_eq_true, if_false, take_last (l := l) (j := c) (by omega) (by omega), hat, hd]
  rw [if_neg]
  · simp [Mm.add, Mm.tick]; omega
  · rintro ⟨h2, h3⟩
    rw [List.length_take] at h3
    have : c = l.length := by omega
    rw [this, List.drop_length] at h2
    simp at h2
/-- A Pop alone, of a stack that is not empty. -/
theorem pop_alone {k : Sk} {m : Mm} {l : List Int} {len : Nat} (hk : k.ok len) (hml : m.ws.length = len) (hp : Pool k m l) (most : Int) (h1 : 1 ≤ most) (h8 : most ≤ 8) (hl : l ≠ []) (c : Nat) (hc : (c : Int) = min most l.length) :
    ∃ m', popIt k (c + 2) (PopS.init most, m) = (⟨most, 0, (l.drop c).headD (-1), m.at_ k.head, l.take c, true⟩, m') ∧ m'.n = m.n + (c + 2) ∧ m'.ws.length = len ∧ Pool k m' (l.drop c) ∧ (∀ a, a ≠ k.head → m'.at_ a = m.at_ a) ∧
      (∀ j, j < c + 2 → (popIt k j (PopS.init most, m)).1.done = false) := by
  have hlp := List.length_pos_iff.2 hl
  have hcas := pop_cas hp most h1 h8 hl c hc
  have hat : ∀ i, (m.add (c + 1)).at_ i = m.at_ i := fun _ => rfl
  have hn2 := hk.n2
  have hcd : (l.drop c).headD (-1) = k.below (m.at_ (k.links + (l[c - 1]).toNat)) := by
    have hd := (hp.c.drop_ (j := c - 1) (by omega)).head_
    rw [show c - 1 + 1 = c by omega] at hd
    exact hd.symm
  have hb1 := k.below_ge (m.at_ (k.links + (l[c - 1]).toNat))
  have hb2 := k.below_lt (m.at_ (k.links + (l[c - 1]).toNat))
  have hm1 : (m.add (c + 1)).ws.length = len := hml
  have hhd := hk.h
  have hput : ∀ a v, ((m.add (c + 1)).put k.head v).at_ a = if k.head = a then v else m.at_ a := fun a v => by
    rw [Mm.at_put _ (by omega), hat]
  refine ⟨(m.add (c + 1)).put k.head (nextW (m.at_ k.head) ((l.drop c).headD (-1))), ?_, ?_, ?_, ⟨?_, ?_⟩, ?_, ?_⟩
  · rw [show c + 2 = (c + 1) + 1 by omega, popIt_succ, hcas]
    simp [popStep, hat, Mm.cas]
  · simp [Mm.put, Mm.add]; omega
  · rw [Mm.len_put]; exact hml
  · have e1 : k.top (nextW (m.at_ k.head) ((l.drop c).headD (-1))) = (l.drop c).headD (-1) := by
      unfold Sk.top
      rw [hdI_next (by omega) (by omega), if_pos (by omega)]
    rw [hput, if_pos rfl, e1, hcd]
    have hd := hp.c.drop_ (j := c - 1) (by omega)
    rw [show c - 1 + 1 = c by omega] at hd
    refine hd.congr fun x hx => ?_
    have hx2 := hp.c.mem x (List.mem_of_mem_drop hx)
    rw [hput, if_neg]
    have := hk.a; have := hk.l
    omega
  · exact hp.nd.sublist (List.drop_sublist _ _)
  · intro a ha
    rw [hput, if_neg (fun h => ha h.symm)]
  · intro j hj
    by_cases h0 : j = 0
    · subst h0; rfl
    · by_cases hjc : j ≤ c
      · obtain ⟨u, hu⟩ := pop_links hp most h1 h8 hl j (by omega) (by omega) (by omega)
        rw [hu]
      · rw [show j = c + 1 by omega, hcas]
/-- A Pop alone, of an empty stack. -/
theorem pop_none {k : Sk} {m : Mm} (hp : Pool k m []) (most : Int) : popStep k m (PopS.init most) = (⟨min (max most 1) 8, 0, 0, m.at_ k.head, [], true⟩, m.tick) := by
  have e1 : k.top (m.at_ k.head) = -1 := hp.c
  simp [popStep, PopS.init, e1]
def pushIt (k : Sk) : Nat → PushS × Mm → PushS × Mm
  | 0, s => s
  | n + 1, s => pushIt k n (pushStep k s.2 s.1)
theorem pushIt_add (k : Sk) : ∀ (a b : Nat) (s : PushS × Mm), pushIt k (a + b) s = pushIt k b (pushIt k a s)
  | 0, b, s => by simp [pushIt]
  | a + 1, b, s => by
    rw [show a + 1 + b = (a + b) + 1 by omega]
    exact pushIt_add k a b _
theorem pushIt_succ (k : Sk) (a : Nat) (s : PushS × Mm) : pushIt k (a + 1) s = pushStep k (pushIt k a s).2 (pushIt k a s).1 := pushIt_add k a 1 s
theorem nodup_inj {l : List Int} (h : l.Nodup) {i j : Nat} (hi : i < l.length) (hj : j < l.length) (e : l[i] = l[j]) : i = j := by
  have hp := List.pairwise_iff_getElem.1 h
  rcases Nat.lt_trichotomy i j with h1 | h1 | h1
  · exact absurd e (hp i j hi hj h1)
  · exact h1
  · exact absurd e.symm (hp j i hj hi h1)
theorem Sk.below_link (k : Sk) {i : Int} (h1 : -1 ≤ i) (h2 : i < k.n) : k.below (i + 1).toNat = i := by
  unfold Sk.below
  rw [if_neg (by omega)]
  omega
theorem itI_eq {l : List Int} {i : Nat} (h : i < l.length) : itI l i = l[i] := by simp [itI, h]
/-- The links ahead of the last one. -/
theorem push_links {k : Sk} {m : Mm} {x : List Int} {len : Nat} (hk : k.ok len) (hml : m.ws.length = len) (hx : x ≠ []) (hnd : x.Nodup) (hr : ∀ i ∈ x, 0 ≤ i ∧ i < k.n) :
    ∀ j : Nat, j + 1 ≤ x.length → ∃ m', pushIt k j (PushS.init x, m) = (⟨x, j, 0, false⟩, m') ∧ m'.n = m.n + j ∧ m'.ws.length = len ∧
      (∀ i, i < j → m'.at_ (k.links + (itI x i).toNat) = (itI x (i + 1) + 1).toNat) ∧ (∀ a, (∀ i, i < j → a ≠ k.links + (itI x i).toNat) → m'.at_ a = m.at_ a) := by
  intro j
  induction j with
  | zero => intro _; exact ⟨m, by simp [pushIt, PushS.init, hx], rfl, hml, by omega, fun _ _ => rfl⟩
  | succ j ih =>
    intro hj
    obtain ⟨m', h1, h2, h3, h4, h5⟩ := ih (by omega)
    have hj1 := hr _ (itI_mem (l := x) (i := j) (by omega))
    have hlt : k.links + (itI x j).toNat < m'.ws.length := by have := hk.l; omega
    have hinj : ∀ a b, a < x.length → b < x.length → a ≠ b → k.links + (itI x a).toNat ≠ k.links + (itI x b).toNat := by
      intro a b ha hb hab e
      have ra := hr _ (itI_mem ha); have rb := hr _ (itI_mem hb)
      have : itI x a = itI x b := by omega
      rw [itI_eq ha, itI_eq hb] at this
      exact hab (nodup_inj hnd ha hb this)
    refine ⟨m'.put (k.links + (itI x j).toNat) (itI x (j + 1) + 1).toNat, ?_, ?_, ?_, ?_, ?_⟩
    · rw [pushIt_succ, h1]
      simp only [pushStep, Bool.false_eq_true, if_false]
      rw [if_pos (by omega)]
    · simp [Mm.put]; omega
    · rw [Mm.len_put]; exact h3
    · intro i hi
      rw [Mm.at_put _ hlt]
      by_cases hij : i = j
      · rw [hij, if_pos rfl]
      · rw [if_neg (hinj j i (by omega) (by omega) (by omega))]
        exact h4 i (by omega)
    · intro a ha
      rw [Mm.at_put _ hlt, if_neg (fun h => ha j (by omega) h.symm)]
      exact h5 a fun i hi => ha i (by omega)
theorem chain_app {k : Sk} {m : Mm} {t : Int} {l : List Int} : ∀ x : List Int, x ≠ [] → (∀ i ∈ x, 0 ≤ i ∧ i < k.n) → (∀ i, i + 1 < x.length → k.below (m.at_ (k.links + (itI x i).toNat)) = itI x (i + 1)) →
    k.below (m.at_ (k.links + (itI x (x.length - 1)).toNat)) = t → ChainL k m t l → ChainL k m (itI x 0) (x ++ l)
  | [], h, _, _, _, _ => absurd rfl h
  | [a], _, hr, _, hl, hc => ⟨rfl, (hr a (by simp)).1, (hr a (by simp)).2, by rw [show a = itI [a] ([a].length - 1) from rfl, hl]; exact hc⟩
  | a :: b :: r, _, hr, h, hl, hc => by
    refine ⟨rfl, (hr a (by simp)).1, (hr a (by simp)).2, ?_⟩
    have h0 := h 0 (by simp)
    rw [show itI (a :: b :: r) 0 = a from rfl, show itI (a :: b :: r) (0 + 1) = b from rfl] at h0
    rw [h0]
    exact chain_app (b :: r) (by simp) (fun i hi => hr i (by simp only [List.mem_cons] at hi ⊢; exact .inr hi)) (fun i hi => h (i + 1) (by simpa using hi)) hl hc
theorem Sk.ok.head_ne {k : Sk} {len : Nat} (hk : k.ok len) {x : Int} (h : 0 ≤ x ∧ x < k.n) : k.head ≠ k.links + x.toNat := by
  have := hk.a; have := hk.l
  omega
theorem toNat_ne {a : Nat} {x y : Int} (hx : 0 ≤ x) (hy : 0 ≤ y) (h : x ≠ y) : a + x.toNat ≠ a + y.toNat := by omega
/-- A Push alone: what is pushed is ahead of what was there. -/
theorem push_alone {k : Sk} {m : Mm} {l x : List Int} {len : Nat} (hk : k.ok len) (hml : m.ws.length = len) (hp : Pool k m l) (hx : x ≠ []) (hnd : x.Nodup) (hr : ∀ i ∈ x, 0 ≤ i ∧ i < k.n) (hdj : ∀ i ∈ x, i ∉ l) :
    ∃ m', pushIt k (x.length + 2) (PushS.init x, m) = (⟨x, x.length - 1, m.at_ k.head, true⟩, m') ∧ m'.n = m.n + (x.length + 2) ∧ m'.ws.length = len ∧ Pool k m' (x ++ l) ∧
      (∀ a, a ≠ k.head → (∀ i ∈ x, a ≠ k.links + i.toNat) → m'.at_ a = m.at_ a) ∧ (∀ j, j < x.length + 2 → (pushIt k j (PushS.init x, m)).1.done = false) := by
  have hlp := List.length_pos_iff.2 hx
  obtain ⟨n, hn⟩ : ∃ n, x.length = n + 1 := ⟨x.length - 1, by omega⟩
  obtain ⟨m1, h1, h2, h3, h4, h5⟩ := push_links hk hml hx hnd hr n (by omega)
  have hrn := hr _ (itI_mem (l := x) (i := n) (by omega))
  have hr0 := hr _ (itI_mem (l := x) (i := 0) (by omega))
  have hkl := hk.l; have hka := hk.a; have hkh := hk.h; have hkn := hk.n2
  have hlink : ∀ i ∈ x, k.head ≠ k.links + i.toNat := fun i hi => by have := hr i hi; omega
  have hh1 : m1.at_ k.head = m.at_ k.head := h5 _ fun i hi => hlink _ (itI_mem (by omega))
  have s1 : pushIt k (n + 1) (PushS.init x, m) = (⟨x, n + 1, m.at_ k.head, false⟩, m1.tick) := by
    rw [pushIt_succ, h1]
    simp only [pushStep, Bool.false_eq_true, if_false]
    rw [if_neg (by omega), if_pos hn.symm, hh1]
  have s2 : pushIt k (n + 2) (PushS.init x, m) = (⟨x, n + 2, m.at_ k.head, false⟩, m1.tick.put (k.links + (itI x n).toNat) (k.top (m.at_ k.head) + 1).toNat) := by
    rw [pushIt_succ, s1]
    simp only [pushStep, Bool.false_eq_true, if_false]
    rw [if_neg (by omega), if_neg (by omega), if_pos hn.symm, hn]
    rfl
  have hlt : k.links + (itI x n).toNat < m1.tick.ws.length := by show _ < m1.ws.length; omega
  have hm2 : ∀ a, (m1.tick.put (k.links + (itI x n).toNat) (k.top (m.at_ k.head) + 1).toNat).at_ a = if k.links + (itI x n).toNat = a then (k.top (m.at_ k.head) + 1).toNat else m1.at_ a := fun a => by rw [Mm.at_put _ hlt]; rfl
  generalize hM2 : m1.tick.put (k.links + (itI x n).toNat) (k.top (m.at_ k.head) + 1).toNat = m2 at s2 hm2
  have hl2 : m2.ws.length = len := by rw [← hM2, Mm.len_put]; exact h3
  have hn2 : m2.n = m.n + (n + 2) := by rw [← hM2]; simp [Mm.put, Mm.tick]; omega
  have hh2 : m2.at_ k.head = m.at_ k.head := by rw [hm2, if_neg (fun e => hlink _ (itI_mem (by omega)) e.symm), hh1]
  have hm3 : ∀ a, (m2.put k.head (nextW (m.at_ k.head) (itI x 0))).at_ a = if k.head = a then nextW (m.at_ k.head) (itI x 0) else m2.at_ a := fun a => Mm.at_put _ (by omega)
  refine ⟨m2.put k.head (nextW (m.at_ k.head) (itI x 0)), ?_, ?_, ?_, ⟨?_, ?_⟩, ?_, ?_⟩
  · rw [show x.length + 2 = (n + 2) + 1 by omega, pushIt_succ, s2]
    simp only [pushStep, Bool.false_eq_true, if_false]
    rw [if_neg (by omega), if_neg (by omega), if_neg (by omega), hh2]
    simp [Mm.cas, hh2]
  · simp [Mm.put]; omega
  · rw [Mm.len_put]; exact hl2
  · rw [hm3, if_pos rfl]
    have e1 : k.top (nextW (m.at_ k.head) (itI x 0)) = itI x 0 := by
      unfold Sk.top
      rw [hdI_next (by omega) (by omega), if_pos (by omega)]
    rw [e1]
    -- from the i-th item on
    have hchain : ChainL k (m2.put k.head (nextW (m.at_ k.head) (itI x 0))) (k.top (m.at_ k.head)) l := by
      refine hp.c.congr fun y hy => ?_
      have hy2 := hp.c.mem y hy
      have hyx : ∀ i, i < x.length → itI x i ≠ y := fun i hi e => hdj _ (itI_mem hi) (by rw [e]; exact hy)
      rw [hm3, if_neg (hk.head_ne hy2), hm2, if_neg (toNat_ne hrn.1 hy2.1 (hyx n (by omega))), h5]
      intro i hi
      exact (toNat_ne (hr _ (itI_mem (by omega))).1 hy2.1 (hyx i (by omega))).symm
    refine chain_app x hx hr (fun i hi => ?_) ?_ hchain
    · have hri := hr _ (itI_mem (l := x) (i := i) (by omega))
      have hri1 := hr _ (itI_mem (l := x) (i := i + 1) (by omega))
      have hne : k.links + (itI x n).toNat ≠ k.links + (itI x i).toNat := by
        intro e
        have e' : itI x n = itI x i := by omega
        rw [itI_eq (by omega), itI_eq (by omega)] at e'
        have := nodup_inj hnd _ _ e'
        omega
      rw [hm3, if_neg (hlink _ (itI_mem (by omega))), hm2, if_neg hne, h4 i (by omega)]
      exact k.below_link (by omega) (by omega)
    · rw [hn, Nat.add_sub_cancel, hm3, if_neg (hlink _ (itI_mem (by omega))), hm2, if_pos rfl]
      exact k.below_link (k.top_ge _) (k.top_lt _)
  · rw [List.nodup_append]
    exact ⟨hnd, hp.nd, fun a ha b hb e => hdj a ha (by rw [e]; exact hb)⟩
  · intro a ha hax
    rw [hm3, if_neg (fun h => ha h.symm), hm2, if_neg (fun e => hax _ (itI_mem (l := x) (i := n) (by omega)) e.symm), h5]
    exact fun i hi => hax _ (itI_mem (by omega))
  · intro j hj
    by_cases hj1 : j ≤ n
    · obtain ⟨m', e, _⟩ := push_links hk hml hx hnd hr j (by omega)
      rw [e]
    · by_cases hj2 : j = n + 1
      · rw [hj2, s1]
      · rw [show j = n + 2 by omega, s2]
theorem length_nodup : ∀ (n : Nat) (l : List Int), l.Nodup → (∀ x ∈ l, 0 ≤ x ∧ x < (n : Int)) → l.length ≤ n
  | 0, l, _, h => by
    cases l with
    | nil => simp
    | cons x l => have := h x (by simp); omega
  | n + 1, l, hd, h => by
    have h1 := length_nodup n (l.erase (n : Int)) (hd.erase _) fun x hx => by
      have h2 := h x (List.mem_of_mem_erase hx)
      have h3 : x ≠ n := fun e => by subst e; exact (List.Nodup.not_mem_erase hd) hx
      omega
    rw [List.length_erase] at h1
    split at h1 <;> omega
/-- A stack's list, walked along. -/
def walkL (k : Sk) (m : Mm) : Nat → Int → List Int
  | 0, _ => []
  | f + 1, i => if 0 ≤ i then i :: walkL k m f (k.below (m.at_ (k.links + i.toNat))) else []
theorem walk_chain {k : Sk} {m : Mm} : ∀ {f : Nat} {l : List Int} {i : Int}, ChainL k m i l → l.length ≤ f → walkL k m f i = l
  | 0, [], _, _, _ => rfl
  | 0, _ :: _, _, _, h => by simp at h
  | f + 1, [], i, h, _ => by
    have e : i = -1 := h
    subst e; rfl
  | f + 1, x :: l, i, h, hl => by
    obtain ⟨rfl, h1, h2, h3⟩ := h
    simp only [walkL, if_pos h1]
    rw [walk_chain h3 (by simpa using hl)]
def listK (k : Sk) (m : Mm) : List Int := walkL k m k.n (k.top (m.at_ k.head))
theorem list_pool {k : Sk} {m : Mm} {l : List Int} (h : Pool k m l) : listK k m = l := walk_chain h.c (length_nodup k.n l h.nd (h.c.mem))
/-- All of them. -/
def fillUp (k : Sk) (m : Mm) : Nat → Mm
  | 0 => m
  | i + 1 => (fillUp k m i).lay (k.links + i) (i + 2)
def fillM (k : Sk) (m : Mm) : Mm := ((fillUp k m k.n).lay (k.links + k.n - 1) 0).lay k.head 1
def iotaI (n : Nat) : List Int := (List.range n).map fun (i : Nat) => (i : Int)
theorem fillUp_len (k : Sk) (m : Mm) : ∀ i, (fillUp k m i).ws.length = m.ws.length
  | 0 => rfl
  | i + 1 => by simp only [fillUp, Mm.len_lay]; exact fillUp_len k m i
theorem fillUp_n (k : Sk) (m : Mm) : ∀ i, (fillUp k m i).n = m.n
  | 0 => rfl
  | i + 1 => fillUp_n k m i
theorem fillUp_ok {k : Sk} {m : Mm} (h : m.ok) : ∀ i, i ≤ 100000 → (fillUp k m i).ok
  | 0, _ => h
  | i + 1, hi => Mm.ok_lay (fillUp_ok h i (by omega)) (by omega)
theorem fillUp_at {k : Sk} {m : Mm} : ∀ {i : Nat}, k.links + i ≤ m.ws.length → (∀ j, j < i → (fillUp k m i).at_ (k.links + j) = j + 2) ∧ (∀ a, (∀ j, j < i → a ≠ k.links + j) → (fillUp k m i).at_ a = m.at_ a)
  | 0, _ => ⟨fun j hj => by omega, fun _ _ => rfl⟩
  | i + 1, h => by
    have ih := fillUp_at (k := k) (m := m) (i := i) (by omega)
    have hl := fillUp_len k m i
    refine ⟨fun j hj => ?_, fun a ha => ?_⟩
    · simp only [fillUp]
      rw [Mm.at_lay _ (by omega)]
      split
      · omega
      · exact ih.1 j (by omega)
    · simp only [fillUp]
      rw [Mm.at_lay _ (by omega), if_neg (fun e => ha i (by omega) e.symm)]
      exact ih.2 a fun j hj => ha j (by omega)
theorem fillM_len (k : Sk) (m : Mm) : (fillM k m).ws.length = m.ws.length := by unfold fillM; rw [Mm.len_lay, Mm.len_lay, fillUp_len]
theorem fillM_n (k : Sk) (m : Mm) : (fillM k m).n = m.n := fillUp_n k m k.n
theorem iota_nodup (n : Nat) : (iotaI n).Nodup := by
  unfold iotaI
  refine List.Pairwise.map _ (fun (a b : Nat) (h : a ≠ b) => ?_) List.nodup_range
  omega
theorem iota_get {n i : Nat} (h : i < n) : itI (iotaI n) i = i := by
  rw [itI_eq (by simpa [iotaI] using h)]
  simp [iotaI]
theorem fill_pool {k : Sk} {m : Mm} {len : Nat} (hk : k.ok len) (hl : m.ws.length = len) : Pool k (fillM k m) (iotaI k.n) ∧ (∀ a, a ≠ k.head → (∀ j, j < k.n → a ≠ k.links + j) → (fillM k m).at_ a = m.at_ a) := by
  have k1 := hk.n1; have k2 := hk.n2; have k3 := hk.h; have k4 := hk.l; have k5 := hk.a
  have hu := fillUp_at (k := k) (m := m) (i := k.n) (by omega)
  have hul := fillUp_len k m k.n
  have hat : ∀ a, (fillM k m).at_ a = if k.head = a then 1 else if k.links + k.n - 1 = a then 0 else (fillUp k m k.n).at_ a := fun a => by
    unfold fillM
    rw [Mm.at_lay _ (by rw [Mm.len_lay]; omega), Mm.at_lay _ (by omega)]
  have hlen : (iotaI k.n).length = k.n := by simp [iotaI]
  refine ⟨⟨?_, iota_nodup _⟩, fun a h1 h2 => ?_⟩
  · have h0 : k.top ((fillM k m).at_ k.head) = 0 := by
      rw [hat, if_pos rfl]
      unfold Sk.top hdI
      rw [if_pos (by omega)]; rfl
    rw [h0]
    have := chain_app (k := k) (m := fillM k m) (t := -1) (l := []) (iotaI k.n) (fun e => by rw [e] at hlen; simp at hlen; omega) (fun x hx => by
      simp only [iotaI, List.mem_map, List.mem_range] at hx
      obtain ⟨j, hj, rfl⟩ := hx
      omega) (fun i hi => ?_) ?_ rfl
    · rw [iota_get (by omega), List.append_nil] at this
      exact this
    · rw [iota_get (by omega), iota_get (by omega), Int.toNat_natCast, hat, if_neg (by omega), if_neg (by omega), hu.1 i (by omega)]
      have := k.below_link (i := ((i + 1 : Nat) : Int)) (by omega) (by omega)
      rw [show (((i + 1 : Nat) : Int) + 1).toNat = i + 2 by omega] at this
      exact this
    · rw [hlen, iota_get (by omega), Int.toNat_natCast, hat, if_neg (by omega), if_pos (by omega)]
      unfold Sk.below
      rw [if_neg (by omega)]; rfl
  · rw [hat, if_neg (fun e => h1 e.symm), if_neg (fun e => h2 (k.n - 1) (by omega) (by omega))]
    exact hu.2 a h2
end Go.Proofs.YtnbkjcmmjgkdaaaGreat
