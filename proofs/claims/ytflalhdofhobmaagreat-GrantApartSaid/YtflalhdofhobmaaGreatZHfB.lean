/-
  Parts of the proof, merged: what the statement leans on.
-/
import Derived.Test.YtflalhdofhobmaaGreatProg
import Derived.KernelRfl
import Derived.Test.YtflalhdofhobmaaGreatZHfA
/-
  A stack's list in its cells; a Pop alone, a Push alone.
-/
set_option linter.unusedVariables false
set_option linter.unusedSimpArgs false
namespace Go.Proofs.YtflalhdofhobmaaGreat
/-- From an item on: what is in the links. -/
def ChainL (k : Sk) (m : Mm) : Int → List Int → Prop
  | i, [] => i = -1
  | i, x :: l => i = x ∧ 0 ≤ x ∧ x < k.n ∧ ChainL k m (k.below (m.at_ (k.links + x.toNat))) l
/-- What is in a stack. -/
structure Pool (k : Sk) (m : Mm) (l : List Int) : Prop where
  c : ChainL k m (k.top (m.at_ k.head)) l
  nd : l.Nodup
theorem ChainL.mem {k : Sk} {m : Mm} : ∀ {l : List Int} {i : Int}, ChainL k m i l → ∀ x ∈ l, 0 ≤ x ∧ x < k.n
  | [], _, _, x, hx => by cases hx
  | y :: l, i, h, x, hx => by
    obtain ⟨_, h1, h2, h3⟩ := h
    rcases List.mem_cons.1 hx with rfl | hx
    · exact ⟨h1, h2⟩
    · exact h3.mem x hx
/-- Only the links of what is in it count. -/
theorem ChainL.congr {k : Sk} {m m' : Mm} : ∀ {l : List Int} {i : Int}, ChainL k m i l → (∀ x ∈ l, m'.at_ (k.links + x.toNat) = m.at_ (k.links + x.toNat)) → ChainL k m' i l
  | [], _, h, _ => h
  | y :: l, i, h, e => by
    obtain ⟨h0, h1, h2, h3⟩ := h
    refine ⟨h0, h1, h2, ?_⟩
    rw [e y (by simp)]
    exact h3.congr fun x hx => e x (by simp [hx])
theorem ChainL.head_ {k : Sk} {m : Mm} {l : List Int} {i : Int} (h : ChainL k m i l) : i = l.headD (-1) := by
  cases l with
  | nil => exact h
  | cons x l => exact h.1
/-- Into the list: what is behind its first ones. -/
theorem ChainL.drop_ {k : Sk} {m : Mm} : ∀ {l : List Int} {i : Int} {j : Nat}, ChainL k m i l → (hj : j < l.length) → ChainL k m (k.below (m.at_ (k.links + (l[j]).toNat))) (l.drop (j + 1))
  | x :: l, i, 0, h, _ => by simpa using h.2.2.2
  | x :: l, i, j + 1, h, hj => by
    have := h.2.2.2.drop_ (j := j) (by simpa using hj)
    simpa using this
/-- So many steps. -/
def popIt (k : Sk) : Nat → PopS × Mm → PopS × Mm
  | 0, s => s
  | n + 1, s => popIt k n (popStep k s.2 s.1)
theorem popIt_add (k : Sk) : ∀ (a b : Nat) (s : PopS × Mm), popIt k (a + b) s = popIt k b (popIt k a s)
  | 0, b, s => by simp [popIt]
  | a + 1, b, s => by
    rw [show a + 1 + b = (a + b) + 1 by omega]
    exact popIt_add k a b _
theorem popIt_succ (k : Sk) (a : Nat) (s : PopS × Mm) : popIt k (a + 1) s = popStep k (popIt k a s).2 (popIt k a s).1 := popIt_add k a 1 s
def Mm.add (m : Mm) (j : Nat) : Mm := ⟨m.ws, m.n + j⟩
/-- A Pop alone, with some of the list taken already. -/
theorem pop_links {k : Sk} {m : Mm} {l : List Int} (hp : Pool k m l) (most : Int) (h1 : 1 ≤ most) (h8 : most ≤ 8) (hl : l ≠ []) :
    ∀ j : Nat, 1 ≤ j → (j : Int) ≤ most → j ≤ l.length → ∃ u : Int, popIt k j (PopS.init most, m) = (⟨most, 1, u, m.at_ k.head, l.take j, false⟩, m.add j) := by
  intro j
  induction j with
  | zero => intro h; omega
  | succ j ih =>
    intro _ hm hj
    rw [popIt_succ]
    by_cases hj0 : j = 0
    · subst hj0
      obtain ⟨x, l', rfl⟩ := List.exists_cons_of_ne_nil hl
      have hc := hp.c
      have e1 : k.top (m.at_ k.head) = x := hc.1
      have e2 := hc.2.1
      refine ⟨0, ?_⟩
      simp only [popIt, PopS.init, popStep, Bool.false_eq_true, if_false, e1, if_pos e2]
      simp [Mm.add, Mm.tick]
      omega
    · obtain ⟨u, hu⟩ := ih (by omega) (by omega) (by omega)
      rw [hu]
      have hlast : lastI (l.take j) = l[j - 1] := by
        unfold lastI
        rw [List.getLastD_eq_getLast?, List.getLast?_eq_getElem?]
        simp only [List.length_take, Nat.min_eq_left (show j ≤ l.length by omega)]
        rw [List.getElem?_take_of_lt (by omega), List.getElem?_eq_getElem (by omega)]; rfl
      have hd := hp.c.drop_ (j := j - 1) (by omega)
      rw [show j - 1 + 1 = j by omega, List.drop_eq_getElem_cons (by omega)] at hd
      have e1 : k.below (m.at_ (k.links + (l[j - 1]).toNat)) = l[j] := hd.1
      have e2 : 0 ≤ l[j] := hd.2.1
      refine ⟨l[j], ?_⟩
      have hat : ∀ i, (m.add j).at_ i = m.at_ i := fun _ => rfl
      have hlen : ((l.take j).length : Int) < most := by rw [List.length_take]; omega
      simp only [popStep, Bool.false_eq_true, if_false, hlast, hat, e1]
      rw [if_pos ⟨e2, hlen⟩, List.take_succ_eq_append_getElem (by omega)]
      simp [Mm.add, Mm.tick]; omega
theorem take_last {l : List Int} {j : Nat} (h0 : 0 < j) (hj : j ≤ l.length) : lastI (l.take j) = l[j - 1] := by
  unfold lastI
  rw [List.getLastD_eq_getLast?, List.getLast?_eq_getElem?]
  simp only [List.length_take, Nat.min_eq_left hj]
  rw [List.getElem?_take_of_lt (by omega), List.getElem?_eq_getElem (by omega)]; rfl
theorem pop_cas {k : Sk} {m : Mm} {l : List Int} (hp : Pool k m l) (most : Int) (h1 : 1 ≤ most) (h8 : most ≤ 8) (hl : l ≠ []) (c : Nat) (hc : (c : Int) = min most l.length) :
    popIt k (c + 1) (PopS.init most, m) = (⟨most, 2, (l.drop c).headD (-1), m.at_ k.head, l.take c, false⟩, m.add (c + 1)) := by
  have hlp := List.length_pos_iff.2 hl
  obtain ⟨u, hu⟩ := pop_links hp most h1 h8 hl c (by omega) (by omega) (by omega)
  rw [popIt_succ, hu]
  have hat : ∀ i, (m.add c).at_ i = m.at_ i := fun _ => rfl
  have hd := (hp.c.drop_ (j := c - 1) (by omega)).head_
  rw [show c - 1 + 1 = c by omega] at hd
  simp only [popStep, Bool.false_eq_true, if_false, take_last (l := l) (j := c) (by omega) (by omega), hat, hd]
  rw [if_neg]
  · simp [Mm.add, Mm.tick]; omega
  · rintro ⟨h2, h3⟩
    rw [List.length_take] at h3
    have : c = l.length := by omega
    rw [this, List.drop_length] at h2
    simp at h2
/-- A Pop alone, of a stack that is not empty. -/
theorem pop_alone {k : Sk} {m : Mm} {l : List Int} {len : Nat} (hk : k.ok len) (hml : m.ws.length = len) (hp : Pool k m l) (most : Int) (h1 : 1 ≤ most) (h8 : most ≤ 8) (hl : l ≠ []) (c : Nat) (hc : (c : Int) = min most l.length) :
    ∃ m', popIt k (c + 2) (PopS.init most, m) = (⟨most, 0, (l.drop c).headD (-1), m.at_ k.head, l.take c, true⟩, m') ∧ m'.n = m.n + (c + 2) ∧ m'.ws.length = len ∧ Pool k m' (l.drop c) ∧ (∀ a, a ≠ k.head → m'.at_ a = m.at_ a) ∧
      (∀ j, j < c + 2 → (popIt k j (PopS.init most, m)).1.done = false) := by
  have hlp := List.length_pos_iff.2 hl
  have hcas := pop_cas hp most h1 h8 hl c hc
  have hat : ∀ i, (m.add (c + 1)).at_ i = m.at_ i := fun _ => rfl
  have hn2 := hk.n2
  have hcd : (l.drop c).headD (-1) = k.below (m.at_ (k.links + (l[c - 1]).toNat)) := by
    have hd := (hp.c.drop_ (j := c - 1) (by omega)).head_
    rw [show c - 1 + 1 = c by omega] at hd
    exact hd.symm
  have hb1 := k.below_ge (m.at_ (k.links + (l[c - 1]).toNat))
  have hb2 := k.below_lt (m.at_ (k.links + (l[c - 1]).toNat))
  have hm1 : (m.add (c + 1)).ws.length = len := hml
  have hhd := hk.h
  have hput : ∀ a v, ((m.add (c + 1)).put k.head v).at_ a = if k.head = a then v else m.at_ a := fun a v => by
    rw [Mm.at_put _ (by omega), hat]
  refine ⟨(m.add (c + 1)).put k.head (nextW (m.at_ k.head) ((l.drop c).headD (-1))), ?_, ?_, ?_, ⟨?_, ?_⟩, ?_, ?_⟩
  · rw [show c + 2 = (c + 1) + 1 by omega, popIt_succ, hcas]
    simp [popStep, hat, Mm.cas]
  · simp [Mm.put, Mm.add]; omega
  · rw [Mm.len_put]; exact hml
  · have e1 : k.top (nextW (m.at_ k.head) ((l.drop c).headD (-1))) = (l.drop c).headD (-1) := by
      unfold Sk.top
      rw [hdI_next (by omega) (by omega), if_pos (by omega)]
    rw [hput, if_pos rfl, e1, hcd]
    have hd := hp.c.drop_ (j := c - 1) (by omega)
    rw [show c - 1 + 1 = c by omega] at hd
    refine hd.congr fun x hx => ?_
    have hx2 := hp.c.mem x (List.mem_of_mem_drop hx)
    rw [hput, if_neg]
    have := hk.a; have := hk.l
    omega
  · exact hp.nd.sublist (List.drop_sublist _ _)
  · intro a ha
    rw [hput, if_neg (fun h => ha h.symm)]
  · intro j hj
    by_cases h0 : j = 0
    · subst h0; rfl
    · by_cases hjc : j ≤ c
      · obtain ⟨u, hu⟩ := pop_links hp most h1 h8 hl j (by omega) (by omega) (by omega)
        rw [hu]
      · rw [show j = c + 1 by omega, hcas]
/-- A Pop alone, of an empty stack. -/
theorem pop_none {k : Sk} {m : Mm} (hp : Pool k m []) (most : Int) : popStep k m (PopS.init most) = (⟨min (max most 1) 8, 0, 0, m.at_ k.head, [], true⟩, m.tick) := by
  have e1 : k.top (m.at_ k.head) = -1 := hp.c
  simp [popStep, PopS.init, e1]
theorem nodup_inj {l : List Int} (h : l.Nodup) {i j : Nat} (hi : i < l.length) (hj : j < l.length) (e : l[i] = l[j]) : i = j := by
  have hp := List.pairwise_iff_getElem.1 h
  rcases Nat.lt_trichotomy i j with h1 | h1 | h1
  · exact absurd e (hp i j hi hj h1)
  · exact h1
  · exact absurd e.symm (hp j i hj hi h1)
theorem Sk.below_link (k : Sk) {i : Int} (h1 : -1 ≤ i) (h2 : i < k.n) : k.below (i + 1).toNat = i := by
  unfold Sk.below
  rw [if_neg (by omega)]
  omega
theorem itI_eq {l : List Int} {i : Nat} (h : i < l.length) : itI l i = l[i] := by simp [itI, h]
theorem chain_app {k : Sk} {m : Mm} {t : Int} {l : List Int} : ∀ x : List Int, x ≠ [] → (∀ i ∈ x, 0 ≤ i ∧ i < k.n) → (∀ i, i + 1 < x.length → k.below (m.at_ (k.links + (itI x i).toNat)) = itI x (i + 1)) →
    k.below (m.at_ (k.links + (itI x (x.length - 1)).toNat)) = t → ChainL k m t l → ChainL k m (itI x 0) (x ++ l)
  | [], h, _, _, _, _ => absurd rfl h
  | [a], _, hr, _, hl, hc => ⟨rfl, (hr a (by simp)).1, (hr a (by simp)).2, by rw [show a = itI [a] ([a].length - 1) from rfl, hl]; exact hc⟩
  | a :: b :: r, _, hr, h, hl, hc => by
    refine ⟨rfl, (hr a (by simp)).1, (hr a (by simp)).2, ?_⟩
    have h0 := h 0 (by simp)
    rw [show itI (a :: b :: r) 0 = a from rfl, show itI (a :: b :: r) (0 + 1) = b from rfl] at h0
    rw [h0]
    exact chain_app (b :: r) (by simp) (fun i hi => hr i (by simp only [List.mem_cons] at hi ⊢; exact .inr hi)) (fun i hi => h (i + 1) (by simpa using hi)) hl hc
theorem Sk.ok.head_ne {k : Sk} {len : Nat} (hk : k.ok len) {x : Int} (h : 0 ≤ x ∧ x < k.n) : k.head ≠ k.links + x.toNat := by
  have := hk.a; have := hk.l
  omega
theorem toNat_ne {a : Nat} {x y : Int} (hx : 0 ≤ x) (hy : 0 ≤ y) (h : x ≠ y) : a + x.toNat ≠ a + y.toNat := by omega
theorem length_nodup : ∀ (n : Nat) (l : List Int), l.Nodup → (∀ x ∈ l, 0 ≤ x ∧ x < (n : Int)) → l.length ≤ n
  | 0, l, _, h => by
    cases l with
    | nil => simp
    | cons x l => have := h x (by simp); omega
  | n + 1, l, hd, h => by
    have h1 := length_nodup n (l.erase (n : Int)) (hd.erase _) fun x hx => by
      have h2 := h x (List.mem_of_mem_erase hx)
      have h3 : x ≠ n := fun e => by subst e; exact (List.Nodup.not_mem_erase hd) hx
      omega
    rw [List.length_erase] at h1
    split at h1 <;> omega
/-- All of them. -/
def fillUp (k : Sk) (m : Mm) : Nat → Mm
  | 0 => m
  | i + 1 => (fillUp k m i).lay (k.links + i) (i + 2)
def fillM (k : Sk) (m : Mm) : Mm := ((fillUp k m k.n).lay (k.links + k.n - 1) 0).lay k.head 1
def iotaI (n : Nat) : List Int := (List.range n).map fun (i : Nat) => (i : Int)
theorem fillUp_len (k : Sk) (m : Mm) : ∀ i, (fillUp k m i).ws.length = m.ws.length
  | 0 => rfl
  | i + 1 => by simp only [fillUp, Mm.len_lay]; exact fillUp_len k m i
theorem fillUp_n (k : Sk) (m : Mm) : ∀ i, (fillUp k m i).n = m.n
  | 0 => rfl
  | i + 1 => fillUp_n k m i
theorem fillUp_ok {k : Sk} {m : Mm} (h : m.ok) : ∀ i, i ≤ 100000 → (fillUp k m i).ok
  | 0, _ => h
  | i + 1, hi => Mm.ok_lay (fillUp_ok h i (by omega)) (by omega)
theorem fillUp_at {k : Sk} {m : Mm} : ∀ {i : Nat}, k.links + i ≤ m.ws.length → (∀ j, j < i → (fillUp k m i).at_ (k.links + j) = j + 2) ∧ (∀ a, (∀ j, j < i → a ≠ k.links + j) → (fillUp k m i).at_ a = m.at_ a)
  | 0, _ => ⟨fun j hj => by omega, fun _ _ => rfl⟩
  | i + 1, h => by
    have ih := fillUp_at (k := k) (m := m) (i := i) (by omega)
    have hl := fillUp_len k m i
    refine ⟨fun j hj => ?_, fun a ha => ?_⟩
    · simp only [fillUp]
      rw [Mm.at_lay _ (by omega)]
      split
      · omega
      · exact ih.1 j (by omega)
    · simp only [fillUp]
      rw [Mm.at_lay _ (by omega), if_neg (fun e => ha i (by omega) e.symm)]
      exact ih.2 a fun j hj => ha j (by omega)
theorem fillM_len (k : Sk) (m : Mm) : (fillM k m).ws.length = m.ws.length := by unfold fillM; rw [Mm.len_lay, Mm.len_lay, fillUp_len]
theorem fillM_n (k : Sk) (m : Mm) : (fillM k m).n = m.n := fillUp_n k m k.n
theorem iota_nodup (n : Nat) : (iotaI n).Nodup := by
  unfold iotaI
  refine List.Pairwise.map _ (fun (a b : Nat) (h : a ≠ b) => ?_) List.nodup_range
  omega
theorem iota_get {n i : Nat} (h : i < n) : itI (iotaI n) i = i := by
  rw [itI_eq (by simpa [iotaI] using h)]
  simp [iotaI]
theorem fill_pool {k : Sk} {m : Mm} {len : Nat} (hk : k.ok len) (hl : m.ws.length = len) : Pool k (fillM k m) (iotaI k.n) ∧ (∀ a, a ≠ k.head → (∀ j, j < k.n → a ≠ k.links + j) → (fillM k m).at_ a = m.at_ a) := by
  have k1 := hk.n1; have k2 := hk.n2; have k3 := hk.h; have k4 := hk.l; have k5 := hk.a
  have hu := fillUp_at (k := k) (m := m) (i := k.n) (by omega)
  have hul := fillUp_len k m k.n
  have hat : ∀ a, (fillM k m).at_ a = if k.head = a then 1 else if k.links + k.n - 1 = a then 0 else (fillUp k m k.n).at_ a := fun a => by
    unfold fillM
    rw [Mm.at_lay _ (by rw [Mm.len_lay]; omega), Mm.at_lay _ (by omega)]
  have hlen : (iotaI k.n).length = k.n := by simp [iotaI]
  refine ⟨⟨?_, iota_nodup _⟩, fun a h1 h2 => ?_⟩
  · have h0 : k.top ((fillM k m).at_ k.head) = 0 := by
      rw [hat, if_pos rfl]
      unfold Sk.top hdI
      rw [if_pos (by omega)]; rfl
    rw [h0]
    have := chain_app (k := k) (m := fillM k m) (t := -1) (l := []) (iotaI k.n) (fun e => by rw [e] at hlen; simp at hlen; omega) (fun x hx => by
      simp only [iotaI, List.mem_map, List.mem_range] at hx
      obtain ⟨j, hj, rfl⟩ := hx
      omega) (fun i hi => ?_) ?_ rfl
    · rw [iota_get (by omega), List.append_nil] at this
      exact this
    · rw [iota_get (by omega), iota_get (by omega), Int.toNat_natCast, hat, if_neg (by omega), if_neg (by omega), hu.1 i (by omega)]
      have := k.below_link (i := ((i + 1 : Nat) : Int)) (by omega) (by omega)
      rw [show (((i + 1 : Nat) : Int) + 1).toNat = i + 2 by omega] at this
      exact this
    · rw [hlen, iota_get (by omega), Int.toNat_natCast, hat, if_neg (by omega), if_pos (by omega)]
      unfold Sk.below
      rw [if_neg (by omega)]; rfl
  · rw [hat, if_neg (fun e => h1 e.symm), if_neg (fun e => h2 (k.n - 1) (by omega) (by omega))]
    exact hu.2 a h2
end Go.Proofs.YtflalhdofhobmaaGreat

/-
  A stack that many pop from and push to, one access at a time: what holds between the accesses.
-/
set_option linter.unusedVariables false
set_option linter.unusedSimpArgs false
namespace Go.Proofs.YtflalhdofhobmaaGreat
theorem Pool.tick {k : Sk} {m : Mm} {l : List Int} (h : Pool k m l) : Pool k m.tick l := ⟨h.c.congr fun _ _ => rfl, h.nd⟩
/-- What holds of a Pop between its accesses: what it has is the beginning of the list, as long as the head is as it was. -/
structure PopI (k : Sk) (m : Mm) (l : List Int) (q : PopS) : Prop where
  le : hdT q.was ≤ hdT (m.at_ k.head)
  eq : hdT q.was = hdT (m.at_ k.head) → q.was = m.at_ k.head
  pre : q.was = m.at_ k.head → (∃ r, l = q.got ++ r) ∧ (q.at_ = 2 → q.under = (l.drop q.got.length).headD (-1))
def PopH (k : Sk) (m : Mm) (l : List Int) (q : PopS) : Prop := q.done = false → q.at_ ≠ 0 → PopI k m l q
structure PushI (k : Sk) (m : Mm) (p : PushS) : Prop where
  links : ∀ i, i + 1 < p.l.length → i < p.at_ → m.at_ (k.links + (itI p.l i).toNat) = (itI p.l (i + 1) + 1).toNat
  last : p.at_ = p.l.length + 1 → m.at_ (k.links + (itI p.l (p.l.length - 1)).toNat) = (k.top p.was + 1).toNat
  le : p.l.length ≤ p.at_ → hdT p.was ≤ hdT (m.at_ k.head)
  eq : p.l.length ≤ p.at_ → hdT p.was = hdT (m.at_ k.head) → p.was = m.at_ k.head
def PushH (k : Sk) (m : Mm) (p : PushS) : Prop := p.done = false → PushI k m p
/-- What another one's access may do to a stack: the head stays, and the list; or its tag goes on. -/
def HeadGoes (k : Sk) (m m' : Mm) (l l' : List Int) : Prop := (m'.at_ k.head = m.at_ k.head ∧ l' = l) ∨ hdT (m.at_ k.head) < hdT (m'.at_ k.head)
theorem PopH.frame {k : Sk} {m m' : Mm} {l l' : List Int} {q : PopS} (h : PopH k m l q) (g : HeadGoes k m m' l l') : PopH k m' l' q := by
  intro hd ha
  have h := h hd ha
  rcases g with ⟨e, rfl⟩ | g
  · exact ⟨by rw [e]; exact h.le, by rw [e]; exact h.eq, by rw [e]; exact h.pre⟩
  · have hl := h.le
    exact ⟨by omega, fun e => by omega, fun e => by rw [← e] at g; omega⟩
theorem PushH.frame {k : Sk} {m m' : Mm} {l l' : List Int} {p : PushS} (h : PushH k m p) (g : HeadGoes k m m' l l') (hl : ∀ x ∈ p.l, m'.at_ (k.links + x.toNat) = m.at_ (k.links + x.toNat)) (hne : p.done = false → p.l ≠ []) : PushH k m' p := by
  intro hd
  have hlp := List.length_pos_iff.2 (hne hd)
  have h := h hd
  refine ⟨fun i h1 h2 => by rw [hl _ (itI_mem (by omega))]; exact h.links i h1 h2, fun ha => by rw [hl _ (itI_mem (by omega))]; exact h.last ha, fun ha => ?_, fun ha => ?_⟩
  · have := h.le ha
    rcases g with ⟨e, _⟩ | g
    · rw [e]; exact this
    · omega
  · have := h.le ha
    rcases g with ⟨e, _⟩ | g
    · rw [e]; exact h.eq ha
    · intro e; omega
/-- No tag comes round again. -/
def Tagged (k : Sk) (m : Mm) : Prop := hdT (m.at_ k.head) < 4294967295
theorem laterT_gt {t : Nat} (h : t < 4294967295) : laterT t = t + 1 := by unfold laterT; rw [if_pos h]
/-- One access of a Pop. -/
theorem popStep_inv {k : Sk} {m : Mm} {l : List Int} {q : PopS} {len : Nat} (hk : k.ok len) (hml : m.ws.length = len) (hp : Pool k m l) (hq : q.ok k) (ht : Tagged k m) (h : PopH k m l q) :
    ∃ l', Pool k (popStep k m q).2 l' ∧ PopH k (popStep k m q).2 l' (popStep k m q).1 ∧ HeadGoes k m (popStep k m q).2 l l' ∧ (∀ a, a ≠ k.head → (popStep k m q).2.at_ a = m.at_ a) ∧ hdT ((popStep k m q).2.at_ k.head) ≤ hdT (m.at_ k.head) + 1 ∧
      ((popStep k m q).1.done = false → l' = l) ∧ (q.done = false → (popStep k m q).1.done = true → l = (popStep k m q).1.got ++ l') := by
  have h8 := hk.n2
  cases hd : q.done with
  | true =>
    have e : popStep k m q = (q, m) := by unfold popStep; rw [if_pos hd]
    rw [e]
    exact ⟨l, hp, h, .inl ⟨rfl, rfl⟩, fun _ _ => rfl, Nat.le_succ _, fun _ => rfl, fun h => by cases h⟩
  | false =>
    have ha := hq.a
    rcases (show q.at_ = 0 ∨ q.at_ = 1 ∨ q.at_ = 2 by omega) with h0 | h0 | h0
    · by_cases ht0 : 0 ≤ k.top (m.at_ k.head)
      · have e : popStep k m q = ({ q with was := m.at_ k.head, got := [k.top (m.at_ k.head)], at_ := 1 }, m.tick) := by
          unfold popStep; rw [hd, h0]; simp only [Bool.false_eq_true, if_false]; rw [if_pos ht0]
        rw [e]
        refine ⟨l, hp.tick, fun _ _ => ⟨Nat.le_refl _, fun _ => rfl, fun _ => ⟨?_, fun h => by cases h⟩⟩, .inl ⟨rfl, rfl⟩, fun _ _ => rfl, by show hdT (m.at_ k.head) ≤ _; omega, fun _ => rfl, fun _ h => by simp only at h; rw [hd] at h; cases h⟩
        cases l with
        | nil => have : k.top (m.at_ k.head) = -1 := hp.c; omega
        | cons x r => exact ⟨r, by rw [hp.c.1]; rfl⟩
      · have e : popStep k m q = ({ q with was := m.at_ k.head, got := [], done := true }, m.tick) := by
          unfold popStep; rw [hd, h0]; simp only [Bool.false_eq_true, if_false]; rw [if_neg ht0]
        rw [e]
        exact ⟨l, hp.tick, fun h => (by cases h), .inl ⟨rfl, rfl⟩, fun _ _ => rfl, by show hdT (m.at_ k.head) ≤ _; omega, fun _ => rfl, fun _ _ => rfl⟩
    · have hI := h hd (by omega)
      have hne := hq.ne hd (by omega)
      have hlp := List.length_pos_iff.2 hne
      have hnext : q.was = m.at_ k.head → k.below (m.at_ (k.links + (lastI q.got).toNat)) = (l.drop q.got.length).headD (-1) := fun hw => by
        obtain ⟨⟨r, hr⟩, _⟩ := hI.pre hw
        have hj : q.got.length - 1 < l.length := by rw [hr, List.length_append]; omega
        have hd' := (hp.c.drop_ (j := q.got.length - 1) hj).head_
        rw [show q.got.length - 1 + 1 = q.got.length by omega] at hd'
        rw [← hd']
        have e1 : l[q.got.length - 1] = lastI q.got := by
          have : l[q.got.length - 1]? = some (lastI q.got) := by
            rw [hr, List.getElem?_append_left (by omega)]
            unfold lastI
            rw [List.getLastD_eq_getLast?, List.getLast?_eq_getElem?, List.getElem?_eq_getElem (by omega)]; rfl
          rw [List.getElem?_eq_getElem hj] at this
          exact Option.some.inj this
        rw [e1]
      by_cases hb : 0 ≤ k.below (m.at_ (k.links + (lastI q.got).toNat)) ∧ (q.got.length : Int) < q.most
      · have e : popStep k m q = ({ q with under := k.below (m.at_ (k.links + (lastI q.got).toNat)), got := q.got ++ [k.below (m.at_ (k.links + (lastI q.got).toNat))] }, m.tick) := by
          unfold popStep; rw [hd, h0]; simp only [Bool.false_eq_true, if_false]; rw [if_pos hb]
        rw [e]
        refine ⟨l, hp.tick, fun _ _ => ⟨hI.le, hI.eq, fun hw => ⟨?_, fun h => by simp only at h; omega⟩⟩, .inl ⟨rfl, rfl⟩, fun _ _ => rfl, by show hdT (m.at_ k.head) ≤ _; omega, fun _ => rfl, fun _ h => by simp only at h; rw [hd] at h; cases h⟩
        obtain ⟨⟨r, hr⟩, _⟩ := hI.pre hw
        have hn := hnext hw
        rw [hr, List.drop_left] at hn
        cases r with
        | nil => rw [hn] at hb; simp at hb
        | cons y r => exact ⟨r, by simp only; rw [hn, hr]; simp⟩
      · have e : popStep k m q = ({ q with under := k.below (m.at_ (k.links + (lastI q.got).toNat)), at_ := 2 }, m.tick) := by
          unfold popStep; rw [hd, h0]; simp only [Bool.false_eq_true, if_false]; rw [if_neg hb]
        rw [e]
        exact ⟨l, hp.tick, fun _ _ => ⟨hI.le, hI.eq, fun hw => ⟨(hI.pre hw).1, fun _ => hnext hw⟩⟩, .inl ⟨rfl, rfl⟩, fun _ _ => rfl, by show hdT (m.at_ k.head) ≤ _; omega, fun _ => rfl, fun _ h => by simp only at h; rw [hd] at h; cases h⟩
    · have hI := h hd (by omega)
      have e : popStep k m q = ({ q with at_ := 0, done := decide (m.at_ k.head = q.was) }, m.cas k.head q.was (nextW q.was q.under)) := by
        unfold popStep; rw [hd, h0]; rfl
      rw [e]
      by_cases hw : m.at_ k.head = q.was
      · obtain ⟨⟨r, hr⟩, hu⟩ := hI.pre hw.symm
        have hu := hu h0
        rw [hr, List.drop_left] at hu
        have hu1 := hq.u1; have hu2 := hq.u2
        have hput : ∀ a v, (m.put k.head v).at_ a = if k.head = a then v else m.at_ a := fun a v => Mm.at_put _ (by have := hk.h; omega)
        have hcas : m.cas k.head q.was (nextW q.was q.under) = m.put k.head (nextW q.was q.under) := by unfold Mm.cas; rw [if_pos hw]
        have htag : hdT (nextW q.was q.under) = hdT (m.at_ k.head) + 1 := by rw [hdT_next hu1 (by omega), ← hw, laterT_gt ht]
        dsimp only
        rw [hcas, decide_eq_true hw]
        refine ⟨r, ⟨?_, ?_⟩, fun h => (by cases h), .inr ?_, fun a ha => by rw [hput, if_neg (fun h => ha h.symm)], ?_, fun h => (by cases h), fun _ _ => hr⟩
        · have e1 : k.top ((m.put k.head (nextW q.was q.under)).at_ k.head) = r.headD (-1) := by
            rw [hput, if_pos rfl, ← hu]
            unfold Sk.top
            rw [hdI_next hu1 (by omega), if_pos hu2]
          rw [e1]
          have hlp := List.length_pos_iff.2 (hq.ne hd (by omega))
          have hj : q.got.length - 1 < l.length := by rw [hr, List.length_append]; omega
          have hc := hp.c.drop_ (j := q.got.length - 1) hj
          have hdr : l.drop q.got.length = r := by rw [hr, List.drop_left]
          rw [show q.got.length - 1 + 1 = q.got.length by omega, hdr] at hc
          have hh := hc.head_
          rw [hh] at hc
          refine hc.congr fun x hx => ?_
          have hx2 := hp.c.mem x (by rw [hr]; exact List.mem_append_right _ hx)
          rw [hput, if_neg (hk.head_ne hx2)]
        · have := hp.nd; rw [hr] at this; exact (List.nodup_append.1 this).2.1
        · rw [hput, if_pos rfl, htag]; omega
        · rw [hput, if_pos rfl, htag]; omega
      · have hcas : m.cas k.head q.was (nextW q.was q.under) = m.tick := by unfold Mm.cas; rw [if_neg hw]
        dsimp only
        rw [hcas, decide_eq_false hw]
        exact ⟨l, hp.tick, fun _ h => absurd rfl h, .inl ⟨rfl, rfl⟩, fun _ _ => rfl, by show hdT (m.at_ k.head) ≤ _; omega, fun _ => rfl, fun _ h => by cases h⟩
/-- One access of a Push. -/
theorem pushStep_inv {k : Sk} {m : Mm} {l : List Int} {p : PushS} {len : Nat} (hk : k.ok len) (hml : m.ws.length = len) (hp : Pool k m l) (hq : p.ok k) (hnd : p.l.Nodup) (hdj : ∀ x ∈ p.l, x ∉ l) (ht : Tagged k m) (h : PushH k m p) :
    ∃ l', Pool k (pushStep k m p).2 l' ∧ PushH k (pushStep k m p).2 (pushStep k m p).1 ∧ HeadGoes k m (pushStep k m p).2 l l' ∧ (∀ a, a ≠ k.head → (∀ x ∈ p.l, a ≠ k.links + x.toNat) → (pushStep k m p).2.at_ a = m.at_ a) ∧ hdT ((pushStep k m p).2.at_ k.head) ≤ hdT (m.at_ k.head) + 1 ∧
      (pushStep k m p).1.l = p.l ∧ ((pushStep k m p).1.done = false → l' = l) ∧ (p.done = false → (pushStep k m p).1.done = true → l' = p.l ++ l) := by
  have h8 := hk.n2; have hkl := hk.l; have hkh := hk.h
  cases hd : p.done with
  | true =>
    have e : pushStep k m p = (p, m) := by unfold pushStep; rw [if_pos hd]
    rw [e]
    exact ⟨l, hp, h, .inl ⟨rfl, rfl⟩, fun _ _ _ => rfl, Nat.le_succ _, rfl, fun _ => rfl, fun h => by cases h⟩
  | false =>
    have hI := h hd
    have ha := hq.a
    have hne := hq.ne hd
    have hlp := List.length_pos_iff.2 hne
    have hg : ∀ i, i < p.l.length → 0 ≤ itI p.l i ∧ itI p.l i < k.n := fun i hi => hq.g _ (itI_mem hi)
    have hinj : ∀ a b, a < p.l.length → b < p.l.length → a ≠ b → k.links + (itI p.l a).toNat ≠ k.links + (itI p.l b).toNat := by
      intro a b ha hb hab e
      have ra := hg a ha; have rb := hg b hb
      have : itI p.l a = itI p.l b := by omega
      rw [itI_eq ha, itI_eq hb] at this
      exact hab (nodup_inj hnd ha hb this)
    have hhl : ∀ i, i < p.l.length → k.head ≠ k.links + (itI p.l i).toNat := fun i hi => hk.head_ne (hg i hi)
    -- the store of a link that is one's own
    have hst : ∀ i v, i < p.l.length → (∀ a, (m.put (k.links + (itI p.l i).toNat) v).at_ a = if k.links + (itI p.l i).toNat = a then v else m.at_ a) ∧ Pool k (m.put (k.links + (itI p.l i).toNat) v) l := fun i v hi => by
      have hput : ∀ a, (m.put (k.links + (itI p.l i).toNat) v).at_ a = if k.links + (itI p.l i).toNat = a then v else m.at_ a := fun a => Mm.at_put _ (by have := hg i hi; omega)
      refine ⟨hput, ?_, hp.nd⟩
      rw [hput, if_neg (fun e => hhl i hi e.symm)]
      refine hp.c.congr fun x hx => ?_
      have hx2 := hp.c.mem x hx
      rw [hput, if_neg (toNat_ne (hg i hi).1 hx2.1 (fun e => hdj _ (itI_mem hi) (by rw [e]; exact hx)))]
    by_cases h1 : p.at_ + 1 < p.l.length
    · have e : pushStep k m p = ({ p with at_ := p.at_ + 1 }, m.put (k.links + (itI p.l p.at_).toNat) (itI p.l (p.at_ + 1) + 1).toNat) := by
        unfold pushStep; rw [hd]; simp only [Bool.false_eq_true, if_false]; rw [if_pos h1]
      rw [e]
      obtain ⟨hput, hpool⟩ := hst p.at_ (itI p.l (p.at_ + 1) + 1).toNat (by omega)
      refine ⟨l, hpool, fun _ => ⟨fun i hi1 hi2 => ?_, fun hh => by simp only at hh; omega, fun hh => by simp only at hh; omega, fun hh => by simp only at hh; omega⟩, .inl ⟨?_, rfl⟩, fun a _ hx => ?_, ?_, rfl, fun _ => rfl, fun _ h => by simp only at h; rw [hd] at h; cases h⟩
      · simp only at hi1 hi2 ⊢
        rw [hput]
        by_cases hip : i = p.at_
        · rw [hip, if_pos rfl]
        · rw [if_neg (hinj p.at_ i (by omega) (by omega) (by omega))]
          exact hI.links i hi1 (by omega)
      · rw [hput, if_neg (fun e => hhl _ (by omega) e.symm)]
      · rw [hput, if_neg (fun e => hx _ (itI_mem (l := p.l) (i := p.at_) (by omega)) e.symm)]
      · dsimp only
        rw [hput, if_neg (fun e => hhl _ (by omega) e.symm)]; omega
    · by_cases h2 : p.at_ + 1 = p.l.length
      · have e : pushStep k m p = ({ p with at_ := p.at_ + 1, was := m.at_ k.head }, m.tick) := by
          unfold pushStep; rw [hd]; simp only [Bool.false_eq_true, if_false]; rw [if_neg h1, if_pos h2]
        rw [e]
        exact ⟨l, hp.tick, fun _ => ⟨fun i hi1 hi2 => hI.links i hi1 (by simp only at hi1 hi2; omega), fun hh => by simp only at hh; omega, fun _ => Nat.le_refl _, fun _ _ => rfl⟩, .inl ⟨rfl, rfl⟩, fun _ _ _ => rfl, by show hdT (m.at_ k.head) ≤ _; omega, rfl, fun _ => rfl, fun _ h => by simp only at h; rw [hd] at h; cases h⟩
      · by_cases h3 : p.at_ = p.l.length
        · have e : pushStep k m p = ({ p with at_ := p.at_ + 1 }, m.put (k.links + (itI p.l (p.l.length - 1)).toNat) (k.top p.was + 1).toNat) := by
            unfold pushStep; rw [hd]; simp only [Bool.false_eq_true, if_false]; rw [if_neg h1, if_neg h2, if_pos h3]
          rw [e]
          obtain ⟨hput, hpool⟩ := hst (p.l.length - 1) (k.top p.was + 1).toNat (by omega)
          have hh0 : (m.put (k.links + (itI p.l (p.l.length - 1)).toNat) (k.top p.was + 1).toNat).at_ k.head = m.at_ k.head := by rw [hput, if_neg (fun e => hhl _ (by omega) e.symm)]
          refine ⟨l, hpool, fun _ => ⟨fun i hi1 hi2 => ?_, fun _ => ?_, fun _ => ?_, fun _ => ?_⟩, .inl ⟨hh0, rfl⟩, fun a _ hx => ?_, ?_, rfl, fun _ => rfl, fun _ h => by simp only at h; rw [hd] at h; cases h⟩
          · simp only at hi1 hi2 ⊢
            rw [hput, if_neg (hinj (p.l.length - 1) i (by omega) (by omega) (by omega))]
            exact hI.links i hi1 (by omega)
          · simp only
            rw [hput, if_pos rfl]
          · simp only; rw [hh0]; exact hI.le (by omega)
          · simp only; rw [hh0]; exact hI.eq (by omega)
          · rw [hput, if_neg (fun e => hx _ (itI_mem (l := p.l) (i := p.l.length - 1) (by omega)) e.symm)]
          · dsimp only; rw [hh0]; omega
        · have h4 : p.at_ = p.l.length + 1 := by omega
          have e : pushStep k m p = ({ p with at_ := p.l.length - 1, done := decide (m.at_ k.head = p.was) }, m.cas k.head p.was (nextW p.was (itI p.l 0))) := by
            unfold pushStep; rw [hd]; simp only [Bool.false_eq_true, if_false]; rw [if_neg h1, if_neg h2, if_neg h3]
          rw [e]
          by_cases hw : m.at_ k.head = p.was
          · have h00 := hg 0 hlp
            have hput : ∀ a v, (m.put k.head v).at_ a = if k.head = a then v else m.at_ a := fun a v => Mm.at_put _ (by omega)
            have hcas : m.cas k.head p.was (nextW p.was (itI p.l 0)) = m.put k.head (nextW p.was (itI p.l 0)) := by unfold Mm.cas; rw [if_pos hw]
            have htag : hdT (nextW p.was (itI p.l 0)) = hdT (m.at_ k.head) + 1 := by rw [hdT_next (by omega) (by omega), ← hw, laterT_gt ht]
            dsimp only
            rw [hcas, decide_eq_true hw]
            refine ⟨p.l ++ l, ⟨?_, ?_⟩, fun h => (by cases h), .inr ?_, fun a ha _ => by rw [hput, if_neg (fun h => ha h.symm)], ?_, rfl, fun h => (by cases h), fun _ _ => rfl⟩
            · have e1 : k.top ((m.put k.head (nextW p.was (itI p.l 0))).at_ k.head) = itI p.l 0 := by
                rw [hput, if_pos rfl]
                unfold Sk.top
                rw [hdI_next (by omega) (by omega), if_pos h00.2]
              rw [e1]
              refine chain_app (t := k.top p.was) p.l hne hq.g (fun i hi => ?_) ?_ ?_
              · rw [hput, if_neg (hhl i (by omega)), hI.links i hi (by omega)]
                have := hg (i + 1) hi
                exact k.below_link (by omega) this.2
              · rw [hput, if_neg (hhl _ (by omega)), hI.last h4]
                exact k.below_link (k.top_ge _) (k.top_lt _)
              · rw [← hw]
                refine hp.c.congr fun x hx => ?_
                rw [hput, if_neg (hk.head_ne (hp.c.mem x hx))]
            · rw [List.nodup_append]
              exact ⟨hnd, hp.nd, fun a ha b hb e => hdj a ha (by rw [e]; exact hb)⟩
            · rw [hput, if_pos rfl, htag]; omega
            · rw [hput, if_pos rfl, htag]; omega
          · have hcas : m.cas k.head p.was (nextW p.was (itI p.l 0)) = m.tick := by unfold Mm.cas; rw [if_neg hw]
            dsimp only
            rw [hcas, decide_eq_false hw]
            exact ⟨l, hp.tick, fun _ => ⟨fun i hi1 hi2 => hI.links i hi1 (by simp only at hi1 hi2; omega), fun hh => by simp only at hh; omega, fun hh => by simp only at hh; omega, fun hh => by simp only at hh; omega⟩, .inl ⟨rfl, rfl⟩, fun _ _ _ => rfl, by show hdT (m.at_ k.head) ≤ _; omega, rfl, fun _ => rfl, fun _ h => by cases h⟩
end Go.Proofs.YtflalhdofhobmaaGreat

/-
  Roots' words; sizes; a Create, an End, an Alloc, one access at a time.
-/
set_option linter.unusedVariables false
set_option linter.unusedSimpArgs false
namespace Go.Proofs.YtflalhdofhobmaaGreat
/-- A root. -/
structure Rt where
  gen : Nat
  mrk : Nat
  cl : Nat
  off : Nat
def rtOf (w : Nat) : Rt := ⟨w / 4294967296, w / 65536 % 65536, w / 4096 % 16, w % 4096⟩
def Rt.w (r : Rt) : Nat := r.gen * 4294967296 + r.mrk * 65536 + r.cl * 4096 + r.off
structure Rt.ok (r : Rt) : Prop where
  g : r.gen < 4294967296
  m : r.mrk ≤ 4097
  c : r.cl ≤ 3
  o : r.off ≤ 1024
theorem rtOf_w {r : Rt} (h : r.ok) : rtOf r.w = r := by
  obtain ⟨g, m, c, o⟩ := r
  obtain ⟨h1, h2, h3, h4⟩ := h
  dsimp only at h1 h2 h3 h4
  unfold rtOf Rt.w
  dsimp only
  rw [show (g * 4294967296 + m * 65536 + c * 4096 + o) / 4294967296 = g by omega, show (g * 4294967296 + m * 65536 + c * 4096 + o) / 65536 % 65536 = m by omega,
    show (g * 4294967296 + m * 65536 + c * 4096 + o) / 4096 % 16 = c by omega, show (g * 4294967296 + m * 65536 + c * 4096 + o) % 4096 = o by omega]
theorem Rt.w_lt {r : Rt} (h : r.ok) : r.w < 18446744073709551616 := by
  obtain ⟨h1, h2, h3, h4⟩ := h
  unfold Rt.w; omega
theorem rtOf_gen {w : Nat} (h : w < 18446744073709551616) : (rtOf w).gen < 4294967296 := by show w / 4294967296 < _; omega
theorem rtOf_mrk (w : Nat) : (rtOf w).mrk < 65536 := by show w / 65536 % 65536 < _; omega
theorem rtOf_cl (w : Nat) : (rtOf w).cl < 16 := by show w / 4096 % 16 < _; omega
theorem rtOf_off (w : Nat) : (rtOf w).off < 4096 := by show w % 4096 < _; omega
theorem rt_zero_ok : (rtOf 0).ok := ⟨by decide, by decide, by decide, by decide⟩
def Rt.live (r : Rt) (gen : Int) : Prop := 1 ≤ r.mrk ∧ (r.gen : Int) = gen
instance (r : Rt) (gen : Int) : Decidable (r.live gen) := by unfold Rt.live; infer_instance
def Rt.chunk (r : Rt) : Int := if r.mrk < 2 then -1 else (r.mrk : Int) - 2
/-! Sizes. -/
def roundS (cl n : Nat) : Nat := (n + 2 ^ cl - 1) / 2 ^ cl * 2 ^ cl
def fitsS (wd off need : Nat) : Prop := 2 * need ≤ wd ∧ off + need ≤ wd
instance (wd off need : Nat) : Decidable (fitsS wd off need) := by unfold fitsS; infer_instance
def afterS (wd need : Nat) : Nat := if wd < 2 * need then wd else need
theorem roundS_cases {cl n : Nat} (h : cl ≤ 3) : (cl = 0 ∧ roundS cl n = n) ∨ (cl = 1 ∧ roundS cl n = (n + 1) / 2 * 2) ∨ (cl = 2 ∧ roundS cl n = (n + 3) / 4 * 4) ∨ (cl = 3 ∧ roundS cl n = (n + 7) / 8 * 8) := by
  rcases (show cl = 0 ∨ cl = 1 ∨ cl = 2 ∨ cl = 3 by omega) with rfl | rfl | rfl | rfl
  · exact .inl ⟨rfl, by unfold roundS; omega⟩
  · exact .inr (.inl ⟨rfl, by unfold roundS; omega⟩)
  · exact .inr (.inr (.inl ⟨rfl, by unfold roundS; omega⟩))
  · exact .inr (.inr (.inr ⟨rfl, by unfold roundS; omega⟩))
theorem roundS_le {cl n wd : Nat} (h : cl ≤ 3) (hn : n ≤ wd) (hw : wd % 8 = 0) : roundS cl n ≤ wd := by
  rcases roundS_cases (n := n) h with h | h | h | h <;> omega
theorem roundS_ge {cl n : Nat} (h : cl ≤ 3) : n ≤ roundS cl n := by
  rcases roundS_cases (n := n) h with h | h | h | h <;> omega
theorem afterS_le {wd need : Nat} (h : need ≤ wd) : afterS wd need ≤ wd := by unfold afterS; split <;> omega
/-! A Create: at: 0: the Pop, 1: the Load of the root, 2: its Store. -/
structure CreS where
  at_ : Nat
  cnt : Nat
  slot : Int
  point : Nat
  was : Nat
  code : Nat
  q : PopS
  done : Bool
def CreS.init : CreS := ⟨0, 0, -1, 0, 0, 0, PopS.init 1, false⟩
/-- The root of a slot behind one that was. -/
def nextRt (cl w : Nat) : Rt := ⟨laterT (rtOf w).gen, 1, cl, 0⟩
theorem nextRt_ok {cl w : Nat} (h : w < 18446744073709551616) (hc : cl ≤ 3) : (nextRt cl w).ok := ⟨laterT_lt (rtOf_gen h), by show 1 ≤ 4097; omega, hc, by show 0 ≤ 1024; omega⟩
def crPopped (c : CreS) : CreS :=
  match c.q.got with
  | [] => { c with point := c.cnt, code := 7, done := true }
  | s :: _ => { c with point := c.cnt, slot := s, at_ := 1 }
def crStep (k : Sk) (ro cl : Nat) (m : Mm) (c : CreS) : CreS × Mm :=
  if c.done then (c, m) else
  match c.at_ with
  | 0 => if (popStep k m c.q).1.done then (crPopped { c with cnt := c.cnt + 1, q := (popStep k m c.q).1 }, (popStep k m c.q).2) else ({ c with cnt := c.cnt + 1, q := (popStep k m c.q).1 }, (popStep k m c.q).2)
  | 1 => ({ c with cnt := c.cnt + 1, was := m.at_ (ro + c.slot.toNat), at_ := 2 }, m.tick)
  | _ => ({ c with cnt := c.cnt + 1, done := true }, m.put (ro + c.slot.toNat) (nextRt cl c.was).w)
/-- What may be of a Create. -/
structure CreS.ok (k : Sk) (c : CreS) : Prop where
  a : c.at_ ≤ 2
  q : c.q.ok k
  w : c.was < 18446744073709551616
  s : c.at_ ≠ 0 → 0 ≤ c.slot ∧ c.slot < k.n
  n : c.cnt ≤ 1000000
def crIt (k : Sk) (ro cl : Nat) : Nat → CreS × Mm → CreS × Mm
  | 0, r => r
  | j + 1, r => crStep k ro cl (crIt k ro cl j r).2 (crIt k ro cl j r).1
/-! An End: at: 0: the Load, 1: the Cas. -/
structure EndS where
  at_ : Nat
  cnt : Nat
  was : Nat
  code : Nat
  chunk : Int
  point : Nat
  done : Bool
def EndS.init : EndS := ⟨0, 0, 0, 0, -1, 0, false⟩
/-! An Alloc: at: 0: the Load of the root, 1: the Cas behind Off, 2: the Take, 3: the words, 4: the link, 5: the Cas of a new chunk, 6: the Spill. -/
structure Hd where
  slot : Int
  gen : Int
  chunk : Int
  off : Int
  len : Int
def Hd.zero : Hd := ⟨0, 0, 0, 0, 0⟩
structure AlV where
  cnt : Nat
  hand : Int
  zat : Nat
  asked : Bool
  ends : Bool
  need : Nat
  point : Nat
  was : Nat
  code : Nat
  obj : Hd
structure AlS where
  at_ : Nat
  v : AlV
  t : TakeS
  g : PushS
  done : Bool
def AlV.init : AlV := ⟨0, -1, 0, false, false, 0, 0, 0, 0, Hd.zero⟩
end Go.Proofs.YtflalhdofhobmaaGreat

/-
  Two ways that come together: what both reach is walked once.
-/
set_option linter.unusedVariables false
namespace Go.Proofs.YtflalhdofhobmaaGreat
open Go
section
variable {P : Program} {N : Nat} {e : En} {K : Kx} {L M F : St} {β : Type _}
/-- A way that goes on ends in one of the states named; any other is as it was. -/
def Kjn (K : Kx) (T : β → En) (S : β → St) : Kx
  | .nm, e, L => ∃ y, sub (T y) e ∧ Ent L (S y)
  | .rt, e, L => K .rt e L
  | .ex i, e, L => K (.ex i) e L
theorem Kjn.nm {T : β → En} {S : β → St} (y : β) (h1 : sub (T y) e) (h2 : Ent L (S y)) : Kjn K T S .nm e L := ⟨y, h1, h2⟩
theorem Kjn.rt {T : β → En} {S : β → St} (h : K .rt e L) : Kjn K T S .rt e L := h
theorem Kjn.ex {T : β → En} {S : β → St} {i : Nat} (h : K (.ex i) e L) : Kjn K T S (.ex i) e L := h
theorem Cx.jn {c d : C} (T : β → En) (S : β → St) (hc : Cx P N c e (Kjn (Ksq P N d K) T S) L) (hd : ∀ y, Cx P N d (T y) K (S y)) : Cx P N c e (Ksq P N d K) L := by
  intro code Q a w0 w hx ok s k
  refine hc code Q a w0 w hx ok s fun z a' w' e' L' hk ok' s' => ?_
  cases z with
  | nm =>
    obtain ⟨y, su, en⟩ := hk
    exact k .nm a' w' (T y) (S y) (hd y) (ok'.sub su) (s'.ent en)
  | rt => exact k .rt a' w' e' L' hk ok' s'
  | ex i => exact k (.ex i) a' w' e' L' hk ok' s'
end
end Go.Proofs.YtflalhdofhobmaaGreat

/-
  Regions that draw their order, where nothing that is done turns what is known of the memory: whatever the order, it comes to what the listed order comes to.
-/
set_option linter.unusedVariables false
set_option linter.unusedSimpArgs false
namespace Go.Proofs.YtflalhdofhobmaaGreat
open Go
/-- What is known of these temporaries. -/
def En.only (e : En) : List Nat → En
  | [] => []
  | t :: r => match e.get t with | some v => (t, v) :: En.only e r | none => En.only e r
theorem only_get {e : En} : ∀ {rs : List Nat} {t : Nat} {u : Value}, (e.only rs).get t = some u → t ∈ rs ∧ e.get t = some u
  | [], t, u, h => by simp [En.only, En.get] at h
  | a :: r, t, u, h => by
    unfold En.only at h
    split at h
    · rename_i v hv
      simp only [En.get] at h
      cases hb : Nat.beq a t with
      | true =>
        rw [hb, cond_true] at h
        have := Nat.eq_of_beq_eq_true hb
        subst this
        cases h
        exact ⟨by simp, hv⟩
      | false =>
        rw [hb, cond_false] at h
        have := only_get h
        exact ⟨by simp [this.1], this.2⟩
    · have := only_get h
      exact ⟨by simp [this.1], this.2⟩
theorem put_ne {e : En} {d : Option Nat} {v : Value} {t : Nat} (h : d ≠ some t) : (e.put d v).get t = e.get t := by
  cases d with
  | none => rfl
  | some i =>
    have hit : Nat.beq i t = false := by
      cases hb : Nat.beq i t with
      | false => rfl
      | true => exact absurd (by rw [Nat.eq_of_beq_eq_true hb]) h
    simp [En.put, En.get, hit]
theorem put_eq {e : En} {d : Nat} {v : Value} : (e.put (some d) v).get d = some v := by simp [En.put, En.get]
section
variable {P : Program} {N : Nat} {L F : St}
/-- One operation that comes to v and leaves what is known of the memory. -/
def Sc (P : Program) (N : Nat) (g : G) (e : En) (v : Value) (L : St) : Prop := ∀ K : En → St → Prop, K (e.put g.d v) L → Sx P N [g] e K L
/-- The listed order. -/
def Calm (P : Program) (N : Nat) (L : St) : List It → En → En → Prop
  | [], e, fin => fin = e
  | x :: r, e, fin => ∃ v, (∀ e', sub (e.only x.rs) e' → Sc P N x.g e' v L) ∧ Calm P N L r (e.put x.g.d v) fin
def dOK (d : Option Nat) (rs : List Nat) : Bool := match d with | none => true | some d => !(rs.any (Nat.beq d))
def okL : List It → Bool
  | [] => true
  | x :: r => (dOK x.g.d x.rs && r.all (fun y => dOK y.g.d x.rs && dOK y.g.d (match x.g.d with | some d => [d] | none => []))) && okL r
def okD (l : List It) : Bool := l.all fun x => l.all fun y => dOK y.g.d x.rs || bit x.ds y.i
def okI : Nat → List It → Bool
  | _, [] => true
  | n, x :: r => Nat.beq x.i n && okI (n + 1) r
def chk (l : List It) : Bool := okL l && (okD l && okI 0 l)
theorem dOK_iff {d : Option Nat} {rs : List Nat} (h : dOK d rs = true) : ∀ t, d = some t → t ∉ rs := by
  rintro t rfl ht
  simp only [dOK, Bool.not_eq_true', List.any_eq_false] at h
  exact h t ht (by simp)
theorem okI_inj : ∀ {l : List It} {n : Nat}, okI n l = true → ∀ x ∈ l, n ≤ x.i ∧ ∀ y ∈ l, x.i = y.i → x = y
  | [], _, _, x, hx => by cases hx
  | a :: r, n, h, x, hx => by
    simp only [okI, Bool.and_eq_true] at h
    have ha := Nat.eq_of_beq_eq_true h.1
    have ih := okI_inj h.2
    rcases List.mem_cons.1 hx with rfl | hxr
    · refine ⟨by omega, fun y hy he => ?_⟩
      rcases List.mem_cons.1 hy with rfl | hyr
      · rfl
      · have := (ih y hyr).1; omega
    · have h1 := ih x hxr
      refine ⟨by omega, fun y hy he => ?_⟩
      rcases List.mem_cons.1 hy with rfl | hyr
      · omega
      · exact h1.2 y hyr he
theorem calm_far : ∀ {l : List It} {e fin : En}, Calm P N L l e fin → ∀ t, (∀ y ∈ l, y.g.d ≠ some t) → fin.get t = e.get t
  | [], _, _, h, t, _ => by rw [show _ = _ from h]
  | x :: r, e, fin, ⟨v, _, hr⟩, t, ht => by
    rw [calm_far hr t (fun y hy => ht y (by simp [hy])), put_ne (ht x (by simp))]
theorem calm_each : ∀ {l : List It} {e fin : En}, okL l = true → Calm P N L l e fin → ∀ x ∈ l, ∃ v, (∀ d, x.g.d = some d → fin.get d = some v) ∧
    ∀ e' : En, (∀ t ∈ x.rs, ∀ u, fin.get t = some u → e'.get t = some u) → Sc P N x.g e' v L
  | [], _, _, _, _, x, hx => by cases hx
  | a :: r, e, fin, ho, ⟨v, ha, hr⟩, x, hx => by
    simp only [okL, Bool.and_eq_true, List.all_eq_true] at ho
    obtain ⟨⟨h1, h2⟩, h3⟩ := ho
    rcases List.mem_cons.1 hx with rfl | hxr
    · refine ⟨v, fun d hd => ?_, fun e' he => ha e' fun t u ht => ?_⟩
      · rw [calm_far hr d (fun y hy hyd => by
          have := dOK_iff (h2 y hy).2 d hyd
          rw [hd] at this
          simp at this)]
        rw [hd]; exact put_eq
      · obtain ⟨htr, hu⟩ := only_get ht
        refine he t htr u ?_
        rw [calm_far hr t (fun y hy hyd => dOK_iff (h2 y hy).1 t hyd htr), put_ne (fun hd => dOK_iff h1 t hd htr)]
        exact hu
    · exact calm_each h3 hr x hxr
theorem without_lt {rem : List It} {x : It} (hx : x ∈ rem) : (without rem x.i).length < rem.length := by
  unfold without
  exact List.length_filter_lt_length_iff_exists.2 ⟨x, hx, by simp⟩
theorem calm_run {l : List It} {fin : En} {K : En → St → Prop} (hi : okI 0 l = true) (hd : okD l = true)
    (hH : ∀ x ∈ l, ∃ v, (∀ d, x.g.d = some d → fin.get d = some v) ∧ ∀ e' : En, (∀ t ∈ x.rs, ∀ u, fin.get t = some u → e'.get t = some u) → Sc P N x.g e' v L) (hK : ∀ e', sub fin e' → K e' L) :
    ∀ (n : Nat) (rem : List It), rem.length = n → (∀ x ∈ rem, x ∈ l) → ∀ e', (∀ t u, fin.get t = some u → (∀ y ∈ rem, y.g.d ≠ some t) → e'.get t = some u) → Rx P N rem [] (fun _ => True) e' K L := by
  intro n
  induction n using Nat.strongRecOn with
  | _ n ih =>
    intro rem hn hsub e' he
    refine Rx.all (fun h0 => hK e' fun t u ht => he t u ht (by rw [h0]; simp)) fun x hx => ⟨by simp, ?_⟩
    have hx1 : x ∈ rem ∧ ready x rem = true := by simpa [readies] using hx
    have hrd : ∀ y ∈ rem, bit x.ds y.i = false := by
      have := hx1.2
      simpa [ready] using this
    obtain ⟨v, hv, hS⟩ := hH x (hsub x hx1.1)
    refine hS e' (fun t ht u hu => he t u hu fun y hy hyd => ?_) _ ⟨trivial, ?_⟩
    · simp only [okD, List.all_eq_true, Bool.or_eq_true] at hd
      rcases hd x (hsub x hx1.1) y (hsub y hy) with h | h
      · exact dOK_iff h t hyd ht
      · rw [hrd y hy] at h; cases h
    · refine ih _ (by rw [← hn]; exact without_lt hx1.1) (without rem x.i) rfl (fun y hy => hsub y (mem_without.1 hy).1) _ fun t u ht hw => ?_
      by_cases hxt : x.g.d = some t
      · have h1 := hv t hxt
        rw [ht] at h1
        rw [hxt, put_eq, ← h1]
      · rw [put_ne hxt]
        refine he t u ht fun y hy hyd => ?_
        by_cases hyx : y.i = x.i
        · have := (okI_inj hi y (hsub y hy)).2 x (hsub x hx1.1) hyx
          subst this
          exact hxt hyd
        · exact hw y (mem_without.2 ⟨hy, hyx⟩) hyd
/-- The listed order, and what comes behind it. -/
def Cm (P : Program) (N : Nat) (L : St) (l : List It) (e : En) (Kf : En → Prop) : Prop := ∃ fin, Calm P N L l e fin ∧ Kf fin
theorem Cx.calm {l : List It} {e : En} {d : C} {K : Kx} (hc : chk l = true) (h : Cm P N L l e fun fin => Cx P N d fin K L) : Cx P N (.rd l) e (Ksq P N d K) L := by
  obtain ⟨fin, hl, hk⟩ := h
  simp only [chk, Bool.and_eq_true] at hc
  refine Cx.rd (calm_run hc.2.2 hc.2.1 (calm_each hc.1 hl) (fun e' hs => ?_) _ l rfl (fun _ h => h) e fun t u ht hw => ?_)
  · exact Cx.less hs hk
  · rw [← calm_far hl t hw]; exact ht
theorem Cx.calmK {l : List It} {e : En} {K : Kx} (hm : ∀ e e', sub e e' → K .nm e L → K .nm e' L) (hc : chk l = true) (h : Cm P N L l e fun fin => K .nm fin L) : Cx P N (.rd l) e K L := by
  obtain ⟨fin, hl, hk⟩ := h
  simp only [chk, Bool.and_eq_true] at hc
  refine Cx.rd (calm_run hc.2.2 hc.2.1 (calm_each hc.1 hl) (fun e' hs => ?_) _ l rfl (fun _ h => h) e fun t u ht hw => ?_)
  · exact hm _ _ hs hk
  · rw [← calm_far hl t hw]; exact ht
theorem Kjn.mono {β : Type _} {K : Kx} {T : β → En} {S : β → St} : ∀ e e', sub e e' → Kjn K T S .nm e L → Kjn K T S .nm e' L :=
  fun e e' hs ⟨y, h1, h2⟩ => ⟨y, fun i v h => hs i v (h1 i v h), h2⟩
theorem Klp.mono {α : Type _} {K : Kx} {T : α → En} {S : α → St} {μ : α → Nat} {x : α} : ∀ e e', sub e e' → Klp K T S μ x .nm e L → Klp K T S μ x .nm e' L :=
  fun e e' hs ⟨y, h1, h2, h3⟩ => ⟨y, fun i v h => hs i v (h1 i v h), h2, h3⟩
section
variable {Kf : En → Prop} {e : En} {r : List It} {i ds : Nat} {rs : List Nat} {d : Option Nat} {g : Option (Nat × Bool)}
theorem Cm.nil (h : Kf e) : Cm P N L [] e Kf := ⟨e, rfl, h⟩
theorem Cm.done {c : C} {K : Kx} (h : Cx P N c e K L) : Cm P N L [] e (fun fin => Cx P N c fin K L) := .nil h
theorem Cm.cons {x : It} (v : Value) (h : ∀ e', sub (e.only x.rs) e' → Sc P N x.g e' v L) (k : Cm P N L r (e.put x.g.d v) Kf) : Cm P N L (x :: r) e Kf := by
  obtain ⟨fin, h1, h2⟩ := k
  exact ⟨fin, ⟨v, h, h1⟩, h2⟩
/-- Does the guard say yes? -/
def gon (e : En) (g : Option (Nat × Bool)) : Bool := match g with
  | none => true
  | some (t, b) => match e.get t with | some (.bool c) => c == b | _ => false
theorem Sc.gon {T e' : En} {s : S} {v : Value} (hg : gon T g = true) (hs : sub T e') (h : Sc P N ⟨d, none, s⟩ e' v L) : Sc P N ⟨d, g, s⟩ e' v L := by
  unfold Proofs.YtflalhdofhobmaaGreat.gon at hg
  split at hg
  · exact h
  · rename_i t b
    split at hg
    · rename_i c hc
      have hcb : c = b := by simpa using hg
      subst hcb
      exact fun K k => Sx.on (hs _ _ hc) (h K k)
    · cases hg
theorem Sc.pv {T e' : En} {s : S} {φ : Prop} {v : Value} (hp : Proofs.YtflalhdofhobmaaGreat.pv T s = some (φ, v)) (hφ : φ) (hs : sub T e') : Sc P N ⟨d, none, s⟩ e' v L :=
  fun K k => Sx.step fun o a w0 w hc ok st => ⟨v, w, L, .inl ((ok.sub hs).runs hc hp hφ w), st, Sx.nil k⟩
theorem Cm.pv {s : S} {φ : Prop} {v : Value} (hg : gon (e.only rs) g = true) (hp : Proofs.YtflalhdofhobmaaGreat.pv (e.only rs) s = some (φ, v)) (hφ : φ) (k : Cm P N L r (e.put d v) Kf) : Cm P N L (⟨i, ds, rs, ⟨d, g, s⟩⟩ :: r) e Kf :=
  .cons v (fun e' hs => .gon hg hs (.pv hp hφ hs)) k
theorem Cm.off {t : Nat} {b : Bool} {s : S} (hb : offs (e.only rs) t b = true) (k : Cm P N L r (e.put d undef) Kf) : Cm P N L (⟨i, ds, rs, ⟨d, some (t, b), s⟩⟩ :: r) e Kf :=
  .cons undef (fun e' hs K k => Sx.off (by
    unfold offs at hb ⊢
    cases h1 : (e.only rs).get t with
    | none => rw [h1] at hb; simp at hb
    | some u => rw [hs _ _ h1]; rw [h1] at hb; exact hb) (Sx.nil k)) k
theorem X.get_sub {T e' : En} {x : X} {v : Value} (h : x.get T = some v) (hs : sub T e') : x.get e' = some v := by
  cases x with
  | t i => exact hs _ _ h
  | c u => exact h
theorem gets_sub {T e' : En} (hs : sub T e') : ∀ {xs : List X} {vs : List Value}, gets T xs = some vs → gets e' xs = some vs
  | [], _, h => h
  | x :: l, vs, h => by
    simp only [gets] at h ⊢
    split at h
    · rename_i v hv
      split at h
      · rename_i us hus
        rw [X.get_sub hv hs]
        simp only
        rw [gets_sub hs hus]
        exact h
      · cases h
    · cases h
theorem Cm.pk {c x y : X} {p q z : Bool} (hg : gon (e.only rs) g = true) (hc : c.get (e.only rs) = some (.bool p)) (hx : x.get (e.only rs) = some (.bool q)) (hy : y.get (e.only rs) = some (.bool z))
    (k : Cm P N L r (e.put d (.bool (pick p q z))) Kf) : Cm P N L (⟨i, ds, rs, ⟨d, g, .pk c x y⟩⟩ :: r) e Kf :=
  .cons _ (fun e' hs => .gon hg hs fun K k => Sx.pk (X.get_sub hc hs) (X.get_sub hx hs) (X.get_sub hy hs) (Sx.nil k)) k
theorem Cm.ld {x : X} {n b off : Nat} {ag : Bool} {vs : List Value} {v : Value} (hg : gon (e.only rs) g = true) (hx : x.get (e.only rs) = some (.pointer (some ⟨b, off, none⟩))) (hh : Has L b off vs) (hv : ldv n ag vs = some v)
    (k : Cm P N L r (e.put d v) Kf) : Cm P N L (⟨i, ds, rs, ⟨d, g, .ld x n ag⟩⟩ :: r) e Kf :=
  .cons v (fun e' hs => .gon hg hs fun K k => Sx.ld (X.get_sub hx hs) hh hv (Sx.nil k)) k
theorem Cm.ldb {x : X} {b off : Nat} {T : TypeId} {cs : List Value} {v : Value} [t : Take L (some ⟨b, 0, none⟩) (Blk T cs) F] (hg : gon (e.only rs) g = true) (hx : x.get (e.only rs) = some (.pointer (some ⟨b, off, none⟩))) (hv : cs[off]? = some v)
    (k : Cm P N L r (e.put d v) Kf) : Cm P N L (⟨i, ds, rs, ⟨d, g, .ld x 1 false⟩⟩ :: r) e Kf :=
  .ld hg hx ((Has.blk (T := T) (cs := cs) (n := 1)).one (take_one hv)) rfl k
theorem Cm.ldbs {x : X} {b off n : Nat} {T : TypeId} {cs : List Value} [t : Take L (some ⟨b, 0, none⟩) (Blk T cs) F] (hg : gon (e.only rs) g = true) (hx : x.get (e.only rs) = some (.pointer (some ⟨b, off, none⟩))) (hn : Nat.ble (off + n) cs.length = true)
    (k : Cm P N L r (e.put d (.agg ((cs.drop off).take n).toArray)) Kf) : Cm P N L (⟨i, ds, rs, ⟨d, g, .ld x n true⟩⟩ :: r) e Kf :=
  .cons _ (fun e' hs => .gon hg hs fun K k => Sx.ldbs (X.get_sub hx hs) hn (Sx.nil k)) k
theorem Cm.ca {f : FuncId} {xs : List X} {vs : List Value} {v : Value} (hg : gon (e.only rs) g = true) (hx : gets (e.only rs) xs = some vs) (hf : Fx P f vs L (fun v' L' => v' = v ∧ L = L')) (k : Cm P N L r (e.put d v) Kf) :
    Cm P N L (⟨i, ds, rs, ⟨d, g, .ca f xs⟩⟩ :: r) e Kf :=
  .cons v (fun e' hs => .gon hg hs fun K k => Sx.ca (gets_sub hs hx) hf fun v' L' h => by
    obtain ⟨rfl, rfl⟩ := h
    exact Sx.nil k) k
def isPk : S → Bool
  | .pk _ _ _ => true
  | _ => false
def plainP (s : S) : Bool := isPk s || plain s
theorem isPk_pv {s : S} (h : isPk s = true) {φ : Prop} {v : Value} (hp : Proofs.YtflalhdofhobmaaGreat.pv e s = some (φ, v)) : φ := by
  obtain ⟨c, a, b, rfl⟩ : ∃ c a b, s = .pk c a b := by cases s <;> first | exact ⟨_, _, _, rfl⟩ | cases h
  simp only [Proofs.YtflalhdofhobmaaGreat.pv] at hp
  repeat' split at hp
  all_goals first | (cases hp; trivial) | cases hp
theorem plainP_pv {s : S} (h : plainP s = true) {φ : Prop} {v : Value} (hp : Proofs.YtflalhdofhobmaaGreat.pv e s = some (φ, v)) : φ := by
  rcases (Bool.or_eq_true _ _).mp h with h | h
  · exact isPk_pv h hp
  · exact plain_pv h hp
/-- Plain operations at the head. -/
def stepM (x : It) (e : En) : Option Value :=
  bif gon (e.only x.rs) x.g.g then
    (bif plainP x.g.s then (match Proofs.YtflalhdofhobmaaGreat.pv (e.only x.rs) x.g.s with | some (_, v) => some v | none => none) else none)
  else (match x.g.g with | some (t, b) => (bif offs (e.only x.rs) t b then some undef else none) | none => none)
def eagM : List It → En → Option (List It × En)
  | x :: r, e => match stepM x e with
    | some v => match eagM r (e.put x.g.d v) with
      | some q => some q
      | none => some (r, e.put x.g.d v)
    | none => none
  | [], _ => none
theorem Cm.step {x : It} {v : Value} (h : stepM x e = some v) (k : Cm P N L r (e.put x.g.d v) Kf) : Cm P N L (x :: r) e Kf := by
  obtain ⟨i, ds, rs, d, g, s⟩ := x
  unfold stepM at h
  simp only at h
  cases hg : gon (e.only rs) g with
  | true =>
    rw [hg, cond_true] at h
    cases hp : plainP s with
    | false => rw [hp] at h; cases h
    | true =>
      rw [hp, cond_true] at h
      split at h
      · rename_i φ u hu
        cases h
        exact Cm.pv hg hu (plainP_pv hp hu) k
      · cases h
  | false =>
    rw [hg, cond_false] at h
    split at h
    · rename_i t b
      cases hb : offs (e.only rs) t b with
      | true => rw [hb, cond_true] at h; cases h; exact Cm.off hb k
      | false => rw [hb] at h; cases h
    · cases h
theorem Cm.pvs : ∀ {l l' : List It} {e e' : En}, eagM l e = some (l', e') → Cm P N L l' e' Kf → Cm P N L l e Kf
  | [], _, _, _, h, _ => by cases h
  | x :: r, l', e, e', h, k => by
    simp only [eagM] at h
    split at h
    · rename_i v hv
      split at h
      · rename_i q hq
        cases h
        exact Cm.step hv (Cm.pvs hq k)
      · cases h
        exact Cm.step hv k
    · cases h
end
end
end Go.Proofs.YtflalhdofhobmaaGreat

/-
  A function whose result is a variable of its own.
-/
set_option linter.unusedVariables false
set_option linter.unusedSimpArgs false
namespace Go.Proofs.YtflalhdofhobmaaGreat
open Go
section
variable {P : Program} {N : Nat} {e : En} {L F : St}
theorem cRs_cell {rs : List ResultVar} {t n : Nat} {g : Bool} (h : cRs P rs = some [.c t n g]) : ∃ ty, rs = [.cell t ty] ∧ szT P ty = some n ∧ isAggT P ty = some g := by
  match rs with
  | [] => simp [cRs] at h
  | [.tmp i] => simp [cRs, cR] at h
  | [.cell a ty] =>
    simp only [cRs, cR] at h
    cases h1 : szT P ty with
    | none => simp [h1] at h
    | some m =>
      cases h2 : isAggT P ty with
      | none => simp [h1, h2] at h
      | some q =>
        simp only [h1, h2, Option.some.injEq, List.cons.injEq, RV.c.injEq, and_true] at h
        obtain ⟨rfl, rfl, rfl⟩ := h
        exact ⟨ty, rfl, h1, h2⟩
  | r :: r' :: l =>
    simp only [cRs] at h
    split at h
    · split at h
      · rename_i _ _ us hus
        split at hus
        · split at hus
          · cases hus; simp at h
          · cases hus
        · cases hus
      · cases h
    · cases h
theorem Rv_cell {t n b off : Nat} {g : Bool} {vs : List Value} {v : Value} (h : e.get t = some (.pointer (some ⟨b, off, none⟩))) (hh : Has L b off vs) (hv : ldv n g vs = some v) : Rv P N [.c t n g] e L v := by
  intro fn a w0 w hr ok s
  obtain ⟨ty, hres, hs, hg⟩ := cRs_cell hr
  have hr2 : fn.results = #[.cell t ty] := by apply Array.ext'; simpa using hres
  have ht := ok.get _ _ h
  have hx : a.tmps.getD t undef = .pointer (some ⟨b, off, none⟩) := by simp [ht]
  have hc := hh w0 w s
  cases g
  · unfold ldv at hv
    split at hv
    · contradiction
    · cases hv
      have h0 := hc 0 v rfl
      simp only [Nat.add_zero] at h0
      simp [results, hr2, ht, loadVar, isAggT_eq hg, h0, asAddr]
    · cases hv
  · simp only [ldv] at hv
    cases hb : Nat.beq vs.length n with
    | false => rw [hb] at hv; cases hv
    | true =>
      rw [hb] at hv; cases hv
      have hn := Nat.eq_of_beq_eq_true hb
      have hl := run_loadCells_list (P := P) w ⟨b, off, none⟩ vs (fun j v hj => by rw [partPlace]; exact hc j v hj)
      rw [hn] at hl
      simp [results, hr2, ht, loadVar, isAggT_eq hg, szT_eq hs, hl, asAddr]
theorem Kr_cell {R : Value → St → Prop} {t n b : Nat} {T : TypeId} {cs : List Value} {x : Ex} [i : Take L (some ⟨b, 0, none⟩) (Blk T cs) F] (hx : x = .nm ∨ x = .rt) (h : e.get t = some (.pointer (some ⟨b, 0, none⟩))) (hn : Nat.beq cs.length n = true)
    {L' : St} (hL : Ent L L') (hR : R (.agg cs.toArray) L') : Kr P N [.c t n true] R x e L := by
  have hn' := Nat.eq_of_beq_eq_true hn
  refine ⟨hx, _, L', Rv_cell h (Has.blk (T := T) (cs := cs) (n := n) (off := 0)) ?_, hL, hR⟩
  simp [ldv, ← hn']
end
end Go.Proofs.YtflalhdofhobmaaGreat

/-
  Regions that draw their order, in which operations turn the memory: where whatever looks at the memory is held apart from whatever turns it, one order will do.
-/
set_option linter.unusedVariables false
set_option linter.unusedSimpArgs false
namespace Go.Proofs.YtflalhdofhobmaaGreat
open Go
section
variable {P : Program} {N : Nat} {L F : St}
/-- One operation, whatever it does to what is known of the memory. -/
def Se (P : Program) (N : Nat) (g : G) (e : En) (L : St) (R : Value → St → Prop) : Prop := ∀ K : En → St → Prop, (∀ v L', R v L' → K (e.put g.d v) L') → Sx P N [g] e K L
/-- An order, told. ms: what has looked at the memory, and of which memories what it came to holds. -/
inductive Ev (P : Program) (N : Nat) (Kf : En → St → Prop) : List It → List (Nat × (St → Prop)) → En → St → Prop
  | nil {ms : List (Nat × (St → Prop))} {e : En} {L : St} (h : Kf e L) : Ev P N Kf [] ms e L
  | free {rem : List It} {ms : List (Nat × (St → Prop))} {e : En} {L : St} (x : It) (hx : x ∈ rem) (v : Value) (h : ∀ L e', sub (e.only x.rs) e' → Sc P N x.g e' v L) (k : Ev P N Kf (without rem x.i) ms (e.put x.g.d v) L) : Ev P N Kf rem ms e L
  | looks {rem : List It} {ms : List (Nat × (St → Prop))} {e : En} {L : St} (x : It) (hx : x ∈ rem) (v : Value) (Φ : St → Prop) (hΦ : Φ L) (h : ∀ M, Φ M → ∀ e', sub (e.only x.rs) e' → Sc P N x.g e' v M) (k : Ev P N Kf (without rem x.i) ((x.i, Φ) :: ms) (e.put x.g.d v) L) : Ev P N Kf rem ms e L
  | turns {rem : List It} {ms : List (Nat × (St → Prop))} {e : En} {L : St} (x : It) (hx : x ∈ rem) (R : Value → St → Prop) (h1 : (without rem x.i).all (fun y => bit y.ds x.i) = true) (h2 : ∀ q ∈ ms, bit x.ds q.1 = true ∨ ∀ v L', R v L' → q.2 L')
      (h : ∀ e', sub (e.only x.rs) e' → Se P N x.g e' L R) (k : ∀ v L', R v L' → Ev P N Kf (without rem x.i) ms (e.put x.g.d v) L') : Ev P N Kf rem ms e L
/-- What has been told ahead of its time. -/
structure Told (P : Program) (N : Nat) (ms : List (Nat × (St → Prop))) (e : En) (L : St) (p : It × Value) : Prop where
  hv : ∀ d, p.1.g.d = some d → e.get d = some p.2
  hs : (∀ L e', (∀ t ∈ p.1.rs, ∀ u, e.get t = some u → e'.get t = some u) → Sc P N p.1.g e' p.2 L) ∨
    ∃ Φ, (p.1.i, Φ) ∈ ms ∧ Φ L ∧ ∀ M, Φ M → ∀ e', (∀ t ∈ p.1.rs, ∀ u, e.get t = some u → e'.get t = some u) → Sc P N p.1.g e' p.2 M
def okN : List It → Bool
  | [] => true
  | x :: r => r.all (fun y => dOK y.g.d (match x.g.d with | some d => [d] | none => [])) && okN r
theorem okN_iff : ∀ {l : List It}, okN l = true → ∀ x ∈ l, ∀ y ∈ l, ∀ d, x.g.d = some d → y.g.d = some d → x = y
  | [], _, x, hx => by cases hx
  | a :: r, h, x, hx => by
    simp only [okN, Bool.and_eq_true, List.all_eq_true] at h
    intro y hy d hdx hdy
    rcases List.mem_cons.1 hx with rfl | hxr <;> rcases List.mem_cons.1 hy with rfl | hyr
    · rfl
    · have := dOK_iff (h.1 y hyr) d hdy
      rw [hdx] at this; simp at this
    · have := dOK_iff (h.1 x hxr) d hdx
      rw [hdy] at this; simp at this
    · exact okN_iff h.2 x hxr y hyr d hdx hdy
theorem without_app (U tl : List It) (i : Nat) (h : ∀ y ∈ tl, y.i ≠ i) : without (U ++ tl) i = without U i ++ tl := by
  unfold without
  rw [List.filter_append]
  congr 1
  rw [List.filter_eq_self]
  intro y hy
  have := h y hy
  cases hb : Nat.beq y.i i with
  | true => exact absurd (Nat.eq_of_beq_eq_true hb) this
  | false => rfl
theorem split_ready {all tl U : List It} {x : It} (htl : ∀ y ∈ tl, ∀ x ∈ all, bit y.ds x.i = true ∧ y.i ≠ x.i) (hUa : ∀ x ∈ U, x ∈ all) (hU : U ≠ []) (hx : x ∈ readies (U ++ tl)) : x ∈ U ∧ ready x U = true ∧ without (U ++ tl) x.i = without U x.i ++ tl := by
  have h1 : x ∈ U ++ tl ∧ ready x (U ++ tl) = true := by simpa only [readies, List.mem_filter] using hx
  have h2 : ∀ z ∈ U ++ tl, bit x.ds z.i = false := by
    have := h1.2
    simp only [ready, List.all_eq_true] at this
    exact fun z hz => by simpa using this z hz
  have hxU : x ∈ U := by
    rcases List.mem_append.1 h1.1 with h | h
    · exact h
    · obtain ⟨z, hz⟩ := List.exists_mem_of_ne_nil U hU
      have h3 := (htl x h z (hUa z hz)).1
      rw [h2 z (by simp [hz])] at h3; cases h3
  refine ⟨hxU, ?_, without_app U tl x.i fun y hy => (htl y hy x (hUa x hxU)).2⟩
  simp only [ready, List.all_eq_true]
  exact fun z hz => by rw [h2 z (by simp [hz])]; rfl
theorem ev_runT {all tl : List It} {Kf Kt : En → St → Prop} (hi : okI 0 all = true) (hd : okD all = true) (hn : okN all = true) (htl : ∀ y ∈ tl, ∀ x ∈ all, bit y.ds x.i = true ∧ y.i ≠ x.i) (hK : ∀ e e' L, sub e e' → Kf e L → Rx P N tl [] (fun _ => True) e' Kt L) :
    ∀ (n : Nat) (rem : List It) (ms : List (Nat × (St → Prop))) (e : En) (L : St), Ev P N Kf rem ms e L → ∀ (T : List (It × Value)) (U : List It) (e' : En), U.length = n → (∀ x ∈ U, x ∈ all) → (∀ x, x ∈ U ↔ (∃ v, (x, v) ∈ T) ∨ x ∈ rem) →
      (∀ p ∈ T, p.1 ∉ rem) → (∀ p ∈ T, Told P N ms e L p) → (∀ y ∈ rem, ∀ d, y.g.d = some d → e.get d = none) →
      (∀ t u, e.get t = some u → (∀ p ∈ T, p.1.g.d ≠ some t) → e'.get t = some u) → Rx P N (U ++ tl) [] (fun _ => True) e' Kt L := by
  intro n
  induction n using Nat.strongRecOn with
  | _ n ihn =>
    have inj : ∀ x ∈ all, ∀ y ∈ all, x.i = y.i → x = y := fun x hx y hy h => (okI_inj hi x hx).2 y hy h
    -- one of those that were told comes
    have come : ∀ (rem : List It) (ms : List (Nat × (St → Prop))) (e : En) (L : St), Ev P N Kf rem ms e L → ∀ (T : List (It × Value)) (U : List It) (e' : En), U.length = n → (∀ x ∈ U, x ∈ all) → (∀ x, x ∈ U ↔ (∃ v, (x, v) ∈ T) ∨ x ∈ rem) →
        (∀ p ∈ T, p.1 ∉ rem) → (∀ p ∈ T, Told P N ms e L p) → (∀ y ∈ rem, ∀ d, y.g.d = some d → e.get d = none) → (∀ t u, e.get t = some u → (∀ p ∈ T, p.1.g.d ≠ some t) → e'.get t = some u) →
        ∀ x v, (x, v) ∈ T → ready x U = true → Sx P N [x.g] e' (fun e' L' => True ∧ Rx P N (without U x.i ++ tl) [] (fun _ => True) e' Kt L') L := by
      intro rem ms e L hev T U e' hU hUa hUm hTr hT hfr he x v hxv hrd
      have hxU : x ∈ U := (hUm x).2 (.inl ⟨v, hxv⟩)
      have hrd' : ∀ y ∈ U, bit x.ds y.i = false := by simpa [ready] using hrd
      have hto := hT _ hxv
      have hfacts : ∀ t ∈ x.rs, ∀ u, e.get t = some u → e'.get t = some u := by
        intro t ht u hu
        refine he t u hu fun p hp hpd => ?_
        have hpU : p.1 ∈ U := (hUm p.1).2 (.inl ⟨p.2, hp⟩)
        simp only [okD, List.all_eq_true, Bool.or_eq_true] at hd
        rcases hd x (hUa x hxU) p.1 (hUa _ hpU) with h | h
        · exact dOK_iff h t hpd ht
        · rw [hrd' _ hpU] at h; cases h
      have hS : Sc P N x.g e' v L := by
        rcases hto.hs with h | ⟨Φ, _, hΦ, h⟩
        · exact h L e' hfacts
        · exact h L hΦ e' hfacts
      refine hS _ ⟨trivial, ?_⟩
      have hlt := without_lt hxU
      refine ihn (without U x.i).length (by omega) rem ms e L hev (T.filter fun p => !(Nat.beq p.1.i x.i)) (without U x.i) _ rfl (fun y hy => hUa y (mem_without.1 hy).1) (fun y => ?_) (fun p hp => hTr p ((List.mem_filter.1 hp).1)) (fun p hp => hT p ((List.mem_filter.1 hp).1)) hfr fun t u ht hw => ?_
      · rw [mem_without, hUm]
        constructor
        · rintro ⟨⟨w, hw⟩ | h, hne⟩
          · refine .inl ⟨w, List.mem_filter.2 ⟨hw, ?_⟩⟩
            cases hb : Nat.beq y.i x.i with
            | false => rfl
            | true => exact absurd (Nat.eq_of_beq_eq_true hb) hne
          · exact .inr h
        · rintro (⟨w, hw⟩ | h)
          · obtain ⟨h1, h2⟩ := List.mem_filter.1 hw
            exact ⟨.inl ⟨w, h1⟩, fun hh => by simp [hh] at h2⟩
          · refine ⟨.inr h, fun hh => ?_⟩
            have hyx := inj y (hUa y ((hUm y).2 (.inr h))) x (hUa x hxU) hh
            subst hyx
            exact hTr _ hxv h
      · by_cases hxt : x.g.d = some t
        · have h1 := hto.hv t hxt
          rw [ht] at h1
          rw [hxt, put_eq]; exact h1.symm
        · rw [put_ne hxt]
          refine he t u ht fun p hp hpd => ?_
          by_cases hpx : p.1.i = x.i
          · have := inj p.1 (hUa _ ((hUm p.1).2 (.inl ⟨p.2, hp⟩))) x (hUa x hxU) hpx
            rw [this] at hpd; exact hxt hpd
          · refine hw p (List.mem_filter.2 ⟨hp, ?_⟩) hpd
            cases hb : Nat.beq p.1.i x.i with
            | false => rfl
            | true => exact absurd (Nat.eq_of_beq_eq_true hb) hpx
    -- telling one more
    have tell : ∀ {rem : List It} {ms ms' : List (Nat × (St → Prop))} {e : En} {L : St} {x : It} {v : Value} {T : List (It × Value)} {U : List It} {e' : En}, x ∈ rem → (∀ x ∈ U, x ∈ all) → (∀ x, x ∈ U ↔ (∃ v, (x, v) ∈ T) ∨ x ∈ rem) → (∀ p ∈ T, p.1 ∉ rem) →
        (∀ p ∈ T, Told P N ms e L p) → (∀ y ∈ rem, ∀ d, y.g.d = some d → e.get d = none) → (∀ q ∈ ms, q ∈ ms') →
        (∀ p ∈ T, Told P N ms' (e.put x.g.d v) L p) ∧ (∀ y ∈ without rem x.i, ∀ d, y.g.d = some d → (e.put x.g.d v).get d = none) := by
      intro rem ms ms' e L x v T U e' hx hUa hUm hTr hT hfr hms
      have hxa := hUa x ((hUm x).2 (.inr hx))
      refine ⟨fun p hp => ?_, fun y hy d hyd => ?_⟩
      · have hpa := hUa p.1 ((hUm p.1).2 (.inl ⟨p.2, hp⟩))
        have hpx : p.1 ≠ x := fun h => hTr p hp (by rw [h]; exact hx)
        have hto := hT p hp
        have hst : ∀ e' : En, (∀ t ∈ p.1.rs, ∀ u, (e.put x.g.d v).get t = some u → e'.get t = some u) → ∀ t ∈ p.1.rs, ∀ u, e.get t = some u → e'.get t = some u := by
          intro e' h t ht u hu
          refine h t ht u ?_
          rw [put_ne (fun hxt => by rw [hfr x hx t hxt] at hu; cases hu)]
          exact hu
        refine ⟨fun d hpd => ?_, ?_⟩
        · rw [put_ne (fun hxd => hpx (okN_iff hn p.1 hpa x hxa d hpd hxd))]
          exact hto.hv d hpd
        · rcases hto.hs with h | ⟨Φ, h1, hΦ, h⟩
          · exact .inl fun L e' he => h L e' (hst e' he)
          · exact .inr ⟨Φ, hms _ h1, hΦ, fun M hM e' he => h M hM e' (hst e' he)⟩
      · obtain ⟨hy1, hy2⟩ := mem_without.1 hy
        rw [put_ne (fun hxd => hy2 (by rw [okN_iff hn y (hUa y ((hUm y).2 (.inr hy1))) x hxa d hyd hxd]))]
        exact hfr y hy1 d hyd
    intro rem ms e L hev
    induction hev with
    | @nil ms e L hk =>
      intro T U e' hU hUa hUm hTr hT hfr he
      by_cases hU0 : U = []
      · subst hU0
        refine hK e e' L (fun t u ht => he t u ht fun p hp => ?_) hk
        have : p.1 ∈ ([] : List It) := (hUm p.1).2 (.inl ⟨p.2, hp⟩)
        cases this
      · refine Rx.all (fun h0 => absurd (List.append_eq_nil_iff.1 h0).1 hU0) fun x hx => ⟨by simp, ?_⟩
        obtain ⟨hx1, hx2, hx3⟩ := split_ready htl hUa hU0 hx
        rw [hx3]
        rcases (hUm x).1 hx1 with ⟨v, hv⟩ | h
        · exact come [] ms e L (.nil hk) T U e' hU hUa hUm hTr hT hfr he x v hv hx2
        · cases h
    | @free rem ms e L x hx v h k ih =>
      intro T U e' hU hUa hUm hTr hT hfr he
      obtain ⟨t1, t2⟩ := tell (v := v) (e' := e') hx hUa hUm hTr hT hfr (fun _ h => h)
      refine ih ((x, v) :: T) U e' hU hUa (fun y => ?_) (fun p hp => ?_) (fun p hp => ?_) t2 fun t u ht hw => ?_
      · rw [hUm]
        constructor
        · rintro (⟨w, hw⟩ | hy)
          · exact .inl ⟨w, List.mem_cons_of_mem _ hw⟩
          · by_cases hyx : y = x
            · exact .inl ⟨v, by rw [hyx]; simp⟩
            · exact .inr (mem_without.2 ⟨hy, fun hh => hyx (inj y (hUa y ((hUm y).2 (.inr hy))) x (hUa x ((hUm x).2 (.inr hx))) hh)⟩)
        · rintro (⟨w, hw⟩ | hy)
          · rcases List.mem_cons.1 hw with h1 | h1
            · cases h1; exact .inr hx
            · exact .inl ⟨w, h1⟩
          · exact .inr (mem_without.1 hy).1
      · rcases List.mem_cons.1 hp with rfl | h1
        · exact fun hh => (mem_without.1 hh).2 rfl
        · exact fun hh => hTr p h1 (mem_without.1 hh).1
      · rcases List.mem_cons.1 hp with rfl | h1
        · refine ⟨fun d hd => by rw [show x.g.d = some d from hd]; exact put_eq, .inl fun L e2 h2 => h L e2 fun t u ht => ?_⟩
          obtain ⟨htr, hu⟩ := only_get ht
          refine h2 t htr u ?_
          rw [put_ne (fun hxt => by rw [hfr x hx t hxt] at hu; cases hu)]
          exact hu
        · exact t1 p h1
      · have hxt : x.g.d ≠ some t := hw (x, v) (by simp)
        rw [put_ne hxt] at ht
        exact he t u ht fun p hp => hw p (List.mem_cons_of_mem _ hp)
    | @looks rem ms e L x hx v Φ hΦ h k ih =>
      intro T U e' hU hUa hUm hTr hT hfr he
      obtain ⟨t1, t2⟩ := tell (v := v) (e' := e') hx hUa hUm hTr hT hfr (fun _ h => List.mem_cons_of_mem (x.i, Φ) h)
      refine ih ((x, v) :: T) U e' hU hUa (fun y => ?_) (fun p hp => ?_) (fun p hp => ?_) t2 fun t u ht hw => ?_
      · rw [hUm]
        constructor
        · rintro (⟨w, hw⟩ | hy)
          · exact .inl ⟨w, List.mem_cons_of_mem _ hw⟩
          · by_cases hyx : y = x
            · exact .inl ⟨v, by rw [hyx]; simp⟩
            · exact .inr (mem_without.2 ⟨hy, fun hh => hyx (inj y (hUa y ((hUm y).2 (.inr hy))) x (hUa x ((hUm x).2 (.inr hx))) hh)⟩)
        · rintro (⟨w, hw⟩ | hy)
          · rcases List.mem_cons.1 hw with h1 | h1
            · cases h1; exact .inr hx
            · exact .inl ⟨w, h1⟩
          · exact .inr (mem_without.1 hy).1
      · rcases List.mem_cons.1 hp with rfl | h1
        · exact fun hh => (mem_without.1 hh).2 rfl
        · exact fun hh => hTr p h1 (mem_without.1 hh).1
      · rcases List.mem_cons.1 hp with rfl | h1
        · refine ⟨fun d hd => by rw [show x.g.d = some d from hd]; exact put_eq, .inr ⟨Φ, by simp, hΦ, fun M hM e2 h2 => h M hM e2 fun t u ht => ?_⟩⟩
          obtain ⟨htr, hu⟩ := only_get ht
          refine h2 t htr u ?_
          rw [put_ne (fun hxt => by rw [hfr x hx t hxt] at hu; cases hu)]
          exact hu
        · exact t1 p h1
      · have hxt : x.g.d ≠ some t := hw (x, v) (by simp)
        rw [put_ne hxt] at ht
        exact he t u ht fun p hp => hw p (List.mem_cons_of_mem _ hp)
    | @turns rem ms e L x hx R h1 h2 h k ih =>
      intro T U e' hU hUa hUm hTr hT hfr he
      have hxU : x ∈ U := (hUm x).2 (.inr hx)
      have hU0 : U ≠ [] := fun h0 => by rw [h0] at hxU; cases hxU
      refine Rx.all (fun h0 => absurd (List.append_eq_nil_iff.1 h0).1 hU0) fun y hy => ⟨by simp, ?_⟩
      obtain ⟨hyA, hyB, hyC⟩ := split_ready htl hUa hU0 hy
      rw [hyC]
      have hy1 : y ∈ U ∧ ready y U = true := ⟨hyA, hyB⟩
      have hrd : ∀ z ∈ U, bit y.ds z.i = false := by simpa [ready] using hy1.2
      rcases (hUm y).1 hy1.1 with ⟨v, hv⟩ | hyr
      · exact come rem ms e L (.turns x hx R h1 h2 h k) T U e' hU hUa hUm hTr hT hfr he y v hv hy1.2
      · by_cases hyx : y = x
        · subst hyx
          have hpure : ∀ p ∈ T, ∀ Φ, (p.1.i, Φ) ∈ ms → ∀ v L', R v L' → Φ L' := by
            intro p hp Φ hm
            rcases h2 _ hm with hb | hb
            · have hpU : p.1 ∈ U := (hUm p.1).2 (.inl ⟨p.2, hp⟩)
              rw [hrd _ hpU] at hb; cases hb
            · exact hb
          have hsub : sub (e.only y.rs) e' := by
            intro t u ht
            obtain ⟨htr, hu⟩ := only_get ht
            refine he t u hu fun p hp hpd => ?_
            have hpU : p.1 ∈ U := (hUm p.1).2 (.inl ⟨p.2, hp⟩)
            simp only [okD, List.all_eq_true, Bool.or_eq_true] at hd
            rcases hd y (hUa y hxU) p.1 (hUa _ hpU) with hh | hh
            · exact dOK_iff hh t hpd htr
            · rw [hrd _ hpU] at hh; cases hh
          refine h e' hsub _ fun v L' hR => ⟨trivial, ?_⟩
          have hlt := without_lt hxU
          obtain ⟨t1, t2⟩ := tell (v := v) (e' := e') hx hUa hUm hTr hT hfr (fun _ h => h)
          refine ihn (without U y.i).length (by omega) (without rem y.i) ms _ L' (k v L' hR) T (without U y.i) _ rfl (fun z hz => hUa z (mem_without.1 hz).1) (fun z => ?_) (fun p hp hh => hTr p hp (mem_without.1 hh).1) (fun p hp => ?_) t2 fun t u ht hw => ?_
          · rw [mem_without, mem_without, hUm]
            constructor
            · rintro ⟨⟨w, hw⟩ | hz, hne⟩
              · exact .inl ⟨w, hw⟩
              · exact .inr ⟨hz, hne⟩
            · rintro (⟨w, hw⟩ | ⟨hz, hne⟩)
              · refine ⟨.inl ⟨w, hw⟩, fun hh => ?_⟩
                have := inj z (hUa z ((hUm z).2 (.inl ⟨w, hw⟩))) y (hUa y hxU) hh
                subst this
                exact hTr _ hw hx
              · exact ⟨.inr hz, hne⟩
          · have hto := t1 p hp
            refine ⟨hto.hv, ?_⟩
            rcases hto.hs with hh | ⟨Φ, hm, _, hh⟩
            · exact .inl hh
            · exact .inr ⟨Φ, hm, hpure p hp Φ hm v L' hR, hh⟩
          · by_cases hyt : y.g.d = some t
            · rw [hyt] at ht ⊢
              rw [put_eq] at ht ⊢; exact ht
            · rw [put_ne hyt] at ht ⊢
              exact he t u ht hw
        · have hb := List.all_eq_true.1 h1 y (mem_without.2 ⟨hyr, fun hh => hyx (inj y (hUa y hy1.1) x (hUa x hxU) hh)⟩)
          rw [hrd x hxU] at hb; cases hb
theorem ev_run {all : List It} {Kf : En → St → Prop} (hi : okI 0 all = true) (hd : okD all = true) (hn : okN all = true) (hK : ∀ e e' L, sub e e' → Kf e L → Kf e' L) :
    ∀ (n : Nat) (rem : List It) (ms : List (Nat × (St → Prop))) (e : En) (L : St), Ev P N Kf rem ms e L → ∀ (T : List (It × Value)) (U : List It) (e' : En), U.length = n → (∀ x ∈ U, x ∈ all) → (∀ x, x ∈ U ↔ (∃ v, (x, v) ∈ T) ∨ x ∈ rem) →
      (∀ p ∈ T, p.1 ∉ rem) → (∀ p ∈ T, Told P N ms e L p) → (∀ y ∈ rem, ∀ d, y.g.d = some d → e.get d = none) →
      (∀ t u, e.get t = some u → (∀ p ∈ T, p.1.g.d ≠ some t) → e'.get t = some u) → Rx P N U [] (fun _ => True) e' Kf L := by
  intro n rem ms e L h T U e' h1 h2 h3 h4 h5 h6 h7
  have := ev_runT (tl := []) (Kt := Kf) hi hd hn (fun y hy => by cases hy) (fun e e' L hs hk => Rx.all (fun _ => hK e e' L hs hk) fun x hx => by simp [readies] at hx) n rem ms e L h T U e' h1 h2 h3 h4 h5 h6 h7
  rwa [List.append_nil] at this
/-- What is known, but for what is to be written. -/
def En.clear (e : En) (l : List It) : En := e.filter fun p => l.all fun y => match y.g.d with | some d => !(Nat.beq d p.1) | none => true
theorem clear_get {l : List It} : ∀ {e : En} {t : Nat} {u : Value}, (e.clear l).get t = some u → (∀ y ∈ l, y.g.d ≠ some t) ∧ (e.get t = some u ∨ ∃ w, e.get t = some w)
  | [], t, u, h => by simp [En.clear, En.get] at h
  | (i, v) :: e, t, u, h => by
    unfold En.clear at h
    rw [List.filter_cons] at h
    split at h
    · rename_i hk
      simp only [En.get] at h ⊢
      cases hb : Nat.beq i t with
      | true =>
        rw [hb, cond_true] at h
        have hit := Nat.eq_of_beq_eq_true hb
        subst hit
        refine ⟨fun y hy hyd => ?_, .inl h⟩
        have := List.all_eq_true.1 hk y hy
        rw [hyd] at this
        simp at this
      | false =>
        rw [hb, cond_false] at h
        simpa using clear_get (e := e) h
    · simp only [En.get]
      have h1 := clear_get (e := e) h
      refine ⟨h1.1, ?_⟩
      cases hb : Nat.beq i t with
      | true => exact .inr ⟨v, rfl⟩
      | false => simpa using h1.2
theorem clear_sub {l : List It} : ∀ {e : En} {t : Nat} {u : Value}, (e.clear l).get t = some u → e.get t = some u
  | [], t, u, h => by simp [En.clear, En.get] at h
  | (i, v) :: e, t, u, h => by
    have hno := (clear_get h).1
    unfold En.clear at h
    rw [List.filter_cons] at h
    split at h
    · simp only [En.get] at h ⊢
      cases hb : Nat.beq i t with
      | true => rw [hb, cond_true] at h; rw [cond_true]; exact h
      | false => rw [hb, cond_false] at h; rw [cond_false]; exact clear_sub (e := e) h
    · rename_i hk
      have h1 := clear_sub (e := e) h
      simp only [En.get]
      cases hb : Nat.beq i t with
      | false => exact h1
      | true =>
        exfalso
        have hit := Nat.eq_of_beq_eq_true hb
        subst hit
        refine hk (List.all_eq_true.2 fun y hy => ?_)
        cases hyd : y.g.d with
        | none => rfl
        | some d =>
          simp only [Bool.not_eq_true']
          cases hb2 : Nat.beq d i with
          | false => rfl
          | true => exact absurd (by rw [hyd, Nat.eq_of_beq_eq_true hb2]) (hno y hy)
def chkO (l : List It) : Bool := okI 0 l && (okD l && okN l)
theorem Cx.ord {l : List It} {e : En} {d : C} {K : Kx} (hc : chkO l = true) (h : Ev P N (fun fin L => Cx P N d fin K L) l [] (e.clear l) L) : Cx P N (.rd l) e (Ksq P N d K) L := by
  simp only [chkO, Bool.and_eq_true] at hc
  refine Cx.rd ?_
  refine ev_run (Kf := Krg (Ksq P N d K)) hc.1 hc.2.1 hc.2.2 (fun e e' L hs hk => Cx.less hs hk) l.length l [] (e.clear l) L h [] l e rfl (fun _ h => h) (fun x => by simp) (fun _ h => by cases h) (fun _ h => by cases h) (fun y hy d hyd => ?_) (fun t u ht _ => clear_sub ht)
  cases hg : (e.clear l).get d with
  | none => rfl
  | some u => exact absurd hyd ((clear_get hg).1 y hy)
section
variable {Kf : En → St → Prop} {e : En} {rem rem' : List It} {ms : List (Nat × (St → Prop))} {i ds : Nat} {rs : List Nat} {d : Option Nat} {g : Option (Nat × Bool)}
theorem Sc_step {x : It} {v : Value} (h : stepM x e = some v) : ∀ L e', sub (e.only x.rs) e' → Sc P N x.g e' v L := by
  intro L e' hs
  obtain ⟨i, ds, rs, d, g, s⟩ := x
  unfold stepM at h
  simp only at h hs
  cases hg : gon (e.only rs) g with
  | true =>
    rw [hg, cond_true] at h
    cases hp : plainP s with
    | false => rw [hp] at h; cases h
    | true =>
      rw [hp, cond_true] at h
      split at h
      · rename_i φ u hu
        cases h
        exact .gon hg hs (.pv hu (plainP_pv hp hu) hs)
      · cases h
  | false =>
    rw [hg, cond_false] at h
    split at h
    · rename_i t b
      cases hb : offs (e.only rs) t b with
      | true =>
        rw [hb, cond_true] at h; cases h
        refine fun K k => Sx.off (t := t) (b := b) ?_ (Sx.nil k)
        unfold offs at hb ⊢
        cases h1 : (e.only rs).get t with
        | none => rw [h1] at hb; simp at hb
        | some u => rw [hs _ _ h1]; rw [h1] at hb; exact hb
      | false => rw [hb] at h; cases h
    · cases h
theorem Ev.done {c : C} {K : Kx} (h : Cx P N c e K L) : Ev P N (fun fin L => Cx P N c fin K L) [] ms e L := .nil h
/-- One plain operation. -/
theorem Ev.stp {x : It} {v : Value} (hx : x ∈ rem) (h : stepM x e = some v) (k : Ev P N Kf (without rem x.i) ms (e.put x.g.d v) L) : Ev P N Kf rem ms e L := .free x hx v (Sc_step h) k
/-- Looking through the list from place j on, so often. -/
def scanE : Nat → Nat → List It → En → Option (List It × En)
  | 0, _, _, _ => none
  | n + 1, j, rem, e => match rem[j]? with
    | some x => match stepM x e with
      | some v => match scanE n j (without rem x.i) (e.put x.g.d v) with
        | some q => some q
        | none => some (without rem x.i, e.put x.g.d v)
      | none => scanE n (j + 1) rem e
    | none => none
theorem Ev.pvs : ∀ {n j : Nat} {rem rem' : List It} {e e' : En}, scanE n j rem e = some (rem', e') → Ev P N Kf rem' ms e' L → Ev P N Kf rem ms e L
  | 0, _, _, _, _, _, h, _ => by cases h
  | n + 1, j, rem, rem', e, e', h, k => by
    simp only [scanE] at h
    split at h
    · rename_i x hx
      split at h
      · rename_i v hv
        split at h
        · rename_i q hq
          cases h
          exact Ev.stp (List.mem_of_getElem? hx) hv (Ev.pvs hq k)
        · cases h
          exact Ev.stp (List.mem_of_getElem? hx) hv k
      · exact Ev.pvs h k
    · cases h
end
end
end Go.Proofs.YtflalhdofhobmaaGreat

/-
  The functions' small code, as a program printed it off the translation; each held against the model's own code by the kernel.
-/
namespace Go.Proofs.YtflalhdofhobmaaGreat
open Go
set_option maxRecDepth 100000
/-- rundale/rundalelaw14.GrantApart -/
def c4 : Fu := ⟨272, [.t 6],
  (.sq (.rg [⟨(some 6), none, .mv (.c (.bool false))⟩])
  (.sq (.rg [⟨(some 26), none, .ca 12 []⟩,
    ⟨(some 7), none, .mv (.t 26)⟩])
  (.sq (.sq (.rg [⟨(some 27), none, .mv (.t 7)⟩,
    ⟨(some 28), none, .nt (.t 27)⟩])
  (.cd (.t 28)
  (.sq (.rg [⟨(some 6), none, .mv (.c (.bool false))⟩])
  .rt)
  .sk))
  (.sq (.sq (.rg [⟨(some 29), none, .mv (.t 2)⟩,
    ⟨(some 30), none, .len (.t 29)⟩,
    ⟨(some 31), none, .ib .gtr (.t 30) (.c (.int .i64 200))⟩])
  (.cd (.t 31)
  (.sq (.rg [⟨(some 32), none, .mv (.t 7)⟩,
    ⟨(some 6), none, .mv (.t 32)⟩])
  .rt)
  .sk))
  (.sq (.rg [⟨(some 33), none, .mv (.t 0)⟩,
    ⟨(some 34), none, .ca 13 [(.t 33)]⟩,
    ⟨(some 8), none, .al 24 [(.int .i64 0), (.int .i64 0), (.int .i64 0), (.int .i64 0), (.int .i64 0), (.int .i64 0)]⟩,
    ⟨none, none, .st (.t 8) (.t 34) 6⟩])
  (.sq (.rg [⟨(some 35), none, .ld (.t 8) 6 true⟩,
    ⟨(some 36), none, .ca 14 [(.t 35)]⟩,
    ⟨(some 9), none, .mv (.t 36)⟩])
  (.sq (.sq (.rg [⟨(some 37), none, .mv (.t 9)⟩,
    ⟨(some 38), none, .en 0 false (.t 37) (.c (.pointer none))⟩])
  (.cd (.t 38)
  (.sq (.rg [⟨(some 6), none, .mv (.c (.bool false))⟩])
  .rt)
  .sk))
  (.sq (.sq (.rg [⟨(some 10), none, .mv (.c (.int .i64 0))⟩])
  (.bl 0
  (.lp
  (.sq (.sq (.rg [⟨(some 39), none, .mv (.t 10)⟩,
    ⟨(some 40), none, .fa (.t 8) 1⟩,
    ⟨(some 41), none, .ld (.t 40) 1 false⟩,
    ⟨(some 42), none, .ib .lss (.t 39) (.t 41)⟩])
  (.cd (.t 42)
  .sk
  (.ex 0)))
  (.sq (.bl 1
  (.sq (.rg [⟨(some 11), none, .mv (.c (.int .i64 0))⟩])
  (.bl 2
  (.lp
  (.sq (.sq (.rg [⟨(some 45), none, .mv (.t 11)⟩,
    ⟨(some 46), none, .fa (.t 8) 2⟩,
    ⟨(some 47), none, .ld (.t 46) 1 false⟩,
    ⟨(some 48), none, .ib .lss (.t 45) (.t 47)⟩])
  (.cd (.t 48)
  .sk
  (.ex 2)))
  (.sq (.bl 3
  (.sq (.rd [⟨0, 0, [9], ⟨(some 51), none, .mv (.t 9)⟩⟩,
    ⟨1, 1, [51], ⟨(some 52), none, .nc (.t 51)⟩⟩,
    ⟨2, 3, [52], ⟨(some 53), none, .fa (.t 52) 6⟩⟩,
    ⟨3, 7, [53], ⟨(some 54), none, .ld (.t 53) 1 false⟩⟩,
    ⟨4, 0, [8], ⟨(some 55), none, .ld (.t 8) 6 true⟩⟩,
    ⟨5, 0, [10], ⟨(some 56), none, .mv (.t 10)⟩⟩,
    ⟨6, 0, [11], ⟨(some 57), none, .mv (.t 11)⟩⟩,
    ⟨7, 112, [55, 56, 57], ⟨(some 58), none, .ca 24 [(.t 55), (.t 56), (.t 57)]⟩⟩,
    ⟨8, 0, [10], ⟨(some 59), none, .mv (.t 10)⟩⟩,
    ⟨9, 256, [59], ⟨(some 60), none, .ib .mul (.c (.int .i64 100)) (.t 59)⟩⟩,
    ⟨10, 0, [11], ⟨(some 61), none, .mv (.t 11)⟩⟩,
    ⟨11, 1792, [60, 61], ⟨(some 62), none, .ib .add (.t 60) (.t 61)⟩⟩,
    ⟨12, 3840, [62], ⟨(some 63), none, .ib .add (.t 62) (.c (.int .i64 1))⟩⟩,
    ⟨13, 7936, [63], ⟨(some 64), none, .cv .u64 (.t 63)⟩⟩,
    ⟨14, 16383, [54, 58, 64], ⟨(some 65), none, .ca 23 [(.t 54), (.t 58), (.t 64)]⟩⟩,
    ⟨15, 32767, [65], ⟨(some 66), none, .ib .neq (.t 65) (.c (.int .i64 0))⟩⟩])
  (.cd (.t 66)
  (.sq (.rg [⟨(some 6), none, .mv (.c (.bool false))⟩])
  .rt)
  .sk)))
  (.rg [⟨(some 49), none, .mv (.t 11)⟩,
    ⟨(some 50), none, .ib .add (.t 49) (.c (.int .i64 1))⟩,
    ⟨(some 11), none, .mv (.t 50)⟩])))))))
  (.rg [⟨(some 43), none, .mv (.t 10)⟩,
    ⟨(some 44), none, .ib .add (.t 43) (.c (.int .i64 1))⟩,
    ⟨(some 10), none, .mv (.t 44)⟩]))))))
  (.sq (.rg [⟨(some 67), none, .mv (.t 1)⟩,
    ⟨(some 68), none, .ca 16 [(.t 67), (.c (.int .i64 4))]⟩,
    ⟨(some 12), none, .mv (.t 68)⟩])
  (.sq (.rg [⟨(some 70), none, .mv (.t 9)⟩,
    ⟨(some 71), none, .mv (.t 12)⟩,
    ⟨(some 72), none, .ca 25 [(.t 70), (.t 71)]⟩,
    ⟨(some 69), none, .mv (.t 72)⟩,
    ⟨(some 73), none, .ex (.t 69) 0⟩,
    ⟨(some 74), none, .ex (.t 69) 1⟩,
    ⟨(some 75), none, .ex (.t 69) 2⟩,
    ⟨(some 13), none, .mv (.t 73)⟩,
    ⟨(some 14), none, .mv (.t 74)⟩,
    ⟨(some 15), none, .mv (.t 75)⟩])
  (.sq (.sq (.rg [⟨(some 76), none, .mv (.t 15)⟩,
    ⟨(some 77), none, .nt (.t 76)⟩])
  (.cd (.t 77)
  (.sq (.rg [⟨(some 6), none, .mv (.c (.bool false))⟩])
  .rt)
  .sk))
  (.sq (.rg [⟨(some 16), none, .al 59 [(.pointer none), (.pointer none), (.pointer none)]⟩])
  (.sq (.rg [⟨(some 17), none, .mv (.c (.slice none 0 0))⟩])
  (.sq (.sq (.rg [⟨(some 18), none, .mv (.c (.int .i64 0))⟩])
  (.bl 4
  (.lp
  (.sq (.sq (.rg [⟨(some 78), none, .mv (.t 18)⟩,
    ⟨(some 79), none, .mv (.t 2)⟩,
    ⟨(some 80), none, .len (.t 79)⟩,
    ⟨(some 81), none, .ib .lss (.t 78) (.t 80)⟩])
  (.cd (.t 81)
  .sk
  (.ex 4)))
  (.sq (.bl 5
  (.sq (.rg [⟨(some 84), none, .mv (.t 2)⟩,
    ⟨(some 85), none, .mv (.t 18)⟩,
    ⟨(some 86), none, .ia (.t 84) (.t 85) 1⟩,
    ⟨(some 87), none, .ld (.t 86) 1 false⟩,
    ⟨(some 88), none, .ca 16 [(.t 87), (.c (.int .i64 3))]⟩,
    ⟨(some 19), none, .mv (.t 88)⟩])
  (.sq (.sq (.rg [⟨(some 89), none, .mv (.t 19)⟩,
    ⟨(some 90), none, .iaa (.t 16) (.t 89) 3 1⟩,
    ⟨(some 91), none, .ld (.t 90) 1 false⟩,
    ⟨(some 92), none, .en 0 false (.t 91) (.c (.pointer none))⟩])
  (.cd (.t 92)
  (.sq (.rd [⟨0, 0, [9], ⟨(some 94), none, .mv (.t 9)⟩⟩,
    ⟨1, 1, [94], ⟨(some 95), none, .nc (.t 94)⟩⟩,
    ⟨2, 3, [95], ⟨(some 96), none, .fa (.t 95) 8⟩⟩,
    ⟨3, 7, [96], ⟨(some 97), none, .ld (.t 96) 1 false⟩⟩,
    ⟨4, 0, [9], ⟨(some 98), none, .mv (.t 9)⟩⟩,
    ⟨5, 16, [98], ⟨(some 99), none, .nc (.t 98)⟩⟩,
    ⟨6, 48, [99], ⟨(some 100), none, .fa (.t 99) 10⟩⟩,
    ⟨7, 112, [100], ⟨(some 101), none, .ld (.t 100) 1 false⟩⟩,
    ⟨8, 0, [19], ⟨(some 102), none, .mv (.t 19)⟩⟩,
    ⟨9, 496, [101, 102], ⟨(some 103), none, .ia (.t 101) (.t 102) 1⟩⟩,
    ⟨10, 1008, [103], ⟨(some 104), none, .ld (.t 103) 1 false⟩⟩,
    ⟨11, 0, [13], ⟨(some 105), none, .mv (.t 13)⟩⟩,
    ⟨12, 0, [14], ⟨(some 106), none, .mv (.t 14)⟩⟩,
    ⟨13, 0, [2], ⟨(some 107), none, .mv (.t 2)⟩⟩,
    ⟨14, 0, [18], ⟨(some 108), none, .mv (.t 18)⟩⟩,
    ⟨15, 24576, [107, 108], ⟨(some 109), none, .ia (.t 107) (.t 108) 1⟩⟩,
    ⟨16, 57344, [109], ⟨(some 110), none, .ld (.t 109) 1 false⟩⟩,
    ⟨17, 122880, [110], ⟨(some 111), none, .ib .quo (.t 110) (.c (.int .i64 3))⟩⟩,
    ⟨18, 0, [8], ⟨(some 112), none, .fa (.t 8) 2⟩⟩,
    ⟨19, 262144, [112], ⟨(some 113), none, .ld (.t 112) 1 false⟩⟩,
    ⟨20, 1040384, [111, 113], ⟨(some 114), none, .ca 16 [(.t 111), (.t 113)]⟩⟩,
    ⟨21, 2088960, [114], ⟨(some 115), none, .ib .add (.c (.int .i64 1)) (.t 114)⟩⟩,
    ⟨22, 4194303, [97, 104, 105, 106, 115], ⟨(some 116), none, .ca 19 [(.t 97), (.t 104), (.t 105), (.t 106), (.t 115)]⟩⟩,
    ⟨23, 8388607, [116], ⟨(some 93), none, .mv (.t 116)⟩⟩,
    ⟨24, 16777215, [93], ⟨(some 117), none, .ex (.t 93) 0⟩⟩,
    ⟨25, 16777215, [93], ⟨(some 118), none, .ex (.t 93) 1⟩⟩,
    ⟨26, 33554431, [117], ⟨(some 20), none, .mv (.t 117)⟩⟩,
    ⟨27, 134217727, [118], ⟨(some 21), none, .mv (.t 118)⟩⟩])
  (.sq (.sq (.rg [⟨(some 119), none, .mv (.t 20)⟩,
    ⟨(some 120), none, .en 0 false (.t 119) (.c (.pointer none))⟩,
    ⟨(some 121), none, .mv (.t 120)⟩,
    ⟨(some 122), (some (121, false)), .mv (.t 21)⟩,
    ⟨(some 123), (some (121, false)), .ib .neq (.t 122) (.c (.int .i64 0))⟩,
    ⟨(some 124), none, .pk (.t 121) (.c (.bool true)) (.t 123)⟩])
  (.cd (.t 124)
  (.sq (.rg [⟨(some 6), none, .mv (.c (.bool false))⟩])
  .rt)
  .sk))
  (.sq (.rg [⟨(some 125), none, .mv (.t 19)⟩,
    ⟨(some 126), none, .mv (.t 20)⟩,
    ⟨(some 127), none, .iaa (.t 16) (.t 125) 3 1⟩,
    ⟨none, none, .st (.t 127) (.t 126) 1⟩])
  (.ex 5))))
  .sk))
  (.sq (.rg [⟨(some 128), none, .mv (.t 19)⟩,
    ⟨(some 129), none, .iaa (.t 16) (.t 128) 3 1⟩,
    ⟨(some 130), none, .ld (.t 129) 1 false⟩,
    ⟨(some 131), none, .ca 26 [(.t 130)]⟩])
  (.sq (.sq (.rg [⟨(some 132), none, .mv (.t 19)⟩,
    ⟨(some 133), none, .iaa (.t 16) (.t 132) 3 1⟩,
    ⟨(some 134), none, .ld (.t 133) 1 false⟩,
    ⟨(some 135), none, .ca 27 [(.t 134)]⟩,
    ⟨(some 136), none, .nt (.t 135)⟩])
  (.cd (.t 136)
  (.ex 5)
  .sk))
  (.sq (.rg [⟨(some 137), none, .mv (.t 19)⟩,
    ⟨(some 138), none, .iaa (.t 16) (.t 137) 3 1⟩,
    ⟨(some 139), none, .ld (.t 138) 1 false⟩,
    ⟨(some 140), none, .ca 28 [(.t 139)]⟩,
    ⟨(some 22), none, .al 62 [(.int .i64 0), (.int .i64 0), (.int .i64 0), (.int .i64 0), (.int .i64 0)]⟩,
    ⟨none, none, .st (.t 22) (.t 140) 5⟩])
  (.sq (.rg [⟨(some 141), none, .mv (.t 19)⟩,
    ⟨(some 142), none, .iaa (.t 16) (.t 141) 3 1⟩,
    ⟨(some 143), none, .ld (.t 142) 1 false⟩,
    ⟨(some 144), none, .ca 21 [(.t 143)]⟩,
    ⟨(some 23), none, .mv (.t 144)⟩])
  (.sq (.rg [⟨(some 145), none, .mv (.t 19)⟩,
    ⟨(some 146), none, .iaa (.t 16) (.t 145) 3 1⟩,
    ⟨none, none, .st (.t 146) (.c (.pointer none)) 1⟩])
  (.sq (.sq (.rg [⟨(some 147), none, .mv (.t 23)⟩,
    ⟨(some 148), none, .ib .eql (.t 147) (.c (.int .i64 6))⟩])
  (.cd (.t 148)
  (.ex 5)
  .sk))
  (.sq (.sq (.rg [⟨(some 149), none, .mv (.t 23)⟩,
    ⟨(some 150), none, .ib .neq (.t 149) (.c (.int .i64 0))⟩,
    ⟨(some 151), none, .mv (.t 150)⟩,
    ⟨(some 152), (some (151, false)), .fa (.t 22) 0⟩,
    ⟨(some 153), (some (151, false)), .ld (.t 152) 1 false⟩,
    ⟨(some 154), (some (151, false)), .mv (.t 13)⟩,
    ⟨(some 155), (some (151, false)), .ib .neq (.t 153) (.t 154)⟩,
    ⟨(some 156), none, .pk (.t 151) (.c (.bool true)) (.t 155)⟩,
    ⟨(some 157), none, .mv (.t 156)⟩,
    ⟨(some 158), (some (157, false)), .fa (.t 22) 1⟩,
    ⟨(some 159), (some (157, false)), .ld (.t 158) 1 false⟩,
    ⟨(some 160), (some (157, false)), .mv (.t 14)⟩,
    ⟨(some 161), (some (157, false)), .ib .neq (.t 159) (.t 160)⟩,
    ⟨(some 162), none, .pk (.t 157) (.c (.bool true)) (.t 161)⟩,
    ⟨(some 163), none, .mv (.t 162)⟩,
    ⟨(some 164), (some (163, false)), .fa (.t 22) 2⟩,
    ⟨(some 165), (some (163, false)), .ld (.t 164) 1 false⟩,
    ⟨(some 166), (some (163, false)), .ib .lss (.t 165) (.c (.int .i64 0))⟩,
    ⟨(some 167), none, .pk (.t 163) (.c (.bool true)) (.t 166)⟩,
    ⟨(some 168), none, .mv (.t 167)⟩,
    ⟨(some 169), (some (168, false)), .fa (.t 22) 2⟩,
    ⟨(some 170), (some (168, false)), .ld (.t 169) 1 false⟩,
    ⟨(some 171), (some (168, false)), .fa (.t 8) 1⟩,
    ⟨(some 172), (some (168, false)), .ld (.t 171) 1 false⟩,
    ⟨(some 173), (some (168, false)), .ib .geq (.t 170) (.t 172)⟩,
    ⟨(some 174), none, .pk (.t 168) (.c (.bool true)) (.t 173)⟩,
    ⟨(some 175), none, .mv (.t 174)⟩,
    ⟨(some 176), (some (175, false)), .fa (.t 22) 4⟩,
    ⟨(some 177), (some (175, false)), .ld (.t 176) 1 false⟩,
    ⟨(some 178), (some (175, false)), .ib .lss (.t 177) (.c (.int .i64 1))⟩,
    ⟨(some 179), none, .pk (.t 175) (.c (.bool true)) (.t 178)⟩,
    ⟨(some 180), none, .mv (.t 179)⟩,
    ⟨(some 181), (some (180, false)), .fa (.t 22) 3⟩,
    ⟨(some 182), (some (180, false)), .ld (.t 181) 1 false⟩,
    ⟨(some 183), (some (180, false)), .ib .lss (.t 182) (.c (.int .i64 0))⟩,
    ⟨(some 184), none, .pk (.t 180) (.c (.bool true)) (.t 183)⟩,
    ⟨(some 185), none, .mv (.t 184)⟩,
    ⟨(some 186), (some (185, false)), .fa (.t 22) 3⟩,
    ⟨(some 187), (some (185, false)), .ld (.t 186) 1 false⟩,
    ⟨(some 188), (some (185, false)), .fa (.t 8) 2⟩,
    ⟨(some 189), (some (185, false)), .ld (.t 188) 1 false⟩,
    ⟨(some 190), (some (185, false)), .fa (.t 22) 4⟩,
    ⟨(some 191), (some (185, false)), .ld (.t 190) 1 false⟩,
    ⟨(some 192), (some (185, false)), .ib .sub (.t 189) (.t 191)⟩,
    ⟨(some 193), (some (185, false)), .ib .gtr (.t 187) (.t 192)⟩,
    ⟨(some 194), none, .pk (.t 185) (.c (.bool true)) (.t 193)⟩,
    ⟨(some 195), none, .mv (.t 194)⟩,
    ⟨(some 196), (some (195, false)), .fa (.t 22) 3⟩,
    ⟨(some 197), (some (195, false)), .ld (.t 196) 1 false⟩,
    ⟨(some 198), (some (195, false)), .mv (.t 12)⟩,
    ⟨(some 199), (some (195, false)), .cv .u64 (.t 198)⟩,
    ⟨(some 200), (some (195, false)), .ib .shl (.c (.int .i64 1)) (.t 199)⟩,
    ⟨(some 201), (some (195, false)), .ib .rem (.t 197) (.t 200)⟩,
    ⟨(some 202), (some (195, false)), .ib .neq (.t 201) (.c (.int .i64 0))⟩,
    ⟨(some 203), none, .pk (.t 195) (.c (.bool true)) (.t 202)⟩])
  (.cd (.t 203)
  (.sq (.rg [⟨(some 6), none, .mv (.c (.bool false))⟩])
  .rt)
  .sk))
  (.sq (.sq (.rg [⟨(some 24), none, .mv (.c (.int .i64 0))⟩])
  (.bl 6
  (.lp
  (.sq (.sq (.rg [⟨(some 204), none, .mv (.t 24)⟩,
    ⟨(some 205), none, .fa (.t 22) 4⟩,
    ⟨(some 206), none, .ld (.t 205) 1 false⟩,
    ⟨(some 207), none, .ib .lss (.t 204) (.t 206)⟩])
  (.cd (.t 207)
  .sk
  (.ex 6)))
  (.sq (.bl 7
  (.sq (.rd [⟨0, 0, [9], ⟨(some 210), none, .mv (.t 9)⟩⟩,
    ⟨1, 1, [210], ⟨(some 211), none, .nc (.t 210)⟩⟩,
    ⟨2, 3, [211], ⟨(some 212), none, .fa (.t 211) 6⟩⟩,
    ⟨3, 7, [212], ⟨(some 213), none, .ld (.t 212) 1 false⟩⟩,
    ⟨4, 0, [8], ⟨(some 214), none, .ld (.t 8) 6 true⟩⟩,
    ⟨5, 0, [22], ⟨(some 215), none, .fa (.t 22) 2⟩⟩,
    ⟨6, 32, [215], ⟨(some 216), none, .ld (.t 215) 1 false⟩⟩,
    ⟨7, 0, [22], ⟨(some 217), none, .fa (.t 22) 3⟩⟩,
    ⟨8, 128, [217], ⟨(some 218), none, .ld (.t 217) 1 false⟩⟩,
    ⟨9, 0, [24], ⟨(some 219), none, .mv (.t 24)⟩⟩,
    ⟨10, 896, [218, 219], ⟨(some 220), none, .ib .add (.t 218) (.t 219)⟩⟩,
    ⟨11, 2032, [214, 216, 220], ⟨(some 221), none, .ca 24 [(.t 214), (.t 216), (.t 220)]⟩⟩,
    ⟨12, 4095, [213, 221], ⟨(some 222), none, .ca 29 [(.t 213), (.t 221)]⟩⟩,
    ⟨13, 8191, [222], ⟨(some 223), none, .ib .neq (.t 222) (.c (.int .u64 0))⟩⟩])
  (.cd (.t 223)
  (.sq (.rg [⟨(some 6), none, .mv (.c (.bool false))⟩])
  .rt)
  .sk)))
  (.rg [⟨(some 208), none, .mv (.t 24)⟩,
    ⟨(some 209), none, .ib .add (.t 208) (.c (.int .i64 1))⟩,
    ⟨(some 24), none, .mv (.t 209)⟩]))))))
  (.sq (.sq (.rg [⟨(some 25), none, .mv (.c (.int .i64 0))⟩])
  (.bl 8
  (.lp
  (.sq (.sq (.rg [⟨(some 224), none, .mv (.t 25)⟩,
    ⟨(some 225), none, .mv (.t 17)⟩,
    ⟨(some 226), none, .len (.t 225)⟩,
    ⟨(some 227), none, .ib .lss (.t 224) (.t 226)⟩])
  (.cd (.t 227)
  .sk
  (.ex 8)))
  (.sq (.bl 9
  (.sq (.rd [⟨0, 0, [17], ⟨(some 230), none, .mv (.t 17)⟩⟩,
    ⟨1, 0, [25], ⟨(some 231), none, .mv (.t 25)⟩⟩,
    ⟨2, 3, [230, 231], ⟨(some 232), none, .ia (.t 230) (.t 231) 5⟩⟩,
    ⟨3, 7, [232], ⟨(some 233), none, .fa (.t 232) 2⟩⟩,
    ⟨4, 15, [233], ⟨(some 234), none, .ld (.t 233) 1 false⟩⟩,
    ⟨5, 0, [22], ⟨(some 235), none, .fa (.t 22) 2⟩⟩,
    ⟨6, 32, [235], ⟨(some 236), none, .ld (.t 235) 1 false⟩⟩,
    ⟨7, 127, [234, 236], ⟨(some 237), none, .ib .eql (.t 234) (.t 236)⟩⟩,
    ⟨8, 255, [237], ⟨(some 238), none, .mv (.t 237)⟩⟩,
    ⟨9, 511, [17, 238], ⟨(some 239), (some (238, true)), .mv (.t 17)⟩⟩,
    ⟨10, 511, [25, 238], ⟨(some 240), (some (238, true)), .mv (.t 25)⟩⟩,
    ⟨11, 2047, [239, 240, 238], ⟨(some 241), (some (238, true)), .ia (.t 239) (.t 240) 5⟩⟩,
    ⟨12, 4095, [241, 238], ⟨(some 242), (some (238, true)), .fa (.t 241) 3⟩⟩,
    ⟨13, 8191, [242, 238], ⟨(some 243), (some (238, true)), .ld (.t 242) 1 false⟩⟩,
    ⟨14, 511, [22, 238], ⟨(some 244), (some (238, true)), .fa (.t 22) 3⟩⟩,
    ⟨15, 16895, [244, 238], ⟨(some 245), (some (238, true)), .ld (.t 244) 1 false⟩⟩,
    ⟨16, 511, [22, 238], ⟨(some 246), (some (238, true)), .fa (.t 22) 4⟩⟩,
    ⟨17, 66047, [246, 238], ⟨(some 247), (some (238, true)), .ld (.t 246) 1 false⟩⟩,
    ⟨18, 246271, [245, 247, 238], ⟨(some 248), (some (238, true)), .ib .add (.t 245) (.t 247)⟩⟩,
    ⟨19, 524287, [243, 248, 238], ⟨(some 249), (some (238, true)), .ib .lss (.t 243) (.t 248)⟩⟩,
    ⟨20, 1048575, [238, 249], ⟨(some 250), none, .pk (.t 238) (.t 249) (.c (.bool false))⟩⟩,
    ⟨21, 2097151, [250], ⟨(some 251), none, .mv (.t 250)⟩⟩,
    ⟨22, 4194303, [22, 251], ⟨(some 252), (some (251, true)), .fa (.t 22) 3⟩⟩,
    ⟨23, 8388607, [252, 251], ⟨(some 253), (some (251, true)), .ld (.t 252) 1 false⟩⟩,
    ⟨24, 4194303, [17, 251], ⟨(some 254), (some (251, true)), .mv (.t 17)⟩⟩,
    ⟨25, 4194303, [25, 251], ⟨(some 255), (some (251, true)), .mv (.t 25)⟩⟩,
    ⟨26, 54525951, [254, 255, 251], ⟨(some 256), (some (251, true)), .ia (.t 254) (.t 255) 5⟩⟩,
    ⟨27, 121634815, [256, 251], ⟨(some 257), (some (251, true)), .fa (.t 256) 3⟩⟩,
    ⟨28, 255852543, [257, 251], ⟨(some 258), (some (251, true)), .ld (.t 257) 1 false⟩⟩,
    ⟨29, 4194303, [17, 251], ⟨(some 259), (some (251, true)), .mv (.t 17)⟩⟩,
    ⟨30, 4194303, [25, 251], ⟨(some 260), (some (251, true)), .mv (.t 25)⟩⟩,
    ⟨31, 1614807039, [259, 260, 251], ⟨(some 261), (some (251, true)), .ia (.t 259) (.t 260) 5⟩⟩,
    ⟨32, 3762290687, [261, 251], ⟨(some 262), (some (251, true)), .fa (.t 261) 4⟩⟩,
    ⟨33, 8057257983, [262, 251], ⟨(some 263), (some (251, true)), .ld (.t 262) 1 false⟩⟩,
    ⟨34, 17167286271, [258, 263, 251], ⟨(some 264), (some (251, true)), .ib .add (.t 258) (.t 263)⟩⟩,
    ⟨35, 34359738367, [253, 264, 251], ⟨(some 265), (some (251, true)), .ib .lss (.t 253) (.t 264)⟩⟩,
    ⟨36, 68719476735, [251, 265], ⟨(some 266), none, .pk (.t 251) (.t 265) (.c (.bool false))⟩⟩])
  (.cd (.t 266)
  (.sq (.rg [⟨(some 6), none, .mv (.c (.bool false))⟩])
  .rt)
  .sk)))
  (.rg [⟨(some 228), none, .mv (.t 25)⟩,
    ⟨(some 229), none, .ib .add (.t 228) (.c (.int .i64 1))⟩,
    ⟨(some 25), none, .mv (.t 229)⟩]))))))
  (.rg [⟨(some 267), none, .mv (.t 17)⟩,
    ⟨(some 268), none, .ld (.t 22) 5 true⟩,
    ⟨(some 269), none, .bs 62 1 [(.int .i64 0), (.int .i64 0), (.int .i64 0), (.int .i64 0), (.int .i64 0)] [(0, 5, (.t 268))]⟩,
    ⟨(some 270), none, .ap 60 62 5 40 [(.int .i64 0), (.int .i64 0), (.int .i64 0), (.int .i64 0), (.int .i64 0)] (.t 267) (.t 269)⟩,
    ⟨(some 17), none, .mv (.t 270)⟩])))))))))))))
  (.rg [⟨(some 82), none, .mv (.t 18)⟩,
    ⟨(some 83), none, .ib .add (.t 82) (.c (.int .i64 1))⟩,
    ⟨(some 18), none, .mv (.t 83)⟩]))))))
  (.sq (.rg [⟨(some 271), none, .mv (.t 7)⟩,
    ⟨(some 6), none, .mv (.t 271)⟩])
  .rt)))))))))))))))⟩
theorem k4 : cF Tryz.prog Tryz.f4 = some c4 := by kernel_rfl
/-- rundale/rundalelaw14.first -/
def c12 : Fu := ⟨54, [.t 0],
  (.sq (.rg [⟨(some 0), none, .mv (.c (.bool false))⟩])
  (.sq (.rg [⟨(some 7), none, .bd [(.int .i64 0), (.int .i64 0), (.int .i64 0), (.int .i64 0), (.int .i64 0), (.int .i64 0)] [(0, 1, (.c (.int .i64 1))), (1, 1, (.c (.int .i64 2))), (2, 1, (.c (.int .i64 8))), (3, 1, (.c (.int .i64 1))), (4, 1, (.c (.int .i64 1))), (5, 1, (.c (.int .i64 1)))]⟩,
    ⟨(some 8), none, .ca 14 [(.t 7)]⟩,
    ⟨(some 1), none, .mv (.t 8)⟩])
  (.sq (.sq (.rg [⟨(some 9), none, .mv (.t 1)⟩,
    ⟨(some 10), none, .en 0 false (.t 9) (.c (.pointer none))⟩])
  (.cd (.t 10)
  (.sq (.rg [⟨(some 0), none, .mv (.c (.bool false))⟩])
  .rt)
  .sk))
  (.sq (.rg [⟨(some 12), none, .mv (.t 1)⟩,
    ⟨(some 13), none, .ca 25 [(.t 12), (.c (.int .i64 0))]⟩,
    ⟨(some 11), none, .mv (.t 13)⟩,
    ⟨(some 14), none, .ex (.t 11) 0⟩,
    ⟨(some 15), none, .ex (.t 11) 1⟩,
    ⟨(some 16), none, .ex (.t 11) 2⟩,
    ⟨(some 2), none, .mv (.t 14)⟩,
    ⟨(some 3), none, .mv (.t 15)⟩,
    ⟨(some 4), none, .mv (.t 16)⟩])
  (.sq (.sq (.rg [⟨(some 17), none, .mv (.t 4)⟩,
    ⟨(some 18), none, .nt (.t 17)⟩])
  (.cd (.t 18)
  (.sq (.rg [⟨(some 0), none, .mv (.c (.bool false))⟩])
  .rt)
  .sk))
  (.sq (.rg [⟨(some 20), none, .mv (.t 1)⟩,
    ⟨(some 21), none, .mv (.t 2)⟩,
    ⟨(some 22), none, .mv (.t 3)⟩,
    ⟨(some 23), none, .ca 20 [(.t 20), (.c (.int .i64 0)), (.t 21), (.t 22), (.c (.int .i64 3))]⟩,
    ⟨(some 19), none, .mv (.t 23)⟩,
    ⟨(some 24), none, .ex (.t 19) 0⟩,
    ⟨(some 25), none, .ex (.t 19) 1⟩,
    ⟨(some 5), none, .mv (.t 24)⟩,
    ⟨(some 6), none, .mv (.t 25)⟩])
  (.sq (.rg [⟨(some 26), none, .mv (.t 5)⟩,
    ⟨(some 27), none, .en 0 true (.t 26) (.c (.pointer none))⟩,
    ⟨(some 28), none, .mv (.t 27)⟩,
    ⟨(some 29), (some (28, true)), .mv (.t 6)⟩,
    ⟨(some 30), (some (28, true)), .ib .eql (.t 29) (.c (.int .i64 14))⟩,
    ⟨(some 31), none, .pk (.t 28) (.t 30) (.c (.bool false))⟩,
    ⟨(some 32), none, .mv (.t 31)⟩,
    ⟨(some 33), (some (32, true)), .mv (.t 5)⟩,
    ⟨(some 34), (some (32, true)), .ca 27 [(.t 33)]⟩,
    ⟨(some 35), none, .pk (.t 32) (.t 34) (.c (.bool false))⟩,
    ⟨(some 36), none, .mv (.t 35)⟩,
    ⟨(some 37), (some (36, true)), .mv (.t 5)⟩,
    ⟨(some 38), (some (36, true)), .ca 21 [(.t 37)]⟩,
    ⟨(some 39), (some (36, true)), .ib .eql (.t 38) (.c (.int .i64 0))⟩,
    ⟨(some 40), none, .pk (.t 36) (.t 39) (.c (.bool false))⟩,
    ⟨(some 41), none, .mv (.t 40)⟩,
    ⟨(some 42), (some (41, true)), .mv (.t 5)⟩,
    ⟨(some 43), (some (41, true)), .ca 28 [(.t 42)]⟩,
    ⟨(some 44), (some (41, true)), .mv (.t 2)⟩,
    ⟨(some 45), (some (41, true)), .mv (.t 3)⟩,
    ⟨(some 46), (some (41, true)), .bd [(.int .i64 0), (.int .i64 0), (.int .i64 0), (.int .i64 0), (.int .i64 0)] [(0, 1, (.t 44)), (1, 1, (.t 45)), (2, 1, (.c (.int .i64 0))), (4, 1, (.c (.int .i64 3)))]⟩,
    ⟨(some 47), (some (41, true)), .es 5 false (.t 43) (.t 46)⟩,
    ⟨(some 48), none, .pk (.t 41) (.t 47) (.c (.bool false))⟩,
    ⟨(some 49), none, .mv (.t 48)⟩,
    ⟨(some 50), (some (49, true)), .mv (.t 5)⟩,
    ⟨(some 51), (some (49, true)), .ca 22 [(.t 50)]⟩,
    ⟨(some 52), (some (49, true)), .ib .eql (.t 51) (.c (.int .i64 14))⟩,
    ⟨(some 53), none, .pk (.t 49) (.t 52) (.c (.bool false))⟩,
    ⟨(some 0), none, .mv (.t 53)⟩])
  .rt)))))))⟩
theorem k12 : cF Tryz.prog Tryz.f12 = some c12 := by kernel_rfl
/-- rundale/rundalemake.Config -/
def c13 : Fu := ⟨43, [.c 2 6 true],
  (.sq (.rg [⟨(some 2), none, .al 24 [(.int .i64 0), (.int .i64 0), (.int .i64 0), (.int .i64 0), (.int .i64 0), (.int .i64 0)]⟩])
  (.sq (.rg [⟨(some 4), none, .mv (.t 0)⟩,
    ⟨(some 5), none, .ca 16 [(.t 4), (.c (.int .i64 4))]⟩,
    ⟨(some 6), none, .mv (.t 0)⟩,
    ⟨(some 7), none, .ib .quo (.t 6) (.c (.int .i64 4))⟩,
    ⟨(some 8), none, .ca 16 [(.t 7), (.c (.int .i64 8))]⟩,
    ⟨(some 9), none, .mv (.t 0)⟩,
    ⟨(some 10), none, .ib .quo (.t 9) (.c (.int .i64 32))⟩,
    ⟨(some 11), none, .ca 16 [(.t 10), (.c (.int .i64 2))]⟩,
    ⟨(some 12), none, .mv (.t 0)⟩,
    ⟨(some 13), none, .ib .quo (.t 12) (.c (.int .i64 64))⟩,
    ⟨(some 14), none, .ca 16 [(.t 13), (.c (.int .i64 4))]⟩,
    ⟨(some 15), none, .mv (.t 0)⟩,
    ⟨(some 16), none, .ib .quo (.t 15) (.c (.int .i64 256))⟩,
    ⟨(some 17), none, .ca 16 [(.t 16), (.c (.int .i64 4))]⟩,
    ⟨(some 18), none, .mv (.t 0)⟩,
    ⟨(some 19), none, .ib .quo (.t 18) (.c (.int .i64 1024))⟩,
    ⟨(some 20), none, .ca 16 [(.t 19), (.c (.int .i64 3))]⟩,
    ⟨(some 21), none, .bs 3 6 [(.int .i64 0), (.int .i64 0), (.int .i64 0), (.int .i64 0), (.int .i64 0), (.int .i64 0)] [(0, 1, (.t 5)), (1, 1, (.t 8)), (2, 1, (.t 11)), (3, 1, (.t 14)), (4, 1, (.t 17)), (5, 1, (.t 20))]⟩,
    ⟨(some 22), none, .bd [(.slice none 0 0), (.int .i64 0)] [(0, 1, (.t 21))]⟩,
    ⟨(some 23), none, .bx 125 (.t 22)⟩,
    ⟨(some 3), none, .mv (.t 23)⟩])
  (.sq (.rg [⟨(some 24), none, .mv (.t 3)⟩,
    ⟨(some 25), none, .ca 68 [(.t 24), (.c (.int .i64 4))]⟩,
    ⟨(some 26), none, .ib .add (.c (.int .i64 1)) (.t 25)⟩,
    ⟨(some 27), none, .mv (.t 3)⟩,
    ⟨(some 28), none, .ca 68 [(.t 27), (.c (.int .i64 8))]⟩,
    ⟨(some 29), none, .ib .add (.c (.int .i64 1)) (.t 28)⟩,
    ⟨(some 30), none, .mv (.t 3)⟩,
    ⟨(some 31), none, .ca 68 [(.t 30), (.c (.int .i64 2))]⟩,
    ⟨(some 32), none, .ib .mul (.c (.int .i64 8)) (.t 31)⟩,
    ⟨(some 33), none, .ib .add (.c (.int .i64 8)) (.t 32)⟩,
    ⟨(some 34), none, .mv (.t 3)⟩,
    ⟨(some 35), none, .ca 68 [(.t 34), (.c (.int .i64 4))]⟩,
    ⟨(some 36), none, .ib .add (.c (.int .i64 1)) (.t 35)⟩,
    ⟨(some 37), none, .mv (.t 3)⟩,
    ⟨(some 38), none, .ca 68 [(.t 37), (.c (.int .i64 4))]⟩,
    ⟨(some 39), none, .mv (.t 3)⟩,
    ⟨(some 40), none, .ca 68 [(.t 39), (.c (.int .i64 3))]⟩,
    ⟨(some 41), none, .ib .add (.c (.int .i64 1)) (.t 40)⟩,
    ⟨(some 42), none, .bd [(.int .i64 0), (.int .i64 0), (.int .i64 0), (.int .i64 0), (.int .i64 0), (.int .i64 0)] [(0, 1, (.t 26)), (1, 1, (.t 29)), (2, 1, (.t 33)), (3, 1, (.t 36)), (4, 1, (.t 38)), (5, 1, (.t 41))]⟩,
    ⟨none, none, .st (.t 2) (.t 42) 6⟩])
  .rt)))⟩
theorem k13 : cF Tryz.prog Tryz.f13 = some c13 := by kernel_rfl
/-- rundale/rundalelaw14.made -/
def c14 : Fu := ⟨127, [.t 2],
  (.sq (.rg [⟨(some 1), none, .bx 24 (.t 0)⟩,
    ⟨(some 2), none, .mv (.c (.pointer none))⟩])
  (.sq (.rg [⟨(some 16), none, .ld (.t 1) 6 true⟩,
    ⟨(some 17), none, .ca 17 [(.t 16)]⟩,
    ⟨(some 18), none, .ca 15 [(.t 17)]⟩,
    ⟨(some 15), none, .mv (.t 18)⟩,
    ⟨(some 19), none, .ex (.t 15) 0⟩,
    ⟨(some 20), none, .ex (.t 15) 1⟩,
    ⟨(some 3), none, .mv (.t 19)⟩,
    ⟨(some 4), none, .mv (.t 20)⟩])
  (.sq (.sq (.rg [⟨(some 21), none, .mv (.t 3)⟩,
    ⟨(some 22), none, .en 0 false (.t 21) (.c (.pointer none))⟩,
    ⟨(some 23), none, .mv (.t 22)⟩,
    ⟨(some 24), (some (23, false)), .mv (.t 4)⟩,
    ⟨(some 25), (some (23, false)), .ib .neq (.t 24) (.c (.int .i64 0))⟩,
    ⟨(some 26), none, .pk (.t 23) (.c (.bool true)) (.t 25)⟩])
  (.cd (.t 26)
  (.sq (.rg [⟨(some 2), none, .mv (.c (.pointer none))⟩])
  .rt)
  .sk))
  (.sq (.rg [⟨(some 28), none, .mv (.t 3)⟩,
    ⟨(some 29), none, .ld (.t 1) 6 true⟩,
    ⟨(some 30), none, .ca 69 [(.t 28), (.t 29)]⟩,
    ⟨(some 27), none, .mv (.t 30)⟩,
    ⟨(some 31), none, .ex (.t 27) 0⟩,
    ⟨(some 32), none, .ex (.t 27) 1⟩,
    ⟨(some 5), none, .mv (.t 31)⟩,
    ⟨(some 6), none, .mv (.t 32)⟩])
  (.sq (.rg [⟨(some 34), none, .mv (.t 3)⟩,
    ⟨(some 35), none, .ld (.t 1) 6 true⟩,
    ⟨(some 36), none, .ca 70 [(.t 34), (.t 35)]⟩,
    ⟨(some 33), none, .mv (.t 36)⟩,
    ⟨(some 37), none, .ex (.t 33) 0⟩,
    ⟨(some 38), none, .ex (.t 33) 1⟩,
    ⟨(some 7), none, .mv (.t 37)⟩,
    ⟨(some 8), none, .mv (.t 38)⟩])
  (.sq (.rg [⟨(some 40), none, .mv (.t 3)⟩,
    ⟨(some 41), none, .ld (.t 1) 6 true⟩,
    ⟨(some 42), none, .ca 18 [(.t 40), (.t 41)]⟩,
    ⟨(some 39), none, .mv (.t 42)⟩,
    ⟨(some 43), none, .ex (.t 39) 0⟩,
    ⟨(some 44), none, .ex (.t 39) 1⟩,
    ⟨(some 9), none, .mv (.t 43)⟩,
    ⟨(some 10), none, .mv (.t 44)⟩])
  (.sq (.sq (.rg [⟨(some 45), none, .mv (.t 5)⟩,
    ⟨(some 46), none, .en 0 false (.t 45) (.c (.pointer none))⟩,
    ⟨(some 47), none, .mv (.t 46)⟩,
    ⟨(some 48), (some (47, false)), .mv (.t 6)⟩,
    ⟨(some 49), (some (47, false)), .ib .neq (.t 48) (.c (.int .i64 0))⟩,
    ⟨(some 50), none, .pk (.t 47) (.c (.bool true)) (.t 49)⟩,
    ⟨(some 51), none, .mv (.t 50)⟩,
    ⟨(some 52), (some (51, false)), .mv (.t 7)⟩,
    ⟨(some 53), (some (51, false)), .en 0 false (.t 52) (.c (.pointer none))⟩,
    ⟨(some 54), none, .pk (.t 51) (.c (.bool true)) (.t 53)⟩,
    ⟨(some 55), none, .mv (.t 54)⟩,
    ⟨(some 56), (some (55, false)), .mv (.t 8)⟩,
    ⟨(some 57), (some (55, false)), .ib .neq (.t 56) (.c (.int .i64 0))⟩,
    ⟨(some 58), none, .pk (.t 55) (.c (.bool true)) (.t 57)⟩,
    ⟨(some 59), none, .mv (.t 58)⟩,
    ⟨(some 60), (some (59, false)), .mv (.t 9)⟩,
    ⟨(some 61), (some (59, false)), .en 0 false (.t 60) (.c (.pointer none))⟩,
    ⟨(some 62), none, .pk (.t 59) (.c (.bool true)) (.t 61)⟩,
    ⟨(some 63), none, .mv (.t 62)⟩,
    ⟨(some 64), (some (63, false)), .mv (.t 10)⟩,
    ⟨(some 65), (some (63, false)), .ib .neq (.t 64) (.c (.int .i64 0))⟩,
    ⟨(some 66), none, .pk (.t 63) (.c (.bool true)) (.t 65)⟩,
    ⟨(some 67), none, .mv (.t 66)⟩,
    ⟨(some 68), (some (67, false)), .mv (.t 5)⟩,
    ⟨(some 69), (some (67, false)), .ca 71 [(.t 68)]⟩,
    ⟨(some 70), (some (67, false)), .en 0 false (.t 69) (.c (.pointer none))⟩,
    ⟨(some 71), none, .pk (.t 67) (.c (.bool true)) (.t 70)⟩])
  (.cd (.t 71)
  (.sq (.rg [⟨(some 2), none, .mv (.c (.pointer none))⟩])
  .rt)
  .sk))
  (.sq (.rg [⟨(some 72), none, .mv (.t 5)⟩,
    ⟨(some 73), none, .ca 72 [(.t 72)]⟩])
  (.sq (.rg [⟨(some 74), none, .mv (.t 7)⟩,
    ⟨(some 75), none, .ca 73 [(.t 74)]⟩])
  (.sq (.rd [⟨0, 0, [1], ⟨(some 76), none, .ld (.t 1) 6 true⟩⟩,
    ⟨1, 0, [3], ⟨(some 77), none, .mv (.t 3)⟩⟩,
    ⟨2, 0, [7], ⟨(some 78), none, .mv (.t 7)⟩⟩,
    ⟨3, 0, [9], ⟨(some 79), none, .mv (.t 9)⟩⟩,
    ⟨4, 0, [5], ⟨(some 80), none, .mv (.t 5)⟩⟩,
    ⟨5, 16, [80], ⟨(some 81), none, .ca 71 [(.t 80)]⟩⟩,
    ⟨6, 0, [1], ⟨(some 82), none, .ld (.t 1) 6 true⟩⟩,
    ⟨7, 112, [82], ⟨(some 83), none, .ca 74 [(.t 82)]⟩⟩,
    ⟨8, 255, [76, 77, 78, 79, 81, 83], ⟨(some 84), none, .bd [(.int .i64 0), (.int .i64 0), (.int .i64 0), (.int .i64 0), (.int .i64 0), (.int .i64 0), (.pointer none), (.pointer none), (.pointer none), (.pointer none), (.slice none 0 0), (.pointer none), (.slice none 0 0)] [(0, 6, (.t 76)), (6, 1, (.t 77)), (7, 1, (.t 78)), (8, 1, (.t 79)), (9, 1, (.t 81)), (11, 1, (.t 83))]⟩⟩,
    ⟨9, 511, [84], ⟨(some 85), none, .bx 45 (.t 84)⟩⟩,
    ⟨10, 1023, [85], ⟨(some 11), none, .mv (.t 85)⟩⟩])
  (.sq (.sq (.rg [⟨(some 12), none, .mv (.c (.int .i64 0))⟩])
  (.bl 0
  (.lp
  (.sq (.sq (.rg [⟨(some 86), none, .mv (.t 12)⟩,
    ⟨(some 87), none, .ib .lss (.t 86) (.c (.int .i64 3))⟩])
  (.cd (.t 87)
  .sk
  (.ex 0)))
  (.sq (.bl 1
  (.sq (.rg [⟨(some 91), none, .mv (.t 3)⟩,
    ⟨(some 92), none, .ld (.t 1) 6 true⟩,
    ⟨(some 93), none, .ca 75 [(.t 91), (.t 92)]⟩,
    ⟨(some 90), none, .mv (.t 93)⟩,
    ⟨(some 94), none, .ex (.t 90) 0⟩,
    ⟨(some 95), none, .ex (.t 90) 1⟩,
    ⟨(some 13), none, .mv (.t 94)⟩,
    ⟨(some 14), none, .mv (.t 95)⟩])
  (.sq (.sq (.rg [⟨(some 96), none, .mv (.t 13)⟩,
    ⟨(some 97), none, .en 0 false (.t 96) (.c (.pointer none))⟩,
    ⟨(some 98), none, .mv (.t 97)⟩,
    ⟨(some 99), (some (98, false)), .mv (.t 14)⟩,
    ⟨(some 100), (some (98, false)), .ib .neq (.t 99) (.c (.int .i64 0))⟩,
    ⟨(some 101), none, .pk (.t 98) (.c (.bool true)) (.t 100)⟩])
  (.cd (.t 101)
  (.sq (.rg [⟨(some 2), none, .mv (.c (.pointer none))⟩])
  .rt)
  .sk))
  (.sq (.rg [⟨(some 102), none, .mv (.t 11)⟩,
    ⟨(some 103), none, .mv (.t 11)⟩,
    ⟨(some 104), none, .nc (.t 103)⟩,
    ⟨(some 105), none, .fa (.t 104) 10⟩,
    ⟨(some 106), none, .ld (.t 105) 1 false⟩,
    ⟨(some 107), none, .mv (.t 13)⟩,
    ⟨(some 108), none, .bs 47 1 [(.pointer none)] [(0, 1, (.t 107))]⟩,
    ⟨(some 109), none, .ap 41 47 1 8 [(.pointer none)] (.t 106) (.t 108)⟩,
    ⟨(some 110), none, .nc (.t 102)⟩,
    ⟨(some 111), none, .fa (.t 110) 10⟩,
    ⟨none, none, .st (.t 111) (.t 109) 1⟩])
  (.rd [⟨0, 0, [11], ⟨(some 112), none, .mv (.t 11)⟩⟩,
    ⟨1, 0, [11], ⟨(some 113), none, .mv (.t 11)⟩⟩,
    ⟨2, 2, [113], ⟨(some 114), none, .nc (.t 113)⟩⟩,
    ⟨3, 6, [114], ⟨(some 115), none, .fa (.t 114) 12⟩⟩,
    ⟨4, 14, [115], ⟨(some 116), none, .ld (.t 115) 1 false⟩⟩,
    ⟨5, 0, [11], ⟨(some 117), none, .mv (.t 11)⟩⟩,
    ⟨6, 32, [117], ⟨(some 118), none, .nc (.t 117)⟩⟩,
    ⟨7, 96, [118], ⟨(some 119), none, .fa (.t 118) 11⟩⟩,
    ⟨8, 224, [119], ⟨(some 120), none, .ld (.t 119) 1 false⟩⟩,
    ⟨9, 480, [120], ⟨(some 121), none, .ca 76 [(.t 120)]⟩⟩,
    ⟨10, 992, [121], ⟨(some 122), none, .bs 81 1 [(.pointer none)] [(0, 1, (.t 121))]⟩⟩,
    ⟨11, 2046, [116, 122], ⟨(some 123), none, .ap 43 81 1 8 [(.pointer none)] (.t 116) (.t 122)⟩⟩,
    ⟨12, 4095, [112], ⟨(some 124), none, .nc (.t 112)⟩⟩,
    ⟨13, 8191, [124], ⟨(some 125), none, .fa (.t 124) 12⟩⟩,
    ⟨14, 16383, [125, 123], ⟨none, none, .st (.t 125) (.t 123) 1⟩⟩])))))
  (.rg [⟨(some 88), none, .mv (.t 12)⟩,
    ⟨(some 89), none, .ib .add (.t 88) (.c (.int .i64 1))⟩,
    ⟨(some 12), none, .mv (.t 89)⟩]))))))
  (.sq (.rg [⟨(some 126), none, .mv (.t 11)⟩,
    ⟨(some 2), none, .mv (.t 126)⟩])
  .rt))))))))))))⟩
theorem k14 : cF Tryz.prog Tryz.f14 = some c14 := by kernel_rfl
/-- rundale/cells.New -/
def c15 : Fu := ⟨14, [.t 2, .t 3],
  (.sq (.rg [⟨(some 2), none, .mv (.c (.pointer none))⟩,
    ⟨(some 3), none, .mv (.c (.int .i64 0))⟩])
  (.sq (.sq (.rg [⟨(some 4), none, .mv (.t 0)⟩,
    ⟨(some 5), none, .ib .lss (.t 4) (.c (.int .i64 1))⟩,
    ⟨(some 6), none, .mv (.t 5)⟩,
    ⟨(some 7), (some (6, false)), .mv (.t 0)⟩,
    ⟨(some 8), (some (6, false)), .ib .gtr (.t 7) (.c (.int .i64 8388608))⟩,
    ⟨(some 9), none, .pk (.t 6) (.c (.bool true)) (.t 8)⟩])
  (.cd (.t 9)
  (.sq (.rg [⟨(some 2), none, .mv (.c (.pointer none))⟩,
    ⟨(some 3), none, .mv (.c (.int .i64 1))⟩])
  .rt)
  .sk))
  (.sq (.rg [⟨(some 10), none, .mv (.t 0)⟩,
    ⟨(some 11), none, .mk 56 1 8 [(.int .u64 0)] (.t 10) (.t 10)⟩,
    ⟨(some 12), none, .bd [(.slice none 0 0), (.int .i64 0), (.int .i64 0), (.int .i64 0), (.int .u64 0), (.int .u64 0), (.bool false)] [(0, 1, (.t 11))]⟩,
    ⟨(some 13), none, .bx 139 (.t 12)⟩,
    ⟨(some 2), none, .mv (.t 13)⟩,
    ⟨(some 3), none, .mv (.c (.int .i64 0))⟩])
  .rt)))⟩
theorem k15 : cF Tryz.prog Tryz.f15 = some c15 := by kernel_rfl
/-- rundale/rundalemake.Number -/
def c16 : Fu := ⟨15, [.t 4],
  (.sq (.rg [⟨(some 4), none, .mv (.c (.int .i64 0))⟩])
  (.sq (.rg [⟨(some 6), none, .mv (.t 0)⟩,
    ⟨(some 7), none, .mv (.t 1)⟩,
    ⟨(some 8), none, .ib .rem (.t 6) (.t 7)⟩,
    ⟨(some 5), none, .mv (.t 8)⟩])
  (.sq (.sq (.rg [⟨(some 9), none, .mv (.t 5)⟩,
    ⟨(some 10), none, .ib .lss (.t 9) (.c (.int .i64 0))⟩])
  (.cd (.t 10)
  (.rg [⟨(some 11), none, .mv (.t 5)⟩,
    ⟨(some 12), none, .mv (.t 1)⟩,
    ⟨(some 13), none, .ib .add (.t 11) (.t 12)⟩,
    ⟨(some 5), none, .mv (.t 13)⟩])
  .sk))
  (.sq (.rg [⟨(some 14), none, .mv (.t 5)⟩,
    ⟨(some 4), none, .mv (.t 14)⟩])
  .rt))))⟩
theorem k16 : cF Tryz.prog Tryz.f16 = some c16 := by kernel_rfl
/-- rundale/lay.Len -/
def c17 : Fu := ⟨17, [.t 2],
  (.sq (.rg [⟨(some 1), none, .bx 24 (.t 0)⟩,
    ⟨(some 2), none, .mv (.c (.int .i64 0))⟩])
  (.sq (.sq (.rg [⟨(some 5), none, .ld (.t 1) 6 true⟩,
    ⟨(some 6), none, .ca 77 [(.t 5)]⟩,
    ⟨(some 7), none, .nt (.t 6)⟩])
  (.cd (.t 7)
  (.sq (.rg [⟨(some 2), none, .mv (.c (.int .i64 0))⟩])
  .rt)
  .sk))
  (.sq (.rg [⟨(some 8), none, .ld (.t 1) 6 true⟩,
    ⟨(some 9), none, .ca 78 [(.t 8)]⟩,
    ⟨(some 3), none, .al 143 [(.int .i64 0), (.int .i64 0), (.int .i64 0), (.int .i64 0), (.int .i64 0), (.int .i64 0), (.int .i64 0), (.int .i64 0), (.int .i64 0), (.int .i64 0), (.int .i64 0), (.int .i64 0), (.int .i64 0), (.int .i64 0), (.int .i64 0)]⟩,
    ⟨none, none, .st (.t 3) (.t 9) 15⟩])
  (.sq (.rg [⟨(some 10), none, .iaa (.t 3) (.c (.int .i64 4)) 5 3⟩,
    ⟨(some 11), none, .ld (.t 10) 3 true⟩,
    ⟨(some 4), none, .al 142 [(.int .i64 0), (.int .i64 0), (.int .i64 0)]⟩,
    ⟨none, none, .st (.t 4) (.t 11) 3⟩])
  (.sq (.rg [⟨(some 12), none, .fa (.t 4) 1⟩,
    ⟨(some 13), none, .ld (.t 12) 1 false⟩,
    ⟨(some 14), none, .fa (.t 4) 2⟩,
    ⟨(some 15), none, .ld (.t 14) 1 false⟩,
    ⟨(some 16), none, .ib .add (.t 13) (.t 15)⟩,
    ⟨(some 2), none, .mv (.t 16)⟩])
  .rt)))))⟩
theorem k17 : cF Tryz.prog Tryz.f17 = some c17 := by kernel_rfl
/-- rundale/grant.New -/
def c18 : Fu := ⟨21, [.t 4, .t 5],
  (.sq (.rg [⟨(some 3), none, .bx 24 (.t 1)⟩,
    ⟨(some 4), none, .mv (.c (.pointer none))⟩,
    ⟨(some 5), none, .mv (.c (.int .i64 0))⟩])
  (.sq (.sq (.rg [⟨(some 9), none, .mv (.t 0)⟩,
    ⟨(some 10), none, .ld (.t 3) 6 true⟩,
    ⟨(some 11), none, .ca 70 [(.t 9), (.t 10)]⟩,
    ⟨(some 8), none, .mv (.t 11)⟩,
    ⟨(some 12), none, .ex (.t 8) 0⟩,
    ⟨(some 13), none, .ex (.t 8) 1⟩,
    ⟨(some 6), none, .mv (.t 12)⟩,
    ⟨(some 7), none, .mv (.t 13)⟩])
  (.sq (.rg [⟨(some 14), none, .mv (.t 7)⟩,
    ⟨(some 15), none, .ib .neq (.t 14) (.c (.int .i64 0))⟩])
  (.cd (.t 15)
  (.sq (.rg [⟨(some 16), none, .mv (.t 7)⟩,
    ⟨(some 4), none, .mv (.c (.pointer none))⟩,
    ⟨(some 5), none, .mv (.t 16)⟩])
  .rt)
  .sk)))
  (.sq (.rg [⟨(some 17), none, .mv (.t 0)⟩,
    ⟨(some 18), none, .ld (.t 3) 6 true⟩,
    ⟨(some 19), none, .bd [(.pointer none), (.int .i64 0), (.int .i64 0), (.int .i64 0), (.int .i64 0), (.int .i64 0), (.int .i64 0)] [(0, 1, (.t 17)), (1, 6, (.t 18))]⟩,
    ⟨(some 20), none, .bx 146 (.t 19)⟩,
    ⟨(some 4), none, .mv (.t 20)⟩,
    ⟨(some 5), none, .mv (.c (.int .i64 0))⟩])
  .rt)))⟩
theorem k18 : cF Tryz.prog Tryz.f18 = some c18 := by kernel_rfl
/-- (*rundale/grant.Grants).Alloc -/
def c19 : Fu := ⟨49, [.t 10, .t 11],
  (.sq (.rg [⟨(some 10), none, .mv (.c (.pointer none))⟩,
    ⟨(some 11), none, .mv (.c (.int .i64 0))⟩])
  (.sq (.sq (.rg [⟨(some 13), none, .mv (.t 2)⟩,
    ⟨(some 14), none, .ib .lss (.t 13) (.c (.int .i64 0))⟩,
    ⟨(some 15), none, .mv (.t 14)⟩,
    ⟨(some 16), (some (15, false)), .mv (.t 2)⟩,
    ⟨(some 17), (some (15, false)), .mv (.t 0)⟩,
    ⟨(some 18), (some (15, false)), .nc (.t 17)⟩,
    ⟨(some 19), (some (15, false)), .fa (.t 18) 1⟩,
    ⟨(some 20), (some (15, false)), .fa (.t 19) 3⟩,
    ⟨(some 21), (some (15, false)), .ld (.t 20) 1 false⟩,
    ⟨(some 22), (some (15, false)), .ib .geq (.t 16) (.t 21)⟩,
    ⟨(some 23), none, .pk (.t 15) (.c (.bool true)) (.t 22)⟩])
  (.cd (.t 23)
  (.sq (.rg [⟨(some 10), none, .mv (.c (.pointer none))⟩,
    ⟨(some 11), none, .mv (.c (.int .i64 1))⟩])
  .rt)
  .sk))
  (.sq (.sq (.rg [⟨(some 24), none, .mv (.t 4)⟩,
    ⟨(some 25), none, .ib .lss (.t 24) (.c (.int .i64 1))⟩,
    ⟨(some 26), none, .mv (.t 25)⟩,
    ⟨(some 27), (some (26, false)), .mv (.t 4)⟩,
    ⟨(some 28), (some (26, false)), .mv (.t 0)⟩,
    ⟨(some 29), (some (26, false)), .nc (.t 28)⟩,
    ⟨(some 30), (some (26, false)), .fa (.t 29) 1⟩,
    ⟨(some 31), (some (26, false)), .fa (.t 30) 2⟩,
    ⟨(some 32), (some (26, false)), .ld (.t 31) 1 false⟩,
    ⟨(some 33), (some (26, false)), .ib .gtr (.t 27) (.t 32)⟩,
    ⟨(some 34), none, .pk (.t 26) (.c (.bool true)) (.t 33)⟩])
  (.cd (.t 34)
  (.sq (.rg [⟨(some 10), none, .mv (.c (.pointer none))⟩,
    ⟨(some 11), none, .mv (.c (.int .i64 5))⟩])
  .rt)
  .sk))
  (.sq (.rg [⟨(some 35), none, .mv (.t 0)⟩,
    ⟨(some 36), none, .mv (.t 1)⟩,
    ⟨(some 37), none, .mv (.t 2)⟩,
    ⟨(some 38), none, .mv (.t 3)⟩,
    ⟨(some 39), none, .mv (.t 4)⟩,
    ⟨(some 40), none, .bd [.nilFunc, .nilFunc, .nilFunc, .nilFunc, (.int .i64 0), (.pointer none), (.pointer none), (.int .i64 0), (.int .i64 0), (.int .i64 0), (.int .i64 0), (.int .i64 0), (.bool false), (.bool false), (.int .i64 0), (.int .i64 0), (.int .u64 0), (.int .i64 0), (.int .i64 0), (.int .i64 0), (.int .i64 0), (.pointer none), (.pointer none), (.int .i64 0), (.int .i64 0), (.int .i64 0), (.int .i64 0), (.int .i64 0), (.int .i64 0)] [(5, 1, (.t 35)), (6, 1, (.t 36)), (7, 1, (.t 37)), (8, 1, (.t 38)), (9, 1, (.t 39)), (10, 1, (.c (.int .i64 (-1))))]⟩,
    ⟨(some 41), none, .bx 152 (.t 40)⟩,
    ⟨(some 12), none, .mv (.t 41)⟩])
  (.sq (.rg [⟨(some 42), none, .mv (.t 12)⟩,
    ⟨(some 43), none, .nc (.t 42)⟩,
    ⟨(some 44), none, .fa (.t 43) 0⟩,
    ⟨(some 45), none, .mv (.t 12)⟩,
    ⟨(some 46), none, .mf (.func 80) [(.t 45)] []⟩,
    ⟨(some 47), none, .ca 79 [(.t 44), (.t 46)]⟩])
  (.sq (.rg [⟨(some 48), none, .mv (.t 12)⟩,
    ⟨(some 10), none, .mv (.t 48)⟩,
    ⟨(some 11), none, .mv (.c (.int .i64 0))⟩])
  .rt))))))⟩
theorem k19 : cF Tryz.prog Tryz.f19 = some c19 := by kernel_rfl
/-- (*rundale/rundalelaw14.all).alone -/
def c20 : Fu := ⟨52, [.t 10, .t 11],
  (.sq (.rg [⟨(some 10), none, .mv (.c (.pointer none))⟩,
    ⟨(some 11), none, .mv (.c (.int .i64 0))⟩])
  (.sq (.rd [⟨0, 0, [0], ⟨(some 17), none, .mv (.t 0)⟩⟩,
    ⟨1, 1, [17], ⟨(some 18), none, .nc (.t 17)⟩⟩,
    ⟨2, 3, [18], ⟨(some 19), none, .fa (.t 18) 8⟩⟩,
    ⟨3, 7, [19], ⟨(some 20), none, .ld (.t 19) 1 false⟩⟩,
    ⟨4, 0, [0], ⟨(some 21), none, .mv (.t 0)⟩⟩,
    ⟨5, 16, [21], ⟨(some 22), none, .nc (.t 21)⟩⟩,
    ⟨6, 48, [22], ⟨(some 23), none, .fa (.t 22) 10⟩⟩,
    ⟨7, 112, [23], ⟨(some 24), none, .ld (.t 23) 1 false⟩⟩,
    ⟨8, 0, [1], ⟨(some 25), none, .mv (.t 1)⟩⟩,
    ⟨9, 496, [24, 25], ⟨(some 26), none, .ia (.t 24) (.t 25) 1⟩⟩,
    ⟨10, 1008, [26], ⟨(some 27), none, .ld (.t 26) 1 false⟩⟩,
    ⟨11, 0, [2], ⟨(some 28), none, .mv (.t 2)⟩⟩,
    ⟨12, 0, [3], ⟨(some 29), none, .mv (.t 3)⟩⟩,
    ⟨13, 0, [4], ⟨(some 30), none, .mv (.t 4)⟩⟩,
    ⟨14, 16383, [20, 27, 28, 29, 30], ⟨(some 31), none, .ca 19 [(.t 20), (.t 27), (.t 28), (.t 29), (.t 30)]⟩⟩,
    ⟨15, 32767, [31], ⟨(some 16), none, .mv (.t 31)⟩⟩,
    ⟨16, 65535, [16], ⟨(some 32), none, .ex (.t 16) 0⟩⟩,
    ⟨17, 65535, [16], ⟨(some 33), none, .ex (.t 16) 1⟩⟩,
    ⟨18, 131071, [32], ⟨(some 12), none, .mv (.t 32)⟩⟩,
    ⟨19, 524287, [33], ⟨(some 13), none, .mv (.t 33)⟩⟩])
  (.sq (.sq (.rg [⟨(some 34), none, .mv (.t 12)⟩,
    ⟨(some 35), none, .en 0 false (.t 34) (.c (.pointer none))⟩,
    ⟨(some 36), none, .mv (.t 35)⟩,
    ⟨(some 37), (some (36, false)), .mv (.t 13)⟩,
    ⟨(some 38), (some (36, false)), .ib .neq (.t 37) (.c (.int .i64 0))⟩,
    ⟨(some 39), none, .pk (.t 36) (.c (.bool true)) (.t 38)⟩])
  (.cd (.t 39)
  (.sq (.rg [⟨(some 10), none, .mv (.c (.pointer none))⟩,
    ⟨(some 11), none, .mv (.c (.int .i64 (-1)))⟩])
  .rt)
  .sk))
  (.sq (.rg [⟨(some 14), none, .mv (.c (.int .i64 0))⟩])
  (.sq (.sq (.rg [⟨(some 15), none, .mv (.c (.int .i64 0))⟩])
  (.bl 0
  (.lp
  (.sq (.sq (.rg [⟨(some 40), none, .mv (.t 15)⟩,
    ⟨(some 41), none, .ib .lss (.t 40) (.c (.int .i64 4000))⟩,
    ⟨(some 42), none, .mv (.t 41)⟩,
    ⟨(some 43), (some (42, true)), .mv (.t 12)⟩,
    ⟨(some 44), (some (42, true)), .ca 26 [(.t 43)]⟩,
    ⟨(some 45), none, .pk (.t 42) (.t 44) (.c (.bool false))⟩])
  (.cd (.t 45)
  .sk
  (.ex 0)))
  (.sq (.bl 1
  (.rg [⟨(some 48), none, .mv (.t 14)⟩,
    ⟨(some 49), none, .ib .add (.t 48) (.c (.int .i64 1))⟩,
    ⟨(some 14), none, .mv (.t 49)⟩]))
  (.rg [⟨(some 46), none, .mv (.t 15)⟩,
    ⟨(some 47), none, .ib .add (.t 46) (.c (.int .i64 1))⟩,
    ⟨(some 15), none, .mv (.t 47)⟩]))))))
  (.sq (.rg [⟨(some 50), none, .mv (.t 12)⟩,
    ⟨(some 51), none, .mv (.t 14)⟩,
    ⟨(some 10), none, .mv (.t 50)⟩,
    ⟨(some 11), none, .mv (.t 51)⟩])
  .rt))))))⟩
theorem k20 : cF Tryz.prog Tryz.f20 = some c20 := by kernel_rfl
/-- (*rundale/grant.Alloc).Code -/
def c21 : Fu := ⟨10, [.t 2],
  (.sq (.rg [⟨(some 2), none, .mv (.c (.int .i64 0))⟩])
  (.sq (.sq (.rg [⟨(some 3), none, .mv (.t 0)⟩,
    ⟨(some 4), none, .ca 27 [(.t 3)]⟩,
    ⟨(some 5), none, .nt (.t 4)⟩])
  (.cd (.t 5)
  (.sq (.rg [⟨(some 2), none, .mv (.c (.int .i64 0))⟩])
  .rt)
  .sk))
  (.sq (.rg [⟨(some 6), none, .mv (.t 0)⟩,
    ⟨(some 7), none, .nc (.t 6)⟩,
    ⟨(some 8), none, .fa (.t 7) 23⟩,
    ⟨(some 9), none, .ld (.t 8) 1 false⟩,
    ⟨(some 2), none, .mv (.t 9)⟩])
  .rt)))⟩
theorem k21 : cF Tryz.prog Tryz.f21 = some c21 := by kernel_rfl
/-- (*rundale/grant.Alloc).Point -/
def c22 : Fu := ⟨7, [.t 2],
  (.sq (.rg [⟨(some 2), none, .mv (.c (.int .i64 0))⟩])
  (.sq (.rg [⟨(some 3), none, .mv (.t 0)⟩,
    ⟨(some 4), none, .nc (.t 3)⟩,
    ⟨(some 5), none, .fa (.t 4) 15⟩,
    ⟨(some 6), none, .ld (.t 5) 1 false⟩,
    ⟨(some 2), none, .mv (.t 6)⟩])
  .rt))⟩
theorem k22 : cF Tryz.prog Tryz.f22 = some c22 := by kernel_rfl
/-- (*rundale/cells.Cells).Lay -/
def c23 : Fu := ⟨18, [.t 6],
  (.sq (.rg [⟨(some 6), none, .mv (.c (.int .i64 0))⟩])
  (.sq (.sq (.rg [⟨(some 7), none, .mv (.t 0)⟩,
    ⟨(some 8), none, .mv (.t 1)⟩,
    ⟨(some 9), none, .ca 81 [(.t 7), (.t 8)]⟩,
    ⟨(some 10), none, .nt (.t 9)⟩])
  (.cd (.t 10)
  (.sq (.rg [⟨(some 6), none, .mv (.c (.int .i64 1))⟩])
  .rt)
  .sk))
  (.sq (.rg [⟨(some 11), none, .mv (.t 0)⟩,
    ⟨(some 12), none, .nc (.t 11)⟩,
    ⟨(some 13), none, .fa (.t 12) 0⟩,
    ⟨(some 14), none, .ld (.t 13) 1 false⟩,
    ⟨(some 15), none, .mv (.t 1)⟩,
    ⟨(some 16), none, .mv (.t 2)⟩,
    ⟨(some 17), none, .ia (.t 14) (.t 15) 1⟩,
    ⟨none, none, .st (.t 17) (.t 16) 1⟩])
  (.sq (.rg [⟨(some 6), none, .mv (.c (.int .i64 0))⟩])
  .rt))))⟩
theorem k23 : cF Tryz.prog Tryz.f23 = some c23 := by kernel_rfl
/-- rundale/lay.Word -/
def c24 : Fu := ⟨34, [.t 6],
  (.sq (.rg [⟨(some 3), none, .bx 24 (.t 0)⟩,
    ⟨(some 6), none, .mv (.c (.int .i64 0))⟩])
  (.sq (.sq (.rg [⟨(some 7), none, .mv (.t 1)⟩,
    ⟨(some 8), none, .fa (.t 3) 1⟩,
    ⟨(some 9), none, .ld (.t 8) 1 false⟩,
    ⟨(some 10), none, .ib .sub (.t 9) (.c (.int .i64 1))⟩,
    ⟨(some 11), none, .ca 82 [(.t 7), (.c (.int .i64 0)), (.t 10)]⟩,
    ⟨(some 12), none, .nt (.t 11)⟩,
    ⟨(some 13), none, .mv (.t 12)⟩,
    ⟨(some 14), (some (13, false)), .mv (.t 2)⟩,
    ⟨(some 15), (some (13, false)), .fa (.t 3) 2⟩,
    ⟨(some 16), (some (13, false)), .ld (.t 15) 1 false⟩,
    ⟨(some 17), (some (13, false)), .ib .sub (.t 16) (.c (.int .i64 1))⟩,
    ⟨(some 18), (some (13, false)), .ca 82 [(.t 14), (.c (.int .i64 0)), (.t 17)]⟩,
    ⟨(some 19), (some (13, false)), .nt (.t 18)⟩,
    ⟨(some 20), none, .pk (.t 13) (.c (.bool true)) (.t 19)⟩,
    ⟨(some 21), none, .mv (.t 20)⟩,
    ⟨(some 22), (some (21, false)), .ld (.t 3) 6 true⟩,
    ⟨(some 23), (some (21, false)), .ca 77 [(.t 22)]⟩,
    ⟨(some 24), (some (21, false)), .nt (.t 23)⟩,
    ⟨(some 25), none, .pk (.t 21) (.c (.bool true)) (.t 24)⟩])
  (.cd (.t 25)
  (.sq (.rg [⟨(some 6), none, .mv (.c (.int .i64 (-1)))⟩])
  .rt)
  .sk))
  (.sq (.rg [⟨(some 26), none, .ld (.t 3) 6 true⟩,
    ⟨(some 27), none, .mv (.t 1)⟩,
    ⟨(some 28), none, .fa (.t 3) 2⟩,
    ⟨(some 29), none, .ld (.t 28) 1 false⟩,
    ⟨(some 30), none, .ib .mul (.t 27) (.t 29)⟩,
    ⟨(some 31), none, .mv (.t 2)⟩,
    ⟨(some 32), none, .ib .add (.t 30) (.t 31)⟩,
    ⟨(some 33), none, .ca 83 [(.t 26), (.c (.int .i64 7)), (.t 32)]⟩,
    ⟨(some 6), none, .mv (.t 33)⟩])
  .rt)))⟩
theorem k24 : cF Tryz.prog Tryz.f24 = some c24 := by kernel_rfl
/-- (*rundale/rundalelaw14.all).region -/
def c25 : Fu := ⟨77, [.t 4, .t 5, .t 6],
  (.sq (.rg [⟨(some 4), none, .mv (.c (.int .i64 0))⟩,
    ⟨(some 5), none, .mv (.c (.int .i64 0))⟩,
    ⟨(some 6), none, .mv (.c (.bool false))⟩])
  (.sq (.rd [⟨0, 0, [0], ⟨(some 12), none, .mv (.t 0)⟩⟩,
    ⟨1, 1, [12], ⟨(some 13), none, .nc (.t 12)⟩⟩,
    ⟨2, 3, [13], ⟨(some 14), none, .fa (.t 13) 7⟩⟩,
    ⟨3, 7, [14], ⟨(some 15), none, .ld (.t 14) 1 false⟩⟩,
    ⟨4, 0, [1], ⟨(some 16), none, .mv (.t 1)⟩⟩,
    ⟨5, 31, [15, 16], ⟨(some 17), none, .ca 84 [(.t 15), (.t 16)]⟩⟩,
    ⟨6, 0, [0], ⟨(some 18), none, .mv (.t 0)⟩⟩,
    ⟨7, 64, [18], ⟨(some 19), none, .nc (.t 18)⟩⟩,
    ⟨8, 192, [19], ⟨(some 20), none, .fa (.t 19) 11⟩⟩,
    ⟨9, 448, [20], ⟨(some 21), none, .ld (.t 20) 1 false⟩⟩,
    ⟨10, 0, [1], ⟨(some 22), none, .mv (.t 1)⟩⟩,
    ⟨11, 2047, [21, 22], ⟨(some 23), none, .ca 85 [(.t 21), (.t 22)]⟩⟩,
    ⟨12, 4095, [17], ⟨(some 7), none, .mv (.t 17)⟩⟩,
    ⟨13, 8191, [23], ⟨(some 8), none, .mv (.t 23)⟩⟩])
  (.sq (.sq (.rg [⟨(some 24), none, .mv (.t 7)⟩,
    ⟨(some 25), none, .en 0 false (.t 24) (.c (.pointer none))⟩])
  (.cd (.t 25)
  (.sq (.rg [⟨(some 4), none, .mv (.c (.int .i64 0))⟩,
    ⟨(some 5), none, .mv (.c (.int .i64 0))⟩,
    ⟨(some 6), none, .mv (.c (.bool false))⟩])
  .rt)
  .sk))
  (.sq (.sq (.rg [⟨(some 9), none, .mv (.c (.int .i64 0))⟩])
  (.bl 0
  (.lp
  (.sq (.sq (.rg [⟨(some 26), none, .mv (.t 9)⟩,
    ⟨(some 27), none, .ib .lss (.t 26) (.c (.int .i64 10))⟩])
  (.cd (.t 27)
  .sk
  (.ex 0)))
  (.sq (.bl 1
  (.sq (.rg [⟨(some 30), none, .mv (.t 7)⟩,
    ⟨(some 31), none, .ca 86 [(.t 30)]⟩])
  (.rg [⟨(some 32), none, .mv (.t 8)⟩,
    ⟨(some 33), none, .ca 87 [(.t 32)]⟩])))
  (.rg [⟨(some 28), none, .mv (.t 9)⟩,
    ⟨(some 29), none, .ib .add (.t 28) (.c (.int .i64 1))⟩,
    ⟨(some 9), none, .mv (.t 29)⟩]))))))
  (.sq (.rg [⟨(some 35), none, .mv (.t 7)⟩,
    ⟨(some 36), none, .ca 88 [(.t 35)]⟩,
    ⟨(some 34), none, .mv (.t 36)⟩,
    ⟨(some 37), none, .ex (.t 34) 0⟩,
    ⟨(some 38), none, .ex (.t 34) 1⟩,
    ⟨(some 10), none, .mv (.t 37)⟩,
    ⟨(some 11), none, .mv (.t 38)⟩])
  (.sq (.rd [⟨0, 0, [10], ⟨(some 39), none, .mv (.t 10)⟩⟩,
    ⟨1, 0, [11], ⟨(some 40), none, .mv (.t 11)⟩⟩,
    ⟨2, 0, [7], ⟨(some 41), none, .mv (.t 7)⟩⟩,
    ⟨3, 4, [41], ⟨(some 42), none, .ca 89 [(.t 41)]⟩⟩,
    ⟨4, 12, [42], ⟨(some 43), none, .mv (.t 42)⟩⟩,
    ⟨5, 28, [8, 43], ⟨(some 44), (some (43, true)), .mv (.t 8)⟩⟩,
    ⟨6, 60, [44, 43], ⟨(some 45), (some (43, true)), .nc (.t 44)⟩⟩,
    ⟨7, 124, [45, 43], ⟨(some 46), (some (43, true)), .fa (.t 45) 13⟩⟩,
    ⟨8, 252, [46, 43], ⟨(some 47), (some (43, true)), .ld (.t 46) 1 false⟩⟩,
    ⟨9, 508, [43, 47], ⟨(some 48), none, .pk (.t 43) (.t 47) (.c (.bool false))⟩⟩,
    ⟨10, 1020, [48], ⟨(some 49), none, .mv (.t 48)⟩⟩,
    ⟨11, 2044, [7, 49], ⟨(some 50), (some (49, true)), .mv (.t 7)⟩⟩,
    ⟨12, 4092, [50, 49], ⟨(some 51), (some (49, true)), .ca 90 [(.t 50)]⟩⟩,
    ⟨13, 8188, [51, 49], ⟨(some 52), (some (49, true)), .ib .eql (.t 51) (.c (.int .i64 0))⟩⟩,
    ⟨14, 16380, [49, 52], ⟨(some 53), none, .pk (.t 49) (.t 52) (.c (.bool false))⟩⟩,
    ⟨15, 32764, [53], ⟨(some 54), none, .mv (.t 53)⟩⟩,
    ⟨16, 65532, [8, 54], ⟨(some 55), (some (54, true)), .mv (.t 8)⟩⟩,
    ⟨17, 131068, [55, 54], ⟨(some 56), (some (54, true)), .nc (.t 55)⟩⟩,
    ⟨18, 262140, [56, 54], ⟨(some 57), (some (54, true)), .fa (.t 56) 12⟩⟩,
    ⟨19, 524284, [57, 54], ⟨(some 58), (some (54, true)), .ld (.t 57) 1 false⟩⟩,
    ⟨20, 1048572, [58, 54], ⟨(some 59), (some (54, true)), .ib .eql (.t 58) (.c (.int .i64 0))⟩⟩,
    ⟨21, 2097148, [54, 59], ⟨(some 60), none, .pk (.t 54) (.t 59) (.c (.bool false))⟩⟩,
    ⟨22, 4194300, [60], ⟨(some 61), none, .mv (.t 60)⟩⟩,
    ⟨23, 8388604, [10, 61], ⟨(some 62), (some (61, true)), .mv (.t 10)⟩⟩,
    ⟨24, 8388604, [8, 61], ⟨(some 63), (some (61, true)), .mv (.t 8)⟩⟩,
    ⟨25, 25165820, [63, 61], ⟨(some 64), (some (61, true)), .nc (.t 63)⟩⟩,
    ⟨26, 58720252, [64, 61], ⟨(some 65), (some (61, true)), .fa (.t 64) 5⟩⟩,
    ⟨27, 125829116, [65, 61], ⟨(some 66), (some (61, true)), .ld (.t 65) 1 false⟩⟩,
    ⟨28, 268435452, [62, 66, 61], ⟨(some 67), (some (61, true)), .ib .eql (.t 62) (.t 66)⟩⟩,
    ⟨29, 536870908, [61, 67], ⟨(some 68), none, .pk (.t 61) (.t 67) (.c (.bool false))⟩⟩,
    ⟨30, 1073741820, [68], ⟨(some 69), none, .mv (.t 68)⟩⟩,
    ⟨31, 2147483644, [11, 69], ⟨(some 70), (some (69, true)), .mv (.t 11)⟩⟩,
    ⟨32, 2147483644, [8, 69], ⟨(some 71), (some (69, true)), .mv (.t 8)⟩⟩,
    ⟨33, 6442450940, [71, 69], ⟨(some 72), (some (69, true)), .nc (.t 71)⟩⟩,
    ⟨34, 15032385532, [72, 69], ⟨(some 73), (some (69, true)), .fa (.t 72) 6⟩⟩,
    ⟨35, 32212254716, [73, 69], ⟨(some 74), (some (69, true)), .ld (.t 73) 1 false⟩⟩,
    ⟨36, 68719476732, [70, 74, 69], ⟨(some 75), (some (69, true)), .ib .eql (.t 70) (.t 74)⟩⟩,
    ⟨37, 137438953468, [69, 75], ⟨(some 76), none, .pk (.t 69) (.t 75) (.c (.bool false))⟩⟩,
    ⟨38, 2147483645, [39], ⟨(some 4), none, .mv (.t 39)⟩⟩,
    ⟨39, 277025390591, [40], ⟨(some 5), none, .mv (.t 40)⟩⟩,
    ⟨40, 1099511627775, [76], ⟨(some 6), none, .mv (.t 76)⟩⟩])
  .rt))))))⟩
theorem k25 : cF Tryz.prog Tryz.f25 = some c25 := by kernel_rfl
/-- (*rundale/grant.Alloc).Step -/
def c26 : Fu := ⟨7, [.t 2],
  (.sq (.rg [⟨(some 2), none, .mv (.c (.bool false))⟩])
  (.sq (.rg [⟨(some 3), none, .mv (.t 0)⟩,
    ⟨(some 4), none, .nc (.t 3)⟩,
    ⟨(some 5), none, .fa (.t 4) 0⟩,
    ⟨(some 6), none, .ca 91 [(.t 5)]⟩,
    ⟨(some 2), none, .mv (.t 6)⟩])
  .rt))⟩
theorem k26 : cF Tryz.prog Tryz.f26 = some c26 := by kernel_rfl
/-- (*rundale/grant.Alloc).Done -/
def c27 : Fu := ⟨7, [.t 2],
  (.sq (.rg [⟨(some 2), none, .mv (.c (.bool false))⟩])
  (.sq (.rg [⟨(some 3), none, .mv (.t 0)⟩,
    ⟨(some 4), none, .nc (.t 3)⟩,
    ⟨(some 5), none, .fa (.t 4) 0⟩,
    ⟨(some 6), none, .ca 92 [(.t 5)]⟩,
    ⟨(some 2), none, .mv (.t 6)⟩])
  .rt))⟩
theorem k27 : cF Tryz.prog Tryz.f27 = some c27 := by kernel_rfl
/-- (*rundale/grant.Alloc).Object -/
def c28 : Fu := ⟨11, [.c 2 5 true],
  (.sq (.rg [⟨(some 2), none, .al 62 [(.int .i64 0), (.int .i64 0), (.int .i64 0), (.int .i64 0), (.int .i64 0)]⟩])
  (.sq (.sq (.rg [⟨(some 3), none, .mv (.t 0)⟩,
    ⟨(some 4), none, .ca 27 [(.t 3)]⟩,
    ⟨(some 5), none, .nt (.t 4)⟩])
  (.cd (.t 5)
  (.sq (.rg [⟨(some 6), none, .bd [(.int .i64 0), (.int .i64 0), (.int .i64 0), (.int .i64 0), (.int .i64 0)] []⟩,
    ⟨none, none, .st (.t 2) (.t 6) 5⟩])
  .rt)
  .sk))
  (.sq (.rg [⟨(some 7), none, .mv (.t 0)⟩,
    ⟨(some 8), none, .nc (.t 7)⟩,
    ⟨(some 9), none, .fa (.t 8) 24⟩,
    ⟨(some 10), none, .ld (.t 9) 5 true⟩,
    ⟨none, none, .st (.t 2) (.t 10) 5⟩])
  .rt)))⟩
theorem k28 : cF Tryz.prog Tryz.f28 = some c28 := by kernel_rfl
/-- (*rundale/cells.Cells).Peek -/
def c29 : Fu := ⟨16, [.t 4],
  (.sq (.rg [⟨(some 4), none, .mv (.c (.int .u64 0))⟩])
  (.sq (.sq (.rg [⟨(some 5), none, .mv (.t 0)⟩,
    ⟨(some 6), none, .mv (.t 1)⟩,
    ⟨(some 7), none, .ca 81 [(.t 5), (.t 6)]⟩,
    ⟨(some 8), none, .nt (.t 7)⟩])
  (.cd (.t 8)
  (.sq (.rg [⟨(some 4), none, .mv (.c (.int .u64 0))⟩])
  .rt)
  .sk))
  (.sq (.rg [⟨(some 9), none, .mv (.t 0)⟩,
    ⟨(some 10), none, .nc (.t 9)⟩,
    ⟨(some 11), none, .fa (.t 10) 0⟩,
    ⟨(some 12), none, .ld (.t 11) 1 false⟩,
    ⟨(some 13), none, .mv (.t 1)⟩,
    ⟨(some 14), none, .ia (.t 12) (.t 13) 1⟩,
    ⟨(some 15), none, .ld (.t 14) 1 false⟩,
    ⟨(some 4), none, .mv (.t 15)⟩])
  .rt)))⟩
theorem k29 : cF Tryz.prog Tryz.f29 = some c29 := by kernel_rfl
/-- (*rundale/supply.Supply).Ready -/
def c67 : Fu := ⟨20, [.t 4],
  (.sq (.rg [⟨(some 4), none, .mv (.c (.int .i64 0))⟩])
  (.sq (.rg [⟨(some 6), none, .mv (.t 0)⟩,
    ⟨(some 7), none, .nc (.t 6)⟩,
    ⟨(some 8), none, .fa (.t 7) 9⟩,
    ⟨(some 9), none, .ld (.t 8) 1 false⟩,
    ⟨(some 10), none, .mv (.t 1)⟩,
    ⟨(some 11), none, .ca 135 [(.t 9), (.t 10)]⟩,
    ⟨(some 5), none, .mv (.t 11)⟩])
  (.sq (.rg [⟨(some 12), none, .mv (.t 0)⟩,
    ⟨(some 13), none, .nc (.t 12)⟩,
    ⟨(some 14), none, .fa (.t 13) 8⟩,
    ⟨(some 15), none, .ld (.t 14) 1 false⟩,
    ⟨(some 16), none, .mv (.t 5)⟩,
    ⟨(some 17), none, .ca 136 [(.t 15), (.t 16)]⟩])
  (.sq (.rg [⟨(some 18), none, .mv (.t 5)⟩,
    ⟨(some 19), none, .len (.t 18)⟩,
    ⟨(some 4), none, .mv (.t 19)⟩])
  .rt))))⟩
theorem k67 : cF Tryz.prog Tryz.f67 = some c67 := by kernel_rfl
/-- (*rundale/rundalemake.Seq).N -/
def c68 : Fu := ⟨36, [.t 4],
  (.sq (.rg [⟨(some 4), none, .mv (.c (.int .i64 0))⟩])
  (.sq (.rg [⟨(some 5), none, .mv (.c (.int .i64 0))⟩])
  (.sq (.sq (.rd [⟨0, 0, [0], ⟨(some 6), none, .mv (.t 0)⟩⟩,
    ⟨1, 1, [6], ⟨(some 7), none, .nc (.t 6)⟩⟩,
    ⟨2, 3, [7], ⟨(some 8), none, .fa (.t 7) 1⟩⟩,
    ⟨3, 7, [8], ⟨(some 9), none, .ld (.t 8) 1 false⟩⟩,
    ⟨4, 0, [0], ⟨(some 10), none, .mv (.t 0)⟩⟩,
    ⟨5, 16, [10], ⟨(some 11), none, .nc (.t 10)⟩⟩,
    ⟨6, 48, [11], ⟨(some 12), none, .fa (.t 11) 0⟩⟩,
    ⟨7, 112, [12], ⟨(some 13), none, .ld (.t 12) 1 false⟩⟩,
    ⟨8, 240, [13], ⟨(some 14), none, .len (.t 13)⟩⟩,
    ⟨9, 511, [9, 14], ⟨(some 15), none, .ib .lss (.t 9) (.t 14)⟩⟩])
  (.cd (.t 15)
  (.rd [⟨0, 0, [0], ⟨(some 16), none, .mv (.t 0)⟩⟩,
    ⟨1, 1, [16], ⟨(some 17), none, .nc (.t 16)⟩⟩,
    ⟨2, 3, [17], ⟨(some 18), none, .fa (.t 17) 0⟩⟩,
    ⟨3, 7, [18], ⟨(some 19), none, .ld (.t 18) 1 false⟩⟩,
    ⟨4, 0, [0], ⟨(some 20), none, .mv (.t 0)⟩⟩,
    ⟨5, 16, [20], ⟨(some 21), none, .nc (.t 20)⟩⟩,
    ⟨6, 48, [21], ⟨(some 22), none, .fa (.t 21) 1⟩⟩,
    ⟨7, 112, [22], ⟨(some 23), none, .ld (.t 22) 1 false⟩⟩,
    ⟨8, 255, [19, 23], ⟨(some 24), none, .ia (.t 19) (.t 23) 1⟩⟩,
    ⟨9, 511, [24], ⟨(some 25), none, .ld (.t 24) 1 false⟩⟩,
    ⟨10, 1023, [25], ⟨(some 5), none, .mv (.t 25)⟩⟩])
  .sk))
  (.sq (.rg [⟨(some 26), none, .mv (.t 0)⟩,
    ⟨(some 27), none, .nc (.t 26)⟩,
    ⟨(some 28), none, .fa (.t 27) 1⟩,
    ⟨(some 29), none, .ld (.t 28) 1 false⟩,
    ⟨(some 30), none, .ib .add (.t 29) (.c (.int .i64 1))⟩,
    ⟨(some 31), none, .nc (.t 26)⟩,
    ⟨(some 32), none, .fa (.t 31) 1⟩,
    ⟨none, none, .st (.t 32) (.t 30) 1⟩])
  (.sq (.rg [⟨(some 33), none, .mv (.t 5)⟩,
    ⟨(some 34), none, .mv (.t 1)⟩,
    ⟨(some 35), none, .ca 16 [(.t 33), (.t 34)]⟩,
    ⟨(some 4), none, .mv (.t 35)⟩])
  .rt)))))⟩
theorem k68 : cF Tryz.prog Tryz.f68 = some c68 := by kernel_rfl
/-- rundale/chain.New -/
def c69 : Fu := ⟨35, [.t 4, .t 5],
  (.sq (.rg [⟨(some 3), none, .bx 24 (.t 1)⟩,
    ⟨(some 4), none, .mv (.c (.pointer none))⟩,
    ⟨(some 5), none, .mv (.c (.int .i64 0))⟩])
  (.sq (.sq (.rd [⟨0, 0, [3], ⟨(some 8), none, .ld (.t 3) 6 true⟩⟩,
    ⟨1, 1, [8], ⟨(some 9), none, .ca 77 [(.t 8)]⟩⟩,
    ⟨2, 3, [9], ⟨(some 10), none, .nt (.t 9)⟩⟩,
    ⟨3, 7, [10], ⟨(some 11), none, .mv (.t 10)⟩⟩,
    ⟨4, 15, [0, 11], ⟨(some 12), (some (11, false)), .mv (.t 0)⟩⟩,
    ⟨5, 31, [12, 11], ⟨(some 13), (some (11, false)), .ca 137 [(.t 12)]⟩⟩,
    ⟨6, 15, [3, 11], ⟨(some 14), (some (11, false)), .ld (.t 3) 6 true⟩⟩,
    ⟨7, 127, [14, 11], ⟨(some 15), (some (11, false)), .ca 17 [(.t 14)]⟩⟩,
    ⟨8, 255, [13, 15, 11], ⟨(some 16), (some (11, false)), .ib .lss (.t 13) (.t 15)⟩⟩,
    ⟨9, 511, [11, 16], ⟨(some 17), none, .pk (.t 11) (.c (.bool true)) (.t 16)⟩⟩])
  (.cd (.t 17)
  (.sq (.rg [⟨(some 4), none, .mv (.c (.pointer none))⟩,
    ⟨(some 5), none, .mv (.c (.int .i64 1))⟩])
  .rt)
  .sk))
  (.sq (.rd [⟨0, 0, [0], ⟨(some 19), none, .mv (.t 0)⟩⟩,
    ⟨1, 0, [3], ⟨(some 20), none, .ld (.t 3) 6 true⟩⟩,
    ⟨2, 2, [20], ⟨(some 21), none, .ca 139 [(.t 20), (.c (.int .i64 0))]⟩⟩,
    ⟨3, 0, [3], ⟨(some 22), none, .fa (.t 3) 1⟩⟩,
    ⟨4, 8, [22], ⟨(some 23), none, .ld (.t 22) 1 false⟩⟩,
    ⟨5, 31, [19, 21, 23], ⟨(some 24), none, .ca 138 [(.t 19), (.c (.int .i64 0)), (.t 21), (.t 23)]⟩⟩,
    ⟨6, 63, [24], ⟨(some 18), none, .mv (.t 24)⟩⟩,
    ⟨7, 127, [18], ⟨(some 25), none, .ex (.t 18) 0⟩⟩,
    ⟨8, 127, [18], ⟨(some 26), none, .ex (.t 18) 1⟩⟩,
    ⟨9, 255, [25], ⟨(some 6), none, .mv (.t 25)⟩⟩,
    ⟨10, 1023, [26], ⟨(some 7), none, .mv (.t 26)⟩⟩])
  (.sq (.sq (.rg [⟨(some 27), none, .mv (.t 7)⟩,
    ⟨(some 28), none, .ib .neq (.t 27) (.c (.int .i64 0))⟩])
  (.cd (.t 28)
  (.sq (.rg [⟨(some 29), none, .mv (.t 7)⟩,
    ⟨(some 4), none, .mv (.c (.pointer none))⟩,
    ⟨(some 5), none, .mv (.t 29)⟩])
  .rt)
  .sk))
  (.sq (.rg [⟨(some 30), none, .mv (.t 0)⟩,
    ⟨(some 31), none, .ld (.t 3) 6 true⟩,
    ⟨(some 32), none, .mv (.t 6)⟩,
    ⟨(some 33), none, .bd [(.pointer none), (.int .i64 0), (.int .i64 0), (.int .i64 0), (.int .i64 0), (.int .i64 0), (.int .i64 0), (.pointer none)] [(0, 1, (.t 30)), (1, 6, (.t 31)), (7, 1, (.t 32))]⟩,
    ⟨(some 34), none, .bx 215 (.t 33)⟩,
    ⟨(some 4), none, .mv (.t 34)⟩,
    ⟨(some 5), none, .mv (.c (.int .i64 0))⟩])
  .rt)))))⟩
theorem k69 : cF Tryz.prog Tryz.f69 = some c69 := by kernel_rfl
end Go.Proofs.YtflalhdofhobmaaGreat
