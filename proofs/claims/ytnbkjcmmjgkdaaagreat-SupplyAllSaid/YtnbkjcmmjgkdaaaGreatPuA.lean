/-
  Plain numbers and lists: memories, heads, stacks; what a Push and a Pop do, one access at a time.
-/
set_option linter.unusedVariables false
set_option linter.unusedSimpArgs false
namespace Go.Proofs.YtnbkjcmmjgkdaaaGreat

/-- A memory: what the cells hold, how many accesses there were. -/
structure Mm where
  ws : List Nat
  n : Nat
def Mm.at_ (m : Mm) (i : Nat) : Nat := m.ws.getD i 0
def Mm.tick (m : Mm) : Mm := ⟨m.ws, m.n + 1⟩
def Mm.put (m : Mm) (i v : Nat) : Mm := ⟨m.ws.set i v, m.n + 1⟩
def Mm.lay (m : Mm) (i v : Nat) : Mm := ⟨m.ws.set i v, m.n⟩
def Mm.cas (m : Mm) (i o v : Nat) : Mm := if m.at_ i = o then m.put i v else m.tick
/-- Each word has 64 bits. -/
def Mm.ok (m : Mm) : Prop := ∀ w ∈ m.ws, w < 18446744073709551616
theorem Mm.at_lt {m : Mm} (h : m.ok) (i : Nat) : m.at_ i < 18446744073709551616 := by
  unfold Mm.at_
  rw [List.getD_eq_getElem?_getD]
  cases hg : m.ws[i]? with
  | none => simp
  | some w => exact h w (List.mem_of_getElem? hg)
theorem Mm.get {m : Mm} {i : Nat} (h : i < m.ws.length) : m.ws[i]? = some (m.at_ i) := by
  unfold Mm.at_
  rw [List.getD_eq_getElem?_getD, List.getElem?_eq_getElem h]; rfl
theorem Mm.at_lay {m : Mm} {i v : Nat} (j : Nat) (h : i < m.ws.length) : (m.lay i v).at_ j = if i = j then v else m.at_ j := by
  unfold Mm.at_ Mm.lay
  simp only [List.getD_eq_getElem?_getD, List.getElem?_set]
  split <;> simp_all
theorem Mm.at_put {m : Mm} {i v : Nat} (j : Nat) (h : i < m.ws.length) : (m.put i v).at_ j = if i = j then v else m.at_ j := Mm.at_lay j h
theorem Mm.at_tick {m : Mm} (j : Nat) : m.tick.at_ j = m.at_ j := rfl
theorem Mm.len_put {m : Mm} {i v : Nat} : (m.put i v).ws.length = m.ws.length := by simp [Mm.put]
theorem Mm.len_lay {m : Mm} {i v : Nat} : (m.lay i v).ws.length = m.ws.length := by simp [Mm.lay]
theorem Mm.len_cas {m : Mm} {i o v : Nat} : (m.cas i o v).ws.length = m.ws.length := by unfold Mm.cas; split <;> simp [Mm.put, Mm.tick]
theorem Mm.ok_lay {m : Mm} {i v : Nat} (h : m.ok) (hv : v < 18446744073709551616) : (m.lay i v).ok := by
  intro w hw
  rcases List.mem_or_eq_of_mem_set hw with h1 | rfl
  · exact h w h1
  · exact hv
theorem Mm.ok_put {m : Mm} {i v : Nat} (h : m.ok) (hv : v < 18446744073709551616) : (m.put i v).ok := Mm.ok_lay (m := m) h hv
theorem Mm.ok_tick {m : Mm} (h : m.ok) : m.tick.ok := h
theorem Mm.ok_cas {m : Mm} {i o v : Nat} (h : m.ok) (hv : v < 18446744073709551616) : (m.cas i o v).ok := by
  unfold Mm.cas; split
  · exact Mm.ok_put h hv
  · exact Mm.ok_tick h

/-! Heads: the index and 1 in the lower half, the tag in the upper one. -/
def hdI (w : Nat) : Int := (w % 4294967296 : Nat) - 1
def hdT (w : Nat) : Nat := w / 4294967296
def laterT (t : Nat) : Nat := if t < 4294967295 then t + 1 else 0
/-- A head's word behind an exchange: of an item, or none (-1). -/
def nextW (w : Nat) (i : Int) : Nat := laterT (hdT w) * 4294967296 + (i + 1).toNat
theorem hdT_lt {w : Nat} (h : w < 18446744073709551616) : hdT w < 4294967296 := by unfold hdT; omega
theorem laterT_lt {t : Nat} (h : t < 4294967296) : laterT t < 4294967296 := by unfold laterT; split <;> omega
theorem nextW_lt {w : Nat} {i : Int} (h : w < 18446744073709551616) (hi : i < 4294967295) : nextW w i < 18446744073709551616 := by
  have := laterT_lt (hdT_lt h)
  unfold nextW; omega
theorem hdI_next {w : Nat} {i : Int} (h1 : -1 ≤ i) (h2 : i < 4294967295) : hdI (nextW w i) = i := by unfold hdI nextW; omega
theorem hdT_next {w : Nat} {i : Int} (h1 : -1 ≤ i) (h2 : i < 4294967295) : hdT (nextW w i) = laterT (hdT w) := by
  have h : (i + 1).toNat < 4294967296 := by omega
  show (laterT (hdT w) * 4294967296 + (i + 1).toNat) / 4294967296 = laterT (hdT w)
  omega

/-- A stack's places: its head's cell, its links' first cell, how many items. -/
structure Sk where
  head : Nat
  links : Nat
  n : Nat
/-- Whether a stack may be over so many cells. -/
structure Sk.ok (k : Sk) (len : Nat) : Prop where
  n1 : 1 ≤ k.n
  n2 : k.n ≤ 4096
  h : k.head < len
  l : k.links + k.n ≤ len
  a : k.head < k.links ∨ k.links + k.n ≤ k.head
  z : len ≤ 8388608
/-- A head's item, a link's item; -1: none. -/
def Sk.top (k : Sk) (w : Nat) : Int := if hdI w < k.n then hdI w else -1
def Sk.below (k : Sk) (w : Nat) : Int := if k.n < w then -1 else (w : Int) - 1
theorem Sk.top_ge (k : Sk) (w : Nat) : -1 ≤ k.top w := by unfold Sk.top hdI; split <;> omega
theorem Sk.top_lt (k : Sk) (w : Nat) : k.top w < k.n := by unfold Sk.top; split <;> omega
theorem Sk.below_ge (k : Sk) (w : Nat) : -1 ≤ k.below w := by unfold Sk.below; split <;> omega
theorem Sk.below_lt (k : Sk) (w : Nat) : k.below w < k.n := by unfold Sk.below; split <;> omega

/-- A Pop: at: 0: the Load of the head, 1: of a link, 2: the Cas. -/
structure PopS where
  most : Int
  at_ : Nat
  under : Int
  was : Nat
  got : List Int
  done : Bool
def PopS.init (most : Int) : PopS := ⟨min (max most 1) 8, 0, 0, 0, [], false⟩
/-- The last one of a list. -/
def lastI (l : List Int) : Int := l.getLastD 0
def popStep (k : Sk) (m : Mm) (q : PopS) : PopS × Mm :=
  if q.done then (q, m) else
  match q.at_ with
  | 0 => if 0 ≤ k.top (m.at_ k.head) then ({ q with was := m.at_ k.head, got := [k.top (m.at_ k.head)], at_ := 1 }, m.tick) else ({ q with was := m.at_ k.head, got := [], done := true }, m.tick)
  | 1 => if 0 ≤ k.below (m.at_ (k.links + (lastI q.got).toNat)) ∧ (q.got.length : Int) < q.most then
      ({ q with under := k.below (m.at_ (k.links + (lastI q.got).toNat)), got := q.got ++ [k.below (m.at_ (k.links + (lastI q.got).toNat))] }, m.tick)
      else ({ q with under := k.below (m.at_ (k.links + (lastI q.got).toNat)), at_ := 2 }, m.tick)
  | _ => ({ q with at_ := 0, done := decide (m.at_ k.head = q.was) }, m.cas k.head q.was (nextW q.was q.under))
/-- What may be of a Pop. -/
structure PopS.ok (k : Sk) (q : PopS) : Prop where
  m1 : 1 ≤ q.most
  m2 : q.most ≤ 8
  a : q.at_ ≤ 2
  u1 : -1 ≤ q.under
  u2 : q.under < k.n
  w : q.was < 18446744073709551616
  g : ∀ x ∈ q.got, 0 ≤ x ∧ x < k.n
  ne : q.done = false → q.at_ ≠ 0 → q.got ≠ []
  len : q.got.length ≤ 8
theorem PopS.ok_init {k : Sk} (h : 1 ≤ k.n) (most : Int) : (PopS.init most).ok k := by
  unfold PopS.init
  refine ⟨by dsimp only; omega, by dsimp only; omega, by simp, by simp, by simp; omega, by simp, by simp, by simp, by simp⟩
theorem lastI_mem {l : List Int} (h : l ≠ []) : lastI l ∈ l := by
  unfold lastI
  rw [List.getLastD_eq_getLast?, List.getLast?_eq_some_getLast h]
  exact List.getLast_mem h
theorem popStep_ok {k : Sk} {m : Mm} {q : PopS} {len : Nat} (hk : k.ok len) (hm : m.ok) (h : q.ok k) : (popStep k m q).1.ok k := by
  have t1 := k.top_ge (m.at_ k.head)
  have t2 := k.top_lt (m.at_ k.head)
  have hw := Mm.at_lt hm k.head
  have hn := hk.n1
  unfold popStep
  split
  · exact h
  · rename_i hd
    split
    · split
      · rename_i h0
        exact ⟨h.m1, h.m2, by simp, h.u1, h.u2, hw, fun x hx => by simp only [List.mem_singleton] at hx; omega, by simp, by simp⟩
      · exact ⟨h.m1, h.m2, h.a, h.u1, h.u2, hw, by simp, by simp, by simp⟩
    · rename_i ha
      have b1 := k.below_ge (m.at_ (k.links + (lastI q.got).toNat))
      have b2 := k.below_lt (m.at_ (k.links + (lastI q.got).toNat))
      have hl := h.len
      have hne := h.ne (by simpa using hd) (by omega)
      split
      · rename_i h0
        have := h.m2
        exact ⟨h.m1, h.m2, h.a, b1, b2, h.w, fun x hx => by
          rcases List.mem_append.1 hx with hx | hx
          · exact h.g x hx
          · simp only [List.mem_singleton] at hx; omega, by simp, by simp only [List.length_append, List.length_singleton]; omega⟩
      · exact ⟨h.m1, h.m2, by simp, b1, b2, h.w, h.g, fun _ _ => hne, hl⟩
    · exact ⟨h.m1, h.m2, by simp, h.u1, h.u2, h.w, h.g, by simp, h.len⟩
theorem popStep_mem {k : Sk} {m : Mm} {q : PopS} {len : Nat} (hk : k.ok len) (hm : m.ok) (h : q.ok k) : (popStep k m q).2.ok ∧ (popStep k m q).2.ws.length = m.ws.length := by
  have := h.u2
  have h2 := hk.n2
  unfold popStep
  split
  · exact ⟨hm, rfl⟩
  · split
    · split <;> exact ⟨hm, rfl⟩
    · split <;> exact ⟨hm, rfl⟩
    · exact ⟨Mm.ok_cas hm (nextW_lt h.w (by omega)), Mm.len_cas⟩

/-- A Push: at: below one less than there are: a link; then the Load of the head, the last link, the Cas. -/
structure PushS where
  l : List Int
  at_ : Nat
  was : Nat
  done : Bool
def PushS.init (l : List Int) : PushS := ⟨l, 0, 0, decide (l = [])⟩
def itI (l : List Int) (i : Nat) : Int := l.getD i 0
def pushStep (k : Sk) (m : Mm) (p : PushS) : PushS × Mm :=
  if p.done then (p, m) else
  if p.at_ + 1 < p.l.length then ({ p with at_ := p.at_ + 1 }, m.put (k.links + (itI p.l p.at_).toNat) (itI p.l (p.at_ + 1) + 1).toNat)
  else if p.at_ + 1 = p.l.length then ({ p with at_ := p.at_ + 1, was := m.at_ k.head }, m.tick)
  else if p.at_ = p.l.length then ({ p with at_ := p.at_ + 1 }, m.put (k.links + (itI p.l (p.l.length - 1)).toNat) (k.top p.was + 1).toNat)
  else ({ p with at_ := p.l.length - 1, done := decide (m.at_ k.head = p.was) }, m.cas k.head p.was (nextW p.was (itI p.l 0)))
structure PushS.ok (k : Sk) (p : PushS) : Prop where
  w : p.was < 18446744073709551616
  g : ∀ x ∈ p.l, 0 ≤ x ∧ x < k.n
  ne : p.done = false → p.l ≠ []
  a : p.at_ ≤ p.l.length + 1
theorem PushS.ok_init {k : Sk} {l : List Int} (h : ∀ x ∈ l, 0 ≤ x ∧ x < k.n) : (PushS.init l).ok k :=
  ⟨by simp [PushS.init], h, by simp [PushS.init], by simp [PushS.init]⟩
theorem itI_mem {l : List Int} {i : Nat} (h : i < l.length) : itI l i ∈ l := by
  unfold itI
  rw [List.getD_eq_getElem?_getD, List.getElem?_eq_getElem h]
  exact List.getElem_mem h
theorem pushStep_ok {k : Sk} {m : Mm} {p : PushS} (hm : m.ok) (h : p.ok k) : (pushStep k m p).1.ok k := by
  have ha := h.a
  unfold pushStep
  split
  · exact h
  · rename_i hd
    have hne := h.ne (by simpa using hd)
    have hl := List.length_pos_iff.2 hne
    split
    · exact ⟨h.w, h.g, h.ne, by dsimp only; omega⟩
    · split
      · exact ⟨Mm.at_lt hm _, h.g, h.ne, by dsimp only; omega⟩
      · split
        · exact ⟨h.w, h.g, h.ne, by dsimp only; omega⟩
        · exact ⟨h.w, h.g, fun _ => hne, by dsimp only; omega⟩
theorem pushStep_mem {k : Sk} {m : Mm} {p : PushS} {len : Nat} (hk : k.ok len) (hm : m.ok) (h : p.ok k) : (pushStep k m p).2.ok ∧ (pushStep k m p).2.ws.length = m.ws.length := by
  have h2 := hk.n2
  have ht := k.top_lt p.was
  unfold pushStep
  split
  · exact ⟨hm, rfl⟩
  · rename_i hd
    have hl := List.length_pos_iff.2 (h.ne (by simpa using hd))
    split
    · have := h.g _ (itI_mem (l := p.l) (i := p.at_ + 1) (by omega))
      exact ⟨Mm.ok_put hm (by omega), Mm.len_put⟩
    · split
      · exact ⟨hm, rfl⟩
      · split
        · exact ⟨Mm.ok_put hm (by omega), Mm.len_put⟩
        · have := h.g _ (itI_mem (l := p.l) (i := 0) (by omega))
          exact ⟨Mm.ok_cas hm (nextW_lt h.w (by omega)), Mm.len_cas⟩
end Go.Proofs.YtnbkjcmmjgkdaaaGreat
