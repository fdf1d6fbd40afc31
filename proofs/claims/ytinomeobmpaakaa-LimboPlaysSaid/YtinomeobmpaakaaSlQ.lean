/-
  What comes in: a slice of an argument, as it stands in the world there was, read out of the statement's own reading.
-/
import Derived.Test.YtinomeobmpaakaaSlR
import Derived.Test.YtinomeobmpaakaaSlJ
import Derived.Deep.Slices
import Derived.Deep.Fields
set_option linter.unusedVariables false
set_option linter.unusedSimpArgs false
namespace Go.Proofs.Ytinomeobmpaakaa
open Go Go.RowKit Go.ChangeShapes Go.WideShapes

/-- A slice that came in: n elements of sz cells each. -/
def In (w : World) (sz : Nat) (v : Value) (n : Nat) (vs : List Value) : Prop :=
  vs.length = n * sz ∧ n ≤ maxLen ∧ ∃ a c, v = .slice a n c ∧ (n = 0 ∨ ∃ b o, a = some ⟨b, o, none⟩ ∧ ∀ j u, vs[j]? = some u → w.cell? ⟨b, o + j, none⟩ = some u)
theorem addr_add (b o i : Nat) : (⟨b, o, none⟩ : Addr).add i = ⟨b, o + i, none⟩ := by
  unfold Addr.add; split <;> simp_all
theorem In.rd {w : World} {sz n : Nat} {v : Value} {vs : List Value} (h : In w sz v n vs) : n ≤ maxLen ∧ ∃ a c, v = .slice a n c ∧ ∀ L : St, Ent L [Old w] → Rd L sz a n vs := by
  obtain ⟨h1, h2, a, c, rfl, h3⟩ := h
  refine ⟨h2, a, c, rfl, fun L hL => ⟨h1, h3.imp id ?_⟩⟩
  rintro ⟨b, o, rfl, hc⟩
  exact ⟨b, o, rfl, Has.old hL hc⟩
theorem flat_get {sz : Nat} (hp : 0 < sz) : ∀ (rows : List (List Value)) (h : ∀ r ∈ rows, r.length = sz) (j : Nat), rows.flatten[j]? = (rows[j / sz]?).bind (·[j % sz]?)
  | [], _, j => by simp
  | r :: l, h, j => by
    have hr : r.length = sz := h r (by simp)
    have ih := flat_get hp l (fun x hx => h x (by simp [hx]))
    by_cases hj : j < sz
    · rw [List.flatten_cons, List.getElem?_append_left (by omega), Nat.div_eq_of_lt hj, Nat.mod_eq_of_lt hj]
      simp
    · rw [List.flatten_cons, List.getElem?_append_right (by omega), hr, ih]
      obtain ⟨q, rfl⟩ : ∃ q, j = q + sz := ⟨j - sz, by omega⟩
      rw [Nat.add_sub_cancel, Nat.add_mod_right, Nat.add_div_right q hp]
      simp
theorem flat_length {sz : Nat} : ∀ (rows : List (List Value)) (h : ∀ r ∈ rows, r.length = sz), rows.flatten.length = rows.length * sz
  | [], _ => by simp
  | r :: l, h => by
    have hr : r.length = sz := h r (by simp)
    have ih := flat_length l (fun x hx => h x (by simp [hx]))
    rw [List.flatten_cons, List.length_append, ih, hr, List.length_cons, Nat.add_mul]; omega
theorem flat_row {sz : Nat} (rows : List (List Value)) (h : ∀ r ∈ rows, r.length = sz) {i : Nat} {r : List Value} (hr : rows[i]? = some r) : (rows.flatten.drop (i * sz)).take sz = r := by
  induction rows generalizing i with
  | nil => simp at hr
  | cons x l ih =>
    have hx : x.length = sz := h x (by simp)
    cases i with
    | zero =>
      simp only [List.getElem?_cons_zero, Option.some.injEq] at hr
      subst hr
      simp [← hx]
    | succ i =>
      simp only [List.getElem?_cons_succ] at hr
      rw [List.flatten_cons, List.drop_append, hx, List.drop_eq_nil_of_le (by rw [hx, Nat.add_mul]; omega), List.nil_append, Nat.add_mul, Nat.one_mul, Nat.add_sub_cancel]
      exact ih (fun y hy => h y (by simp [hy])) hr
section
variable {H : Type} {enc : TypeId × Value → H} {P : Program} {w : World} {base : Nat} {held : Bool}
theorem In.rows {t e : TypeId} {sz fuel : Nat} {v : Value} {x : DataW H × List MemPlace} (ht : P.underlying t = some (.slice e)) (hs : P.cellsOf e = sz) (hp : 0 < sz)
    (h : DataW.trod enc P w base (fun _ => true) held fuel t [v] = some x) :
    ∃ rows : List (List Value), In w sz v rows.length rows.flatten ∧ ∀ r ∈ rows, r.length = sz ∧ ∃ n y, DataW.trod enc P w base (fun _ => true) held n e r = some y := by
  rcases Deep.open_slice ht h with ⟨h0, _⟩ | ⟨a, len, cap, m, n, D, Pl, h0, hb, hl, hm, hmm, rfl, hx⟩
  · simp only [List.cons.injEq, and_true] at h0
    subst h0
    exact ⟨[], ⟨by simp, by simp, none, 0, rfl, .inl rfl⟩, by simp⟩
  · simp only [List.cons.injEq, and_true] at h0
    subst h0
    simp only [if_true] at hmm
    subst hmm
    rw [hs] at hx
    obtain ⟨V, hV⟩ := Deep.choose_lt (α := List Value) (p := fun i cs' => w.cells? base (a.add (i * sz)) sz = some cs' ∧ DataW.trod enc P w base (fun _ => true) held n e cs' = some (D i, Pl i)) hx
    have hlen : ∀ i, i < m → (V i).length = sz := fun i hi => (World.cells?_some (hV i hi).1).2.1
    refine ⟨(List.range len).map V, ⟨?_, ?_, some a, m, by simp, ?_⟩, ?_⟩
    · rw [flat_length _ (by simp only [List.mem_map, List.mem_range]; rintro r ⟨i, hi, rfl⟩; exact hlen i (by omega))]
    · simp; omega
    · rcases Nat.eq_zero_or_pos len with h0 | h0
      · left; simpa using h0
      · right
        obtain ⟨b, o, spot⟩ := a
        have hc0 := (World.cells?_some (hV 0 (by omega)).1).2.2 0 hp
        rw [List.getElem?_eq_getElem (by rw [hlen 0 (by omega)]; exact hp)] at hc0
        have hspot : spot = none := by simpa [Addr.add] using World.cell?_spot hc0
        subst hspot
        refine ⟨b, o, rfl, fun j u hu => ?_⟩
        rw [flat_get hp _ (by simp only [List.mem_map, List.mem_range]; rintro r ⟨i, hi, rfl⟩; exact hlen i (by omega))] at hu
        obtain ⟨r, hr, hj⟩ := Option.bind_eq_some_iff.1 hu
        rw [List.getElem?_map] at hr
        obtain ⟨i, hi, rfl⟩ := Option.map_eq_some_iff.1 hr
        have hi' : j / sz < len := by have := (List.getElem?_eq_some_iff.1 hi).1; simpa using this
        have hij : i = j / sz := by simpa [hi'] using hi.symm
        subst hij
        have hc := (World.cells?_some (hV (j / sz) (by omega)).1).2.2 (j % sz) (Nat.mod_lt _ hp)
        rw [hj] at hc
        have he : o + j = o + j / sz * sz + j % sz := by have := Nat.div_add_mod j sz; rw [Nat.mul_comm] at this; omega
        rw [he]
        rwa [addr_add, addr_add] at hc
    · simp only [List.mem_map, List.mem_range]
      rintro r ⟨i, hi, rfl⟩
      exact ⟨hlen i (by omega), n, _, (hV i (by omega)).2⟩
/-- One cell each. -/
theorem In.ones {t e : TypeId} {fuel : Nat} {v : Value} {x : DataW H × List MemPlace} (ht : P.underlying t = some (.slice e)) (hs : P.cellsOf e = 1)
    (h : DataW.trod enc P w base (fun _ => true) held fuel t [v] = some x) :
    ∃ us : List Value, In w 1 v us.length us ∧ ∀ u ∈ us, ∃ n y, DataW.trod enc P w base (fun _ => true) held n e [u] = some y := by
  obtain ⟨rows, h1, h2⟩ := In.rows ht hs (by omega) h
  have key : ∀ rows : List (List Value), (∀ r ∈ rows, r.length = 1 ∧ ∃ n y, DataW.trod enc P w base (fun _ => true) held n e r = some y) → ∀ u ∈ rows.flatten, ∃ n y, DataW.trod enc P w base (fun _ => true) held n e [u] = some y := by
    intro rows h2 u hu
    obtain ⟨r, hr, hur⟩ := List.mem_flatten.1 hu
    obtain ⟨hl, n, y, hy⟩ := h2 r hr
    match r, hl with
    | [z], _ =>
      simp only [List.mem_singleton] at hur
      subst hur
      exact ⟨n, y, hy⟩
  refine ⟨rows.flatten, ?_, key rows h2⟩
  rw [flat_length rows (fun r hr => (h2 r hr).1), Nat.mul_one]
  exact h1
/-- Integers. -/
theorem In.ints {t e : TypeId} {k : IntKind} {fuel : Nat} {v : Value} {x : DataW H × List MemPlace} (ht : P.underlying t = some (.slice e)) (he : P.underlying e = some (.int k)) (hs : P.cellsOf e = 1)
    (h : DataW.trod enc P w base (fun _ => true) held fuel t [v] = some x) : ∃ xs : List Int, In w 1 v xs.length (xs.map (Value.int k)) ∧ ∀ x ∈ xs, (Lit.int k x).wf = true := by
  obtain ⟨us, h1, h2⟩ := In.ones ht hs h
  obtain ⟨xs, rfl, hx⟩ : ∃ xs : List Int, us = xs.map (Value.int k) ∧ ∀ x ∈ xs, (Lit.int k x).wf = true := by
    clear h1 h
    induction us with
    | nil => exact ⟨[], rfl, by simp⟩
    | cons u l ih =>
      obtain ⟨xs, rfl, hx⟩ := ih (fun z hz => h2 z (by simp [hz]))
      obtain ⟨n, y, hy⟩ := h2 u (by simp)
      obtain ⟨z, h3, _, h5⟩ := DataW.trod_int he hy
      simp only [List.cons.injEq, and_true] at h3
      subst h3
      refine ⟨z :: xs, rfl, ?_⟩
      simp only [List.mem_cons, forall_eq_or_imp]
      exact ⟨h5, hx⟩
  exact ⟨xs, by simpa using h1, hx⟩
end
end Go.Proofs.Ytinomeobmpaakaa
