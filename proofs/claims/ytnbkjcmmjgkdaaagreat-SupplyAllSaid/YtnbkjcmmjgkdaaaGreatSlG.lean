/-
  The rules of slices that grow, are made, are read through; parts that open and close.
-/
import Derived.Test.YtnbkjcmmjgkdaaaGreatSlF
set_option linter.unusedSimpArgs false
set_option linter.unusedVariables false
namespace Go.Proofs.YtnbkjcmmjgkdaaaGreat
open Go

section
variable {P : Program} {N : Nat} {e : En} {K : En → St → Prop} {L M F : St} {l : List G}

/-- A slice value that reads as these cells, n elements of sz cells each. -/
def Rd (L : St) (sz : Nat) (a : Option Addr) (n : Nat) (vs : List Value) : Prop :=
  vs.length = n * sz ∧ (n = 0 ∨ ∃ b o, a = some ⟨b, o, none⟩ ∧ Has L b o vs)
theorem Has.ent {b off : Nat} {vs : List Value} (h : Has M b off vs) (x : Ent L M) : Has L b off vs := fun w0 w s => h w0 w (s.ent x)
theorem Rd.ent {sz n : Nat} {a : Option Addr} {vs : List Value} (h : Rd M sz a n vs) (x : Ent L M) : Rd L sz a n vs := by
  refine ⟨h.1, h.2.imp id ?_⟩
  rintro ⟨b, o, e, hh⟩
  exact ⟨b, o, e, hh.ent x⟩
theorem Rd.nil (L : St) (sz : Nat) (a : Option Addr) : Rd L sz a 0 [] := ⟨by simp, .inl rfl⟩
theorem Has.sub {b off i n : Nat} {vs : List Value} (h : Has L b off vs) : Has L b (off + i) ((vs.drop i).take n) := by
  intro w0 w s j v hj
  rw [List.getElem?_take] at hj
  split at hj
  · rw [List.getElem?_drop] at hj
    have := h w0 w s (i + j) v hj
    rwa [← Nat.add_assoc] at this
  · cases hj
/-- What a row's key is. -/
theorem Row.key {a : Option Addr} {E sz n cap : Nat} {xs : List Value} [t : Take L a (Row E sz n cap xs) F] : ∀ h, holds L h → xs.length = n * sz ∧ n ≤ cap ∧ cap ≤ maxLen ∧ ((a = none ∧ n = 0 ∧ cap = 0) ∨ ∃ g, a = some ⟨g, 0, none⟩) := by
  intro h H
  obtain ⟨g, k, d, e, hp, hl⟩ := t.out h H
  obtain ⟨hx, ⟨h1, h2, h3, _⟩ | ⟨g1, cur, e1, _, h2, h3, _⟩⟩ := hp
  · subst h2; subst h3; exact ⟨hx, Nat.le_refl _, Nat.zero_le _, .inl ⟨h1, rfl, rfl⟩⟩
  · exact ⟨hx, h2, h3, .inr ⟨g1, e1⟩⟩
theorem Sx.rowkey {a : Option Addr} {E sz n cap : Nat} {xs : List Value} [t : Take L a (Row E sz n cap xs) F]
    (x : xs.length = n * sz → n ≤ cap → cap ≤ maxLen → ((a = none ∧ n = 0 ∧ cap = 0) ∨ ∃ g, a = some ⟨g, 0, none⟩) → Sx P N l e K L) : Sx P N l e K L :=
  Sx.pure (Row.key (t := t)) fun h => x h.1 h.2.1 h.2.2.1 h.2.2.2
/-- A row that holds something has a block. -/
theorem Sx.rowsome {a : Option Addr} {E sz n cap : Nat} {xs : List Value} [t : Take L a (Row E sz n cap xs) F] (hn : 0 < n) (x : ∀ g, a = some ⟨g, 0, none⟩ → Sx P N l e K L) : Sx P N l e K L :=
  Sx.rowkey (t := t) fun _ _ _ h => by
    rcases h with h | ⟨g, h⟩
    · exfalso; omega
    · exact x g h
/-- A row reads as it holds. -/
theorem Rd.row {b E sz n cap : Nat} {xs : List Value} [t : Take L (some ⟨b, 0, none⟩) (Row E sz n cap xs) F] (hx : xs.length = n * sz) : Rd L sz (some ⟨b, 0, none⟩) n xs := by
  refine ⟨hx, .inr ⟨b, 0, rfl, ?_⟩⟩
  have h := Has.row (L := L) (b := b) (E := E) (sz := sz) (n := n) (cap := cap) (xs := xs) (off := 0) (m := xs.length)
  rw [List.drop_zero, List.take_length] at h
  exact h
/-- Whatever its key. -/
theorem Sat.rd {w0 w : World} {a : Option Addr} {E sz n cap : Nat} {xs : List Value} [t : Take L a (Row E sz n cap xs) F] (s : Sat w0 w L) : xs.length = n * sz ∧ (n = 0 ∨ ∃ b, a = some ⟨b, 0, none⟩) := by
  obtain ⟨h, H, _⟩ := s.heap
  obtain ⟨hx, _, _, h1 | h1⟩ := Row.key (t := t) h H
  · exact ⟨hx, .inl h1.2.1⟩
  · exact ⟨hx, .inr h1⟩
theorem Rd.any {a : Option Addr} {E sz n cap : Nat} {xs : List Value} [t : Take L a (Row E sz n cap xs) F] (hx : xs.length = n * sz) (hk : n = 0 ∨ ∃ g, a = some ⟨g, 0, none⟩) : Rd L sz a n xs := by
  rcases hk with h | ⟨g, rfl⟩
  · exact ⟨hx, .inl h⟩
  · exact Rd.row hx

/-! Appending. -/
theorem cS_ap {o : Oper} {T E sz by_ : Nat} {z : List Value} {x y : X} (h : cS P o = some (.ap T E sz by_ z x y)) :
    ∃ p q i v, o.op = .call ⟨.builtin .append, #[p, q], #[T, T]⟩ ∧ cX p = x ∧ cX q = y ∧ P.underlying T = some (.slice E) ∧ P.info? E = some i ∧ i.zero = some v ∧ i.size = sz ∧ i.bytes = by_ ∧ v.cells.toList = z ∧ v.cells.size = i.size ∧ 0 < i.size := by
  unfold cS at h
  split at h
  case h_23 =>
    rename_i c ho
    unfold cCall at h
    split at h
    case h_7 =>
      rename_i hb
      split at h
      · rename_i p q t u hx ht
        split at h
        · rename_i htu
          subst htu
          split at h
          · rename_i hu
            split at h
            · rename_i hi
              split at h
              · rename_i hz
                split at h
                · rename_i hc; cases h
                  rw [call_eq c hb hx ht] at ho
                  exact ⟨p, q, _, _, ho, rfl, rfl, hu, hi, hz, rfl, rfl, rfl, hc.1, hc.2⟩
                · cases h
              · cases h
            · cases h
          · cases h
        · cases h
      · cases h
    all_goals ((repeat' split at h) <;> cases h)
  all_goals ((repeat' split at h) <;> cases h)
/-- The world behind a new row. -/
theorem Sat.newRow {w0 w : World} (s : Sat w0 w L) {E sz n cap : Nat} {xs : List Value} {cur : Array Value} (hx : xs.length = n * sz) (hn : n ≤ cap) (hc : cap ≤ maxLen) (hs : cur.size = cap * sz) (ht : cur.toList.take (n * sz) = xs) :
    Sat w0 (w.alloc (.cells cur E)) (pt (some ⟨w.heap.size, 0, none⟩) (Row E sz n cap xs) :: L) := by
  obtain ⟨h, H, hw⟩ := s.heap
  have hno := Sat.lt hw
  refine ⟨s.os, s.tape, s.output, by have := s.size; simp; omega, (Hp.one w.heap.size (.cells cur E (0, 0))).join h,
    ⟨_, h, Hp.one_apart.2 hno, rfl, ⟨hx, .inr ⟨_, cur, rfl, rfl, hn, hc, hs, ht⟩⟩, H⟩, fun i o ei => ?_⟩
  rcases Hp.join_some ei with ej | ej
  · obtain ⟨rfl, rfl⟩ := Hp.one_some ej
    exact heap_alloc_new _ _
  · have := hw _ _ ej
    rw [heap_alloc_old]
    · exact this
    · exact (Array.getElem?_eq_some_iff.1 this).1
theorem Ent.dropTake {a : Option Addr} {R : Option Addr → As} [t : Take L a R F] : Ent L F := (Ent.of t.out).trans Ent.drop
theorem grown_cells {w : World} {E n old : Nat} {i : TypeInfo} {v : Value} {xs : List Value} (hx : xs.length = n * i.size) (hv : v.cells.size = i.size) :
    ∃ cur : Array Value, xs.toArray ++ Builtin.zeroCells v.cells (grownCap w n old E - n) = cur ∧ cur.size = grownCap w n old E * i.size ∧ cur.toList.take (n * i.size) = xs := by
  refine ⟨_, rfl, ?_, ?_⟩
  · have hge := grownCap_ge w n old E
    simp only [Array.size_append, List.size_toArray, size_zeroCells, hv, hx, ← Nat.add_mul]
    congr 1
    omega
  · rw [← hx]
    simp
theorem run_builtin (a : Act) (w : World) (o : Oper) {p q : Operand} {T : TypeId} {v w' } {b : Builtin} (ho : o.op = .call ⟨.builtin b, #[p, q], #[T, T]⟩) (hb : b = .append)
    (h : (Builtin.append_ #[T, T] o.type #[a.eval p, a.eval q]).run P w = .ok v w') : (execOp a.eval o).run P w = .ok (.value v) w' := by
  subst hb
  simp [execOp, ho, resolve, invoke, builtin, h]
theorem Sx.ap {d : Option Nat} {T E sz by_ : Nat} {z : List Value} {x y : X} {ra ya : Option Addr} {n cap m c : Nat} {xs ys : List Value} [t : Take L ra (Row E sz n cap xs) F]
    (hx : x.get e = some (.slice ra n cap)) (hy : y.get e = some (.slice ya m c)) (hr : Rd L sz ya m ys) (h1 : ones ys = true) (hm : n + m ≤ maxLen) (hb : (n + m) * by_ ≤ 140737488355328)
    (k : ∀ ra' cap', n + m ≤ cap' → Sx P N l (e.put d (.slice ra' (n + m) cap')) K (pt ra' (Row E sz (n + m) cap' (xs ++ ys)) :: F)) : Sx P N (⟨d, none, .ap T E sz by_ z x y⟩ :: l) e K L :=
  .step fun o a w0 w hs ok st => by
    obtain ⟨p, q, i, v, ho, rfl, rfl, hu, hi, hz, rfl, rfl, rfl, hv, h0⟩ := cS_ap hs
    have hp := ok.eval hx
    have hq := ok.eval hy
    have st' := st.ent (Ent.of t.out)
    have hmm : n + m ≤ 9223372036854775807 := by simp only [maxLen] at hm; omega
    have hone : ∀ u ∈ ys, u.oneCell' = true := by simpa [ones] using h1
    have hlen : (xs ++ ys).length = (n + m) * i.size := by
      have := (st.rd (t := t)).1
      rw [List.length_append, this, hr.1, Nat.add_mul]
    have stF : Sat w0 w.drew F := (st.ent (Ent.dropTake (t := t))).drew
    -- a new row
    have fresh : ∀ old, ∃ cur : Array Value, (xs ++ ys).toArray ++ Builtin.zeroCells v.cells (grownCap w (n + m) old E - (n + m)) = cur ∧
        Sat w0 (w.drew.alloc (.cells cur E)) (pt (some ⟨w.heap.size, 0, none⟩) (Row E i.size (n + m) (grownCap w (n + m) old E) (xs ++ ys)) :: F) := by
      intro old
      obtain ⟨cur, hc, hs1, hs2⟩ := grown_cells (w := w) (E := E) (old := old) hlen hv
      exact ⟨cur, hc, stF.newRow hlen (grownCap_ge _ _ _ _) (grownCap_le_maxLen _ _ _ _ hm) hs1 hs2⟩
    -- nothing is appended to nothing
    by_cases hm0 : m = 0
    · subst hm0
      have hys : ys = [] := List.eq_nil_of_length_eq_zero (by simpa using hr.1)
      subst hys
      refine ⟨.slice ra n cap, w, pt ra (Row E i.size n cap xs) :: F, .inl ?_, st', ?_⟩
      · refine run_builtin a w o ho rfl ?_
        rw [hp, hq]
        have hcap : n ≤ cap := by
          obtain ⟨h, H, _⟩ := st.heap
          exact (Row.key (t := t) h H).2.1
        have hfc : (Builtin.firstCells i.size 0 (.slice ya 0 c)).run P w = .ok #[] w := by
          cases ya <;> simp [Builtin.firstCells, loadCells, loadCellsFrom]
        cases ra <;> simp [Builtin.append_, run_underlying hu, sizeOf, typeInfo, hi, Builtin.lenOf, hcap, hfc, storeCells]
      · have := k ra cap
        simp only [Nat.add_zero, List.append_nil] at this
        obtain ⟨h, H, _⟩ := st.heap
        exact this (Row.key (t := t) h H).2.1
    · obtain ⟨hxl, hkey⟩ := st.rd (t := t)
      obtain ⟨hyl, h | ⟨yb, yo, rfl, hh⟩⟩ := hr
      · exact absurd h hm0
      have hnews : ∀ j u, ys[j]? = some u → w.cell? ((⟨yb, yo, none⟩ : Addr).add j) = some u := fun j u hj => by rw [partPlace]; exact hh w0 w st j u hj
      obtain ⟨h, H, _⟩ := st.heap
      obtain ⟨_, hnc, hcm, hk⟩ := Row.key (t := t) h H
      rcases hk with ⟨rfl, rfl, rfl⟩ | ⟨g, rfl⟩
      · have hxs : xs = [] := List.eq_nil_of_length_eq_zero (by simpa using hxl)
        subst hxs
        obtain ⟨cur, hc, hs'⟩ := fresh 0
        simp only [Nat.zero_add, List.nil_append] at hc hs' hb hm
        have hrun := run_append_nil (P := P) w T o.type E i v hu hi hz ⟨yb, yo, none⟩ m c ys hyl hnews (by omega) (by simp only [maxLen] at hm; omega) (by omega)
        rw [hc] at hrun
        refine ⟨_, _, _, .inl (run_builtin a w o ho rfl (by rw [hp, hq]; exact hrun)), hs', ?_⟩
        have := k (some ⟨w.heap.size, 0, none⟩) (grownCap w m 0 E)
        simp only [Nat.zero_add, List.nil_append] at this
        exact this (grownCap_ge _ _ _ _)
      · obtain ⟨cur, hbk, _, _, _, hcs, hct⟩ := st.row (b := g) (E := E) (sz := i.size) (n := n) (cap := cap) (xs := xs)
        by_cases hroom : n + m ≤ cap
        · have hfit : n * i.size + ys.length ≤ cur.size := by rw [hyl, hcs, ← Nat.add_mul]; exact Nat.mul_le_mul_right _ hroom
          have hrun := run_append_room (P := P) w T o.type E i hu hi g n cap cur hbk ⟨yb, yo, none⟩ m c ys hyl hnews hone hroom hfit
          refine ⟨_, _, _, .inl (run_builtin a w o ho rfl (by rw [hp, hq]; exact hrun)), ?_, k (some ⟨g, 0, none⟩) cap hroom⟩
          refine Sat.turnRow (t := t) (w' := w.setRow g _) st rfl rfl rfl (size_setRow _ _ _) (setRow_heap w g _ _ E _ hbk) (fun k hk => setRow_other w g k _ hk) hroom hlen ?_ ?_
          · simp only [List.size_toArray, List.length_append, List.length_take, List.length_drop, Array.length_toList]
            omega
          · simp only [List.toList_toArray]
            rw [hct, ← hlen]
            exact List.take_left
        · obtain ⟨cur', hc, hs'⟩ := fresh cap
          have holds' : ∀ j u, xs[j]? = some u → w.cell? ((⟨g, 0, none⟩ : Addr).add j) = some u := by
            intro j u hj
            rw [partPlace]
            rw [← hct, List.getElem?_take] at hj
            split at hj
            · simp [World.cell?, hbk]; simpa using hj
            · cases hj
          have hrun := run_append_grow (P := P) w T o.type E i v hu hi hz ⟨g, 0, none⟩ n cap xs hxl holds' ⟨yb, yo, none⟩ m c ys hyl hnews (by omega) (by omega) (growslice_fits (by omega) hb)
          rw [show xs.toArray ++ ys.toArray ++ Builtin.zeroCells v.cells (grownCap w (n + m) cap E - (n + m)) = cur' from by rw [← hc]; simp] at hrun
          exact ⟨_, _, _, .inl (run_builtin a w o ho rfl (by rw [hp, hq]; exact hrun)), hs', k _ _ (grownCap_ge _ _ _ _)⟩
end
end Go.Proofs.YtnbkjcmmjgkdaaaGreat
