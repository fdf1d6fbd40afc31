/-
  Slices that are made; parts that open and close; whole numbers that stay within their kind.
-/
import Derived.Test.YtnbkjcmmjgkdaaaGreatSlG
set_option linter.unusedSimpArgs false
set_option linter.unusedVariables false
namespace Go.Proofs.YtnbkjcmmjgkdaaaGreat
open Go

section
variable {P : Program} {N : Nat} {e : En} {K : En → St → Prop} {L M F : St} {l : List G}
theorem cS_bs {o : Oper} {E len : Nat} {z : List Value} {ps : List (Nat × Nat × X)} (h : cS P o = some (.bs E len z ps)) :
    ∃ t qs z0 n, o.op = .buildSlice t len qs ∧ P.underlying t = some (.slice E) ∧ zeroT P E = some z0 ∧ szT P E = some n ∧ 0 < n ∧ len * n ≤ 65536 ∧ z0.length = n ∧ partsS (fun i => some (i * n, n)) qs.toList = some ps ∧
      z = (List.range (len * n)).map fun i => z0[i % z0.length]! := by
  unfold cS at h
  split at h
  case h_7 =>
    rename_i t len' qs ho
    split at h
    · rename_i hu
      split at h
      · rename_i z0 n hz hn
        split at h
        · rename_i hc
          split at h
          · rename_i hp; cases h
            exact ⟨t, qs, z0, n, ho, hu, hz, hn, hc.1, hc.2.1, hc.2.2, hp, rfl⟩
          · cases h
        · cases h
      · cases h
    · cases h
  case h_23 => unfold cCall at h; (repeat' split at h) <;> cases h
  all_goals ((repeat' split at h) <;> cases h)
theorem length_fills : ∀ {ps : List (Nat × Nat × X)} {cs ds : List Value}, fills e cs ps = some ds → ds.length = cs.length
  | [], cs, ds, h => by simp only [fills] at h; cases h; rfl
  | (off, sz, x) :: ps, cs, ds, h => by
    simp only [fills] at h
    split at h
    · split at h
      · rename_i vs _
        by_cases hc : (Nat.beq vs.length sz && Nat.ble (off + sz) cs.length) = true
        · rw [hc, cond_true] at h
          simp only [Bool.and_eq_true, Nat.beq_eq, Nat.ble_eq] at hc
          rw [length_fills h, length_lay _ _ _ (by omega)]
        · simp only [hc, cond_false] at h; cases h
      · cases h
    · cases h
theorem zeros_eq (z0 : List Value) (m : Nat) : (Array.range m).map (fun i => z0.toArray[i % z0.toArray.size]!) = ((List.range m).map fun i => z0[i % z0.length]!).toArray := by
  apply Array.ext'
  simp [Array.toList_range]
/-- A slice literal. -/
theorem Sx.bs {d : Option Nat} {E len sz : Nat} {z : List Value} {ps : List (Nat × Nat × X)} {cs : List Value} (hf : fills e z ps = some cs) (hl : z.length = len * sz)
    (k : ∀ g, Sx P N l (e.put d (.slice (some ⟨g, 0, none⟩) len len)) K (pt (some ⟨g, 0, none⟩) (Row E sz len len cs) :: L)) : Sx P N (⟨d, none, .bs E len z ps⟩ :: l) e K L :=
  .step fun o a w0 w hs ok st => by
    obtain ⟨t, qs, z0, n, ho, hu, hz, hn, h0, hlen, hzl, hp, rfl⟩ := cS_bs hs
    obtain ⟨i, u, hi, hzu, rfl⟩ := zeroT_eq hz
    have hlc := length_fills hf
    have hlz : cs.length = len * sz := by rw [hlc]; exact hl
    have hfl := fill_eq ok (place := fun i => some (i * n, n)) hp hf
    have e1 : (qs.map fun p => (p.1, a.eval p.2)).toList = qs.toList.map fun p => (p.1, a.eval p.2) := by simp
    refine ⟨.slice (some ⟨w.heap.size, 0, none⟩) len len, _, _, .inl ?_, st.newRow (E := E) (sz := sz) (n := len) (cap := len) (xs := cs) (cur := cs.toArray) hlz (Nat.le_refl _) ?_ (by simpa using hlz) (by rw [← hlz]; simp), k _⟩
    · have hnot : ¬ (2 ^ 24 < len * n) := by omega
      have hnot' : ¬ (16777216 < len * n) := by omega
      by_cases h : len * n = 0
      · have hr : (List.range (len * n)).map (fun i => u.cells.toList[i % u.cells.toList.length]!) = [] := by simp [h]
        rw [hr] at hfl
        have hfl' : Instr.fill (fun i => some (i * n, n)) #[] (qs.toList.map fun p => (p.1, a.eval p.2)) = some cs.toArray := hfl
        simp only [execOp, ho, Instr.buildSlice, Sem.run_bind, run_underlying hu, Result.andThen_ok, szT_eq hn, Sem.run_ite, gt_iff_lt, if_neg hnot, Sem.run_pure, e1, h, if_true]
        simp [Array.range_zero', hfl', newRow]
      · have hfl' : Instr.fill (fun i => some (i * n, n)) ((Array.range (len * n)).map fun i => u.cells[i % u.cells.size]!) (qs.toList.map fun p => (p.1, a.eval p.2)) = some cs.toArray := by
          have := zeros_eq u.cells.toList (len * n)
          simp only [Array.toArray_toList] at this
          rw [this]
          exact hfl
        simp only [execOp, ho, Instr.buildSlice, Sem.run_bind, run_underlying hu, Result.andThen_ok, szT_eq hn, Sem.run_ite, gt_iff_lt, if_neg hnot, Sem.run_pure, e1, h, if_false, zeroValue_eq hi hzu, hfl']
        simp [newRow]
    · have : len ≤ 65536 := by
        rcases Nat.eq_zero_or_pos len with h | h
        · omega
        · exact Nat.le_trans (Nat.le_mul_of_pos_right len h0) hlen
      simp only [maxLen]; omega

theorem cS_mk {o : Oper} {E sz by_ : Nat} {z : List Value} {x y : X} (h : cS P o = some (.mk E sz by_ z x y)) :
    ∃ t p q i v, o.op = .makeSlice t p q ∧ cX p = x ∧ cX q = y ∧ P.underlying t = some (.slice E) ∧ P.info? E = some i ∧ i.zero = some v ∧ i.size = sz ∧ i.bytes = by_ ∧ v.cells.toList = z ∧ v.cells.size = i.size ∧ 0 < i.size := by
  unfold cS at h
  split at h
  case h_16 =>
    rename_i t p q ho
    split at h
    · rename_i hu
      split at h
      · rename_i hi
        split at h
        · rename_i hz
          split at h
          · rename_i hc; cases h
            exact ⟨t, p, q, _, _, ho, rfl, rfl, hu, hi, hz, rfl, rfl, rfl, hc.1, hc.2⟩
          · cases h
        · cases h
      · cases h
    · cases h
  case h_23 => unfold cCall at h; (repeat' split at h) <;> cases h
  all_goals ((repeat' split at h) <;> cases h)
/-- The cells of a made slice. -/
def made (z : List Value) (m : Nat) : List Value := (List.range m).map fun i => z[i % z.length]!
theorem made_one (v : Value) (m : Nat) : made [v] m = List.replicate m v := by
  apply List.ext_getElem?
  intro i
  simp only [made, List.length_singleton, Nat.mod_one, List.getElem?_map, List.getElem?_replicate]
  by_cases h : i < m <;> simp [h]
theorem length_made (z : List Value) (m : Nat) : (made z m).length = m := by simp [made]
theorem made_take (z : List Value) (m n : Nat) (h : n ≤ m) : (made z m).take n = made z n := by
  simp only [made, ← List.map_take, List.take_range]
  rw [Nat.min_eq_left h]
theorem intX_eq {x : X} {n : Int} {k : IntKind} (h : x.get e = some (.int k n)) : intX e x = some n := by simp [intX, h]
/-- A slice made. -/
theorem Sx.mk {d : Option Nat} {E sz by_ : Nat} {z : List Value} {x y : X} {n c : Int} (hx : intX e x = some n) (hy : intX e y = some c) (h0 : 0 ≤ n) (hc : n ≤ c) (hb : (by_ : Int) * c ≤ 281474976710656) (hm : c ≤ 9223372036854775807)
    (k : ∀ g, Sx P N l (e.put d (.slice (some ⟨g, 0, none⟩) n.toNat c.toNat)) K (pt (some ⟨g, 0, none⟩) (Row E sz n.toNat c.toNat (made z (n.toNat * sz))) :: L)) : Sx P N (⟨d, none, .mk E sz by_ z x y⟩ :: l) e K L :=
  .step fun o a w0 w hs ok st => by
    obtain ⟨t, p, q, i, v, ho, rfl, rfl, hu, hi, hz, rfl, rfl, rfl, hv, hpos⟩ := cS_mk hs
    obtain ⟨k1, hp⟩ := ok.intX hx
    obtain ⟨k2, hq⟩ := ok.intX hy
    have hr := run_make (P := P) w t E i v hu hi hz k1 k2 n c h0 hc hb hm
    have hcells : madeCells v.cells (c.toNat * i.size) = (made v.cells.toList (c.toNat * i.size)).toArray := by
      have := zeros_eq v.cells.toList (c.toNat * i.size)
      simpa [madeCells, made] using this
    rw [hcells] at hr
    refine ⟨.slice (some ⟨w.heap.size, 0, none⟩) n.toNat c.toNat, w.alloc (.cells (made v.cells.toList (c.toNat * i.size)).toArray E), _, .inl (by simp [execOp, ho, hp, hq, hr]), ?_, k _⟩
    refine st.newRow (length_made _ _) (by omega) (by simp only [maxLen]; omega) (by simp [length_made]) ?_
    simp only [List.toList_toArray]
    exact made_take _ _ _ (Nat.mul_le_mul_right _ (by omega))

/-! Parts that open and close. -/
theorem Sx.openp {α : Type _} {f : α → St} {a : Option Addr} {R : Option Addr → As} [t : Take L a R F] (hR : R a = exs f) (x : ∀ y, Sx P N l e K (f y ++ F)) : Sx P N l e K L :=
  Sx.many (f := fun y => f y ++ F) (fun h H => by
    have h1 := t.out h H
    unfold pt at h1
    rw [hR] at h1
    obtain ⟨y, hy⟩ := holds_ex.1 h1
    exact ⟨y, h, fun _ _ x => x, hy⟩) x
theorem Cx.openp {c : C} {K : Kx} {α : Type _} {f : α → St} {a : Option Addr} {R : Option Addr → As} [t : Take L a R F] (hR : R a = exs f) (x : ∀ y, Cx P N c e K (f y ++ F)) : Cx P N c e K L :=
  Cx.many (f := fun y => f y ++ F) (fun h H => by
    have h1 := t.out h H
    unfold pt at h1
    rw [hR] at h1
    obtain ⟨y, hy⟩ := holds_ex.1 h1
    exact ⟨y, h, fun _ _ x => x, hy⟩) x
theorem Ent.close {α : Type _} {f : α → St} {a : Option Addr} {R : Option Addr → As} (hR : R a = exs f) (y : α) : Ent (f y ++ F) (pt a R :: F) :=
  .of fun h H => by
    unfold pt
    rw [hR]
    exact holds_ex.2 ⟨y, H⟩
theorem Sx.liftp {p : Prop} (x : p → Sx P N l e K F) : Sx P N l e K (lift p :: F) :=
  Sx.pure (fun h H => (holds_lift.1 H).1) fun hp => Sx.ent (.of fun h H => (holds_lift.1 H).2) (x hp)
theorem Cx.liftp {c : C} {K : Kx} {p : Prop} (x : p → Cx P N c e K F) : Cx P N c e K (lift p :: F) :=
  Cx.pure (fun h H => (holds_lift.1 H).1) fun hp => Cx.ent (.of fun h H => (holds_lift.1 H).2) (x hp)
theorem Ent.lift {p : Prop} (hp : p) (x : Ent L F) : Ent L (Proofs.YtnbkjcmmjgkdaaaGreat.lift p :: F) := x.trans (.of fun h H => holds_lift.2 ⟨hp, H⟩)
theorem Ent.take1 {a : Option Addr} {R : Option Addr → As} [t : Take L a R F] (x : Ent F M) : Ent L (pt a R :: M) := (Ent.of t.out).trans x.cons
theorem Cx.rowkey {c : C} {K : Kx} {a : Option Addr} {E sz n cap : Nat} {xs : List Value} [t : Take L a (Row E sz n cap xs) F]
    (x : xs.length = n * sz → n ≤ cap → cap ≤ maxLen → ((a = none ∧ n = 0 ∧ cap = 0) ∨ ∃ g, a = some ⟨g, 0, none⟩) → Cx P N c e K L) : Cx P N c e K L :=
  Cx.pure (Row.key (t := t)) fun h => x h.1 h.2.1 h.2.2.1 h.2.2.2
end

/-! Whole numbers that stay within their kind. -/
theorem w64 {n : Int} (h1 : -9223372036854775808 ≤ n) (h2 : n ≤ 9223372036854775807) : IntKind.i64.wrap n = n := by
  unfold IntKind.wrap
  simp only [IntKind.bits, IntKind.signed]
  simp
  omega
theorem wu64 {n : Int} (h1 : 0 ≤ n) (h2 : n ≤ 18446744073709551615) : IntKind.u64.wrap n = n := by
  unfold IntKind.wrap
  simp only [IntKind.bits, IntKind.signed]
  simp
  omega
theorem wu8 {n : Int} (h1 : 0 ≤ n) (h2 : n ≤ 255) : IntKind.u8.wrap n = n := by
  unfold IntKind.wrap
  simp only [IntKind.bits, IntKind.signed]
  simp
  omega
/- The rules' short names. -/
abbrev Zo0 := @Sx.pvs
abbrev Zo1 := @Sx.nil
abbrev Zo2 := @Krg.i
abbrev Zo3 := @Ksq.nm
abbrev Zo4 := @Ksq.rt
abbrev Zo5 := @Ksq.ex
abbrev Zo6 := @Kbl.nm
abbrev Zo7 := @Kbl.rt
abbrev Zo8 := @Kbl.hit
abbrev Zo9 := @Kbl.miss
abbrev Zoa := @Klp.rt
abbrev Zob := @Klp.ex
abbrev Zoc := @Cx.sq
abbrev Zod := @Cx.rg
abbrev Zoe := @Cx.bl
abbrev Zof := @Cx.sk
abbrev Zog := @Cx.rt
abbrev Zoh := @Cx.ex
abbrev Zoi := @Cx.yes
abbrev Zoj := @Cx.no
abbrev Zok := @Sx.on
abbrev Zol := @Sx.off
abbrev Zom := @Sx.ldb
abbrev Zon := @Sx.ldbs
abbrev Zoo := @Sx.stb
abbrev Zop := @Sx.pv
abbrev Zoq := @Sx.pk
abbrev Zp := @Sx.pv
end Go.Proofs.YtnbkjcmmjgkdaaaGreat
