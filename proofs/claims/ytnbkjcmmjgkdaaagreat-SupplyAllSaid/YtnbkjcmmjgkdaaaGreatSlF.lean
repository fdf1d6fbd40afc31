/-
  The rules of the operations that touch memory, and of calls.
-/
import Derived.Test.YtnbkjcmmjgkdaaaGreatSlE
set_option linter.unusedSimpArgs false
set_option linter.unusedVariables false
namespace Go.Proofs.YtnbkjcmmjgkdaaaGreat
open Go

section
variable {P : Program} {N : Nat} {e : En} {K : En → St → Prop} {L M F : St} {l : List G}

/-- The cells from a place on hold these. -/
def Has (L : St) (b off : Nat) (vs : List Value) : Prop := ∀ w0 w, Sat w0 w L → ∀ j v, vs[j]? = some v → w.cell? ⟨b, off + j, none⟩ = some v
def ldv (n : Nat) (g : Bool) (vs : List Value) : Option Value :=
  match g, vs with
  | true, vs => bif Nat.beq vs.length n then some (.agg vs.toArray) else none
  | false, [v] => some v
  | _, _ => none
theorem cS_ld {o : Oper} {x : X} {n : Nat} {g : Bool} (h : cS P o = some (.ld x n g)) : ∃ t y, o.op = .load t y ∧ cX y = x ∧ isAggT P t = some g ∧ szT P t = some n := by
  unfold cS at h
  split at h
  case h_8 => rename_i t y ho; split at h <;> cases h; exact ⟨t, y, ho, rfl, by assumption, by assumption⟩
  case h_23 => unfold cCall at h; (repeat' split at h) <;> cases h
  all_goals ((repeat' split at h) <;> cases h)
theorem ld_run {a : Act} {w : World} {o : Oper} {t : TypeId} {y : Operand} {n : Nat} {g : Bool} {b off : Nat} {vs : List Value} {v : Value} (ho : o.op = .load t y) (hg : isAggT P t = some g) (hs : szT P t = some n)
    (hx : a.eval y = .pointer (some ⟨b, off, none⟩)) (hc : ∀ j v, vs[j]? = some v → w.cell? ⟨b, off + j, none⟩ = some v) (hv : ldv n g vs = some v) : (execOp a.eval o).run P w = .ok (.value v) w := by
  cases g
  · unfold ldv at hv
    split at hv
    · contradiction
    · cases hv
      have h0 := hc 0 v rfl
      simp only [Nat.add_zero] at h0
      simp [execOp, ho, hx, Instr.loadAt, Instr.sureAddr, loadVar, isAggT_eq hg, h0]
    · cases hv
  · simp only [ldv] at hv
    cases hb : Nat.beq vs.length n with
    | false => rw [hb] at hv; cases hv
    | true =>
      rw [hb] at hv; cases hv
      have hn := Nat.eq_of_beq_eq_true hb
      have hl := run_loadCells_list (P := P) w ⟨b, off, none⟩ vs (fun j v hj => by rw [partPlace]; exact hc j v hj)
      rw [hn] at hl
      simp [execOp, ho, hx, Instr.loadAt, Instr.sureAddr, loadVar, isAggT_eq hg, szT_eq hs, hl]
theorem Sx.ld {d : Option Nat} {x : X} {n b off : Nat} {g : Bool} {vs : List Value} {v : Value} (hx : x.get e = some (.pointer (some ⟨b, off, none⟩))) (hh : Has L b off vs) (hv : ldv n g vs = some v) (k : Sx P N l (e.put d v) K L) :
    Sx P N (⟨d, none, .ld x n g⟩ :: l) e K L :=
  .step fun o a w0 w hs ok st => by
    obtain ⟨t, y, ho, rfl, hg, hn⟩ := cS_ld hs
    exact ⟨v, w, L, .inl (ld_run ho hg hn (ok.eval hx) (hh w0 w st) hv), st, k⟩
theorem Has.blk {b : Nat} {T : TypeId} {cs : List Value} {off n : Nat} [t : Take L (some ⟨b, 0, none⟩) (Blk T cs) F] : Has L b off ((cs.drop off).take n) := by
  intro w0 w s j v hj
  have hb := s.blk (g := b) (T := T) (cs := cs)
  rw [List.getElem?_take] at hj
  split at hj
  · rw [List.getElem?_drop] at hj
    simp [World.cell?, hb, hj]
  · cases hj
theorem Sat.row {w0 w : World} {b E sz n cap : Nat} {xs : List Value} [t : Take L (some ⟨b, 0, none⟩) (Row E sz n cap xs) F] (s : Sat w0 w L) :
    ∃ cur, w.heap[b]? = some (.cells cur E (0, 0)) ∧ xs.length = n * sz ∧ n ≤ cap ∧ cap ≤ maxLen ∧ cur.size = cap * sz ∧ cur.toList.take (n * sz) = xs := by
  obtain ⟨g', k, d, hp, hl, h1, h2⟩ := (s.ent (Ent.of t.out)).head
  obtain ⟨hx, h | ⟨g1, cur, e1, rfl, r⟩⟩ := hp
  · cases h.1
  · cases e1
    exact ⟨cur, h1 _ _ (Hp.one_same _ _), hx, r⟩
theorem Has.row {b E sz n cap : Nat} {xs : List Value} {off m : Nat} [t : Take L (some ⟨b, 0, none⟩) (Row E sz n cap xs) F] : Has L b off ((xs.drop off).take m) := by
  intro w0 w s j v hj
  obtain ⟨cur, hb, hx, h1, h2, h3, h4⟩ := s.row (b := b)
  rw [List.getElem?_take] at hj
  split at hj
  · rw [List.getElem?_drop, ← h4, List.getElem?_take] at hj
    split at hj
    · simp only [Array.getElem?_toList] at hj
      simp [World.cell?, hb, hj]
    · cases hj
  · cases hj
theorem Has.one {b off : Nat} {v : Value} {vs : List Value} (h : Has L b off vs) (e : vs = [v]) : Has L b off [v] := e ▸ h
theorem take_one {cs : List Value} {off : Nat} {v : Value} (h : cs[off]? = some v) : (cs.drop off).take 1 = [v] := by
  have hlt : off < cs.length := by
    rcases Nat.lt_or_ge off cs.length with h' | h'
    · exact h'
    · rw [List.getElem?_eq_none h'] at h; cases h
  rw [List.getElem?_eq_getElem hlt] at h; cases h
  rw [List.drop_eq_getElem_cons hlt]
  simp only [List.take_succ_cons, List.take_zero]
/-- A cell of a block. -/
theorem Sx.ldb {d : Option Nat} {x : X} {b off : Nat} {T : TypeId} {cs : List Value} {v : Value} [t : Take L (some ⟨b, 0, none⟩) (Blk T cs) F] (hx : x.get e = some (.pointer (some ⟨b, off, none⟩))) (hv : cs[off]? = some v)
    (k : Sx P N l (e.put d v) K L) : Sx P N (⟨d, none, .ld x 1 false⟩ :: l) e K L :=
  .ld hx ((Has.blk (T := T) (cs := cs) (n := 1)).one (take_one hv)) rfl k
/-- Cells of a block. -/
theorem Sx.ldbs {d : Option Nat} {x : X} {b off n : Nat} {T : TypeId} {cs : List Value} [t : Take L (some ⟨b, 0, none⟩) (Blk T cs) F] (hx : x.get e = some (.pointer (some ⟨b, off, none⟩))) (hn : Nat.ble (off + n) cs.length = true)
    (k : Sx P N l (e.put d (.agg ((cs.drop off).take n).toArray)) K L) : Sx P N (⟨d, none, .ld x n true⟩ :: l) e K L := by
  refine .ld hx (Has.blk (T := T) (cs := cs) (n := n)) ?_ k
  have h1 := Nat.le_of_ble_eq_true hn
  have h2 : ((cs.drop off).take n).length = n := by simp; omega
  simp [ldv, h2]
/-- A cell of a row. -/
theorem Sx.ldr {d : Option Nat} {x : X} {b off E sz n cap : Nat} {xs : List Value} {v : Value} [t : Take L (some ⟨b, 0, none⟩) (Row E sz n cap xs) F] (hx : x.get e = some (.pointer (some ⟨b, off, none⟩))) (hv : xs[off]? = some v)
    (k : Sx P N l (e.put d v) K L) : Sx P N (⟨d, none, .ld x 1 false⟩ :: l) e K L :=
  .ld hx ((Has.row (E := E) (sz := sz) (n := n) (cap := cap) (xs := xs) (m := 1)).one (take_one hv)) rfl k
/-- Cells of a row. -/
theorem Sx.ldrs {d : Option Nat} {x : X} {b off E sz n cap m : Nat} {xs vs : List Value} [t : Take L (some ⟨b, 0, none⟩) (Row E sz n cap xs) F] (hx : x.get e = some (.pointer (some ⟨b, off, none⟩))) (hv : (xs.drop off).take m = vs) (hm : vs.length = m)
    (k : Sx P N l (e.put d (.agg vs.toArray)) K L) : Sx P N (⟨d, none, .ld x m true⟩ :: l) e K L := by
  subst hv
  refine .ld hx (Has.row (E := E) (sz := sz) (n := n) (cap := cap) (xs := xs) (m := m)) ?_ k
  simp [ldv, hm]

/-! Stores. -/
theorem cS_st {o : Oper} {x v : X} {n : Nat} (h : cS P o = some (.st x v n)) : ∃ t y z, o.op = .store t y z ∧ cX y = x ∧ cX z = v ∧ szT P t = some n := by
  unfold cS at h
  split at h
  case h_9 => rename_i t y z ho; split at h <;> cases h; rename_i h1; exact ⟨t, y, z, ho, rfl, rfl, h1⟩
  case h_23 => unfold cCall at h; (repeat' split at h) <;> cases h
  all_goals ((repeat' split at h) <;> cases h)
def ones (vs : List Value) : Bool := vs.all (·.oneCell')
theorem st_run {a : Act} {w : World} {o : Oper} {t : TypeId} {y z : Operand} {n : Nat} {b off : Nat} {u : Value} {vs : List Value} {cur : Array Value} {T : TypeId} (ho : o.op = .store t y z) (hs : szT P t = some n)
    (hy : a.eval y = .pointer (some ⟨b, off, none⟩)) (hz : a.eval z = u) (hu : cellsOf u = some vs) (hn : vs.length = n) (h1 : ones vs = true) (hb : w.heap[b]? = some (.cells cur T (0, 0))) (hl : off + n ≤ cur.size) :
    (execOp a.eval o).run P w = .ok .skip (w.setRow b (lay cur.toList off vs).toArray) := by
  have hcs : u.cells.toList = vs := cellsOf_eq hu
  have hsz : u.cells.size = n := by rw [← hn, ← hcs]; simp
  have hst := run_storeCells_at P b off T vs 0 cur w hb (by omega) (by simpa [ones] using h1)
  simp only [Nat.add_zero] at hst
  simp [execOp, ho, hy, hz, Instr.storeAt, Instr.sureAddr, storeVar, szT_eq hs, hsz, hcs, hst, lay]
theorem Sx.st {d : Option Nat} {x v : X} {b off n : Nat} {T : TypeId} {cs vs : List Value} {u : Value} [t : Take L (some ⟨b, 0, none⟩) (Blk T cs) F] (hx : x.get e = some (.pointer (some ⟨b, off, none⟩))) (hv : v.get e = some u)
    (hu : cellsOf u = some vs) (hn : vs.length = n) (h1 : ones vs = true) (hl : Nat.ble (off + n) cs.length = true) (k : Sx P N l (e.put d undef) K (pt (some ⟨b, 0, none⟩) (Blk T (lay cs off vs)) :: F)) :
    Sx P N (⟨d, none, .st x v n⟩ :: l) e K L :=
  .step fun o a w0 w hs ok st => by
    obtain ⟨t', y, z, ho, rfl, rfl, hsz⟩ := cS_st hs
    have hb := st.blk (g := b) (T := T) (cs := cs)
    refine ⟨undef, _, _, .inr ⟨st_run ho hsz (ok.eval hx) (ok.eval hv) hu hn h1 hb (by simpa using Nat.le_of_ble_eq_true hl), rfl⟩, ?_, k⟩
    exact Sat.turn (t := t) st _ rfl rfl rfl (size_setRow _ _ _) (setRow_heap w b _ _ T _ hb) (fun k hk => setRow_other w b k _ hk)
/-- A cell of a block is written. -/
theorem Sx.stb {d : Option Nat} {x v : X} {b off : Nat} {T : TypeId} {cs ds : List Value} {u : Value} [t : Take L (some ⟨b, 0, none⟩) (Blk T cs) F] (hx : x.get e = some (.pointer (some ⟨b, off, none⟩))) (hv : v.get e = some u)
    (hu : cellsOf u = some [u]) (h1 : u.oneCell' = true) (hl : Nat.blt off cs.length = true) (hd : cs.set off u = ds) (k : Sx P N l (e.put d undef) K (pt (some ⟨b, 0, none⟩) (Blk T ds) :: F)) :
    Sx P N (⟨d, none, .st x v 1⟩ :: l) e K L := by
  have hl' : off < cs.length := by simpa using hl
  refine Sx.st (T := T) (cs := cs) hx hv hu rfl (by simp [ones, h1]) (Nat.ble_eq_true_of_le hl') ?_
  have : lay cs off [u] = ds := by
    rw [← hd]
    have := lay_cons cs off u [] (by simp; omega)
    rw [← this, lay_nil]
  rw [this]; exact k
/-- What a row's block holds is turned within its part. -/
theorem Sat.turnRow {w0 w w' : World} {b E sz n cap : Nat} {xs ys : List Value} {new : Array Value} [t : Take L (some ⟨b, 0, none⟩) (Row E sz n cap xs) F] (s : Sat w0 w L)
    (ho : w'.os = w.os) (ht : w'.tape = w.tape) (hu : w'.output = w.output) (hz : w'.heap.size = w.heap.size) (hg : w'.heap[b]? = some (.cells new E (0, 0))) (hk : ∀ k, k ≠ b → w'.heap[k]? = w.heap[k]?)
    {m : Nat} (hm : m ≤ cap) (hx : ys.length = m * sz) (hs : new.size = cap * sz) (hy : new.toList.take (m * sz) = ys) : Sat w0 w' (pt (some ⟨b, 0, none⟩) (Row E sz m cap ys) :: F) := by
  obtain ⟨g', k, d, hp, hl, h1, h2⟩ := (s.ent (Ent.of t.out)).head
  obtain ⟨_, h | ⟨g1, cur', e1, rfl, r1, r2, r3, r4⟩⟩ := hp
  · cases h.1
  · cases e1
    have dk := Hp.one_apart.1 d
    refine ⟨ho.trans s.os, ht.trans s.tape, hu.trans s.output, by rw [hz]; exact s.size, (Hp.one b (.cells new E (0, 0))).join k,
      ⟨_, k, Hp.one_apart.2 dk, rfl, ⟨hx, .inr ⟨b, new, rfl, rfl, hm, r2, hs, hy⟩⟩, hl⟩, fun i o ei => ?_⟩
    rcases Hp.join_some ei with ej | ej
    · obtain ⟨rfl, rfl⟩ := Hp.one_some ej
      exact hg
    · have : i ≠ b := fun h => by subst h; rw [dk] at ej; cases ej
      rw [hk i this]
      exact h2 _ _ ej
theorem lay_take {cs : List Value} {off n : Nat} {vs : List Value} (h : off + vs.length ≤ n) (hn : n ≤ cs.length) : (lay cs off vs).take n = lay (cs.take n) off vs := by
  unfold lay
  have hA : (cs.take off ++ vs).length = off + vs.length := by simp; omega
  rw [List.take_append, hA, List.take_of_length_le (by omega), List.take_take, List.drop_take, Nat.min_eq_left (by omega)]
theorem Sx.str {d : Option Nat} {x v : X} {b off n E sz m cap : Nat} {xs vs ys : List Value} {u : Value} [t : Take L (some ⟨b, 0, none⟩) (Row E sz m cap xs) F] (hx : x.get e = some (.pointer (some ⟨b, off, none⟩))) (hv : v.get e = some u)
    (hu : cellsOf u = some vs) (hn : vs.length = n) (h1 : ones vs = true) (hl : off + n ≤ xs.length) (hy : lay xs off vs = ys) (k : Sx P N l (e.put d undef) K (pt (some ⟨b, 0, none⟩) (Row E sz m cap ys) :: F)) :
    Sx P N (⟨d, none, .st x v n⟩ :: l) e K L :=
  .step fun o a w0 w hs ok st => by
    obtain ⟨t', y, z, ho, rfl, rfl, hsz⟩ := cS_st hs
    obtain ⟨cur, hb, hxl, h2, h3, h4, h5⟩ := st.row (b := b) (E := E) (sz := sz) (n := m) (cap := cap) (xs := xs)
    have hcur : off + n ≤ cur.size := by
      have : xs.length ≤ cur.toList.length := by rw [← h5]; simp only [List.length_take]; exact Nat.min_le_right _ _
      simp at this; omega
    have hmsz : m * sz ≤ cap * sz := Nat.mul_le_mul_right _ h2
    refine ⟨undef, _, _, .inr ⟨st_run ho hsz (ok.eval hx) (ok.eval hv) hu hn h1 hb hcur, rfl⟩, ?_, k⟩
    refine Sat.turnRow (t := t) (w' := w.setRow b (lay cur.toList off vs).toArray) (new := (lay cur.toList off vs).toArray) st rfl rfl rfl (size_setRow _ _ _) (setRow_heap w b _ _ E _ hb) (fun k hk => setRow_other w b k _ hk) h2 ?_ ?_ ?_
    · rw [← hy, length_lay _ _ _ (by omega)]; exact hxl
    · simp only [List.size_toArray]; rw [length_lay _ _ _ (by simp; omega)]; simpa using h4
    · simp only [List.toList_toArray]
      rw [lay_take (by omega) (by simp; omega), h5, hy]

/-! New blocks. -/
theorem cS_al {o : Oper} {E : TypeId} {z : List Value} (h : cS P o = some (.al E z)) : o.op = .alloc E ∧ zeroT P E = some z := by
  unfold cS at h
  split at h
  case h_4 => rename_i t ho; split at h <;> cases h; rename_i h1; exact ⟨ho, h1⟩
  case h_23 => unfold cCall at h; (repeat' split at h) <;> cases h
  all_goals ((repeat' split at h) <;> cases h)
theorem cS_bx {o : Oper} {E : TypeId} {x : X} (h : cS P o = some (.bx E x)) : ∃ y, o.op = .box E y ∧ cX y = x := by
  unfold cS at h
  split at h
  case h_5 => rename_i t y ho; cases h; exact ⟨y, ho, rfl⟩
  case h_23 => unfold cCall at h; (repeat' split at h) <;> cases h
  all_goals ((repeat' split at h) <;> cases h)
theorem Sx.al {d : Option Nat} {E : TypeId} {z : List Value} (k : ∀ g, Sx P N l (e.put d (.pointer (some ⟨g, 0, none⟩))) K (pt (some ⟨g, 0, none⟩) (Blk E z) :: L)) : Sx P N (⟨d, none, .al E z⟩ :: l) e K L :=
  .step fun o a w0 w hs ok st => by
    obtain ⟨ho, hz⟩ := cS_al hs
    obtain ⟨i, u, hi, hzu, rfl⟩ := zeroT_eq hz
    refine ⟨_, _, _, .inl ?_, st.alloc E u.cells.toList, k w.heap.size⟩
    simp [execOp, ho, Instr.alloc, zeroValue_eq hi hzu, newVar, newRow]
theorem Sx.bx {d : Option Nat} {E : TypeId} {x : X} {u : Value} {vs : List Value} (hx : x.get e = some u) (hu : cellsOf u = some vs) (k : ∀ g, Sx P N l (e.put d (.pointer (some ⟨g, 0, none⟩))) K (pt (some ⟨g, 0, none⟩) (Blk E vs) :: L)) :
    Sx P N (⟨d, none, .bx E x⟩ :: l) e K L :=
  .step fun o a w0 w hs ok st => by
    obtain ⟨y, ho, rfl⟩ := cS_bx hs
    have hcs : u.cells.toList = vs := cellsOf_eq hu
    refine ⟨_, _, _, .inl ?_, st.alloc E vs, k w.heap.size⟩
    subst hcs
    simp [execOp, ho, ok.eval hx, Instr.box, newVar, newRow]

/-! Calls. -/
theorem cS_ca {o : Oper} {f : FuncId} {xs : List X} (h : cS P o = some (.ca f xs)) : ∃ c, o.op = .call c ∧ c.callee = .value (.func f) ∧ c.args.toList.map cX = xs ∧ callable P f = true := by
  unfold cS at h
  split at h
  case h_23 =>
    rename_i c ho
    unfold cCall at h
    split at h
    case h_1 => rename_i f' hf; split at h <;> cases h; rename_i hc; exact ⟨c, ho, hf, rfl, hc⟩
    all_goals ((repeat' split at h) <;> cases h)
  all_goals ((repeat' split at h) <;> cases h)
theorem cS_cl {o : Oper} {x : X} {xs : List X} (h : cS P o = some (.cl x xs)) : ∃ c t, o.op = .call c ∧ c.callee = .value (.tmp t) ∧ x = .t t ∧ c.args.toList.map cX = xs := by
  unfold cS at h
  split at h
  case h_23 =>
    rename_i c ho
    unfold cCall at h
    split at h
    case h_2 => rename_i t ht; cases h; exact ⟨c, t, ho, ht, rfl, rfl⟩
    all_goals ((repeat' split at h) <;> cases h)
  all_goals ((repeat' split at h) <;> cases h)
theorem callFunc_run {f : FuncId} (h : callable P f = true) (args : Array Value) (w : World) : (callFunc f args).run P w = .ok (.enter f args) w := by
  unfold callable at h
  split at h
  · rename_i fn hf
    simp only [Bool.and_eq_true, Bool.not_eq_true', beq_eq_false_iff_ne] at h
    have h1 : fn.body ≠ none := by cases hb : fn.body <;> simp_all
    have h2 : ¬ fn.name = "runtime.NumGoroutine" := by simpa using h.2
    simp [callFunc, hf, h2, h1]
  · cases h
theorem Sx.ca {d : Option Nat} {f : FuncId} {xs : List X} {vs : List Value} {R : Value → St → Prop} (hx : gets e xs = some vs) (hf : Fx P f vs L R) (k : ∀ v L', R v L' → Sx P N l (e.put d v) K L') : Sx P N (⟨d, none, .ca f xs⟩ :: l) e K L :=
  .enter (f := f) (vs := vs) (fun o a w hs ok => by
    obtain ⟨c, ho, hc, rfl, hcl⟩ := cS_ca hs
    have h1 := ok.evals hx
    have h1' : c.args.map a.eval = vs.toArray := by apply Array.ext'; simpa using h1
    simp [execOp, ho, resolve, hc, Act.eval, Deferred.ofValue, invoke, h1', callFunc_run hcl]) hf k
theorem Sx.cl {d : Option Nat} {x : X} {xs : List X} {f : FuncId} {p q : List Value} {vs : List Value} {R : Value → St → Prop} (hx : x.get e = some (.func (.func f) p.toArray q.toArray)) (hc : callable P f = true) (hv : gets e xs = some vs)
    (hf : Fx P f (p ++ vs ++ q) L R) (k : ∀ v L', R v L' → Sx P N l (e.put d v) K L') : Sx P N (⟨d, none, .cl x xs⟩ :: l) e K L :=
  .enter (f := f) (vs := p ++ vs ++ q) (fun o a w hs ok => by
    obtain ⟨c, t, ho, hct, rfl, rfl⟩ := cS_cl hs
    have h1 := ok.evals hv
    have h1' : c.args.map a.eval = vs.toArray := by apply Array.ext'; simpa using h1
    have h2 : a.eval (.tmp t) = .func (.func f) p.toArray q.toArray := ok.eval (x := .tmp t) hx
    simp [execOp, ho, resolve, hct, h2, Deferred.ofValue, invoke, h1', callFunc_run hc]) hf k
end

/-! Tests whose outcome is known. -/
section
variable {P : Program} {N : Nat} {e : En} {K : Kx} {L : St} {k : En → St → Prop} {l : List G}
theorem Cx.cyes {t : Nat} {b : Bool} {c d : C} (hx : e.get t = some (.bool b)) (hb : b = true) (h : Cx P N c ((t, .bool true) :: e) K L) : Cx P N (.cd (.t t) c d) e K L := .cd hx (fun _ => h) (fun h' => by rw [hb] at h'; cases h')
theorem Cx.cno {t : Nat} {b : Bool} {c d : C} (hx : e.get t = some (.bool b)) (hb : b = false) (h : Cx P N d ((t, .bool false) :: e) K L) : Cx P N (.cd (.t t) c d) e K L := .cd hx (fun h' => by rw [hb] at h'; cases h') (fun _ => h)
theorem Cx.ifp {t : Nat} {p : Prop} {i : Decidable p} {c d : C} (hx : e.get t = some (.bool (@decide p i))) (h1 : p → Cx P N c ((t, .bool true) :: e) K L) (h2 : ¬ p → Cx P N d ((t, .bool false) :: e) K L) : Cx P N (.cd (.t t) c d) e K L :=
  .cd hx (fun h => h1 (of_decide_eq_true h)) (fun h => h2 (of_decide_eq_false h))
theorem Cx.ifn {t : Nat} {p : Prop} {i : Decidable p} {c d : C} (hx : e.get t = some (.bool (!(@decide p i)))) (h1 : ¬ p → Cx P N c ((t, .bool true) :: e) K L) (h2 : p → Cx P N d ((t, .bool false) :: e) K L) : Cx P N (.cd (.t t) c d) e K L :=
  .cd hx (fun h => h1 (by simpa using h)) (fun h => h2 (by simpa using h))
theorem Sx.gyes {d : Option Nat} {s : S} {t : Nat} {b p : Bool} (hx : e.get t = some (.bool p)) (hb : p = b) (h : Sx P N (⟨d, none, s⟩ :: l) ((t, .bool b) :: e) k L) : Sx P N (⟨d, some (t, b), s⟩ :: l) e k L :=
  .guard hx (fun _ => h) (fun h' => by rw [hb] at h'; cases b <;> cases h')
theorem Sx.gno {d : Option Nat} {s : S} {t : Nat} {b p : Bool} (hx : e.get t = some (.bool p)) (hb : p = !b) (h : Sx P N l (En.put ((t, .bool (!b)) :: e) d undef) k L) : Sx P N (⟨d, some (t, b), s⟩ :: l) e k L :=
  .guard hx (fun h' => by rw [hb] at h'; cases b <;> cases h') (fun _ => h)
theorem Sx.ifp {d : Option Nat} {s : S} {t : Nat} {b : Bool} {p : Prop} {i : Decidable p} (hx : e.get t = some (.bool (@decide p i))) (h1 : p → Sx P N (⟨d, some (t, b), s⟩ :: l) ((t, .bool true) :: e) k L) (h2 : ¬ p → Sx P N (⟨d, some (t, b), s⟩ :: l) ((t, .bool false) :: e) k L) :
    Sx P N (⟨d, some (t, b), s⟩ :: l) e k L := by
  by_cases hp : p
  · exact .learn hx (by simp [hp]) (h1 hp)
  · exact .learn hx (by simp [hp]) (h2 hp)
theorem Sx.ifn {d : Option Nat} {s : S} {t : Nat} {b : Bool} {p : Prop} {i : Decidable p} (hx : e.get t = some (.bool (!(@decide p i)))) (h1 : ¬ p → Sx P N (⟨d, some (t, b), s⟩ :: l) ((t, .bool true) :: e) k L) (h2 : p → Sx P N (⟨d, some (t, b), s⟩ :: l) ((t, .bool false) :: e) k L) :
    Sx P N (⟨d, some (t, b), s⟩ :: l) e k L := by
  by_cases hp : p
  · exact .learn hx (by simp [hp]) (h2 hp)
  · exact .learn hx (by simp [hp]) (h1 hp)
theorem Sx.ifb {d : Option Nat} {s : S} {t : Nat} {b p : Bool} (hx : e.get t = some (.bool p)) (h1 : p = true → Sx P N (⟨d, some (t, b), s⟩ :: l) ((t, .bool true) :: e) k L) (h2 : p = false → Sx P N (⟨d, some (t, b), s⟩ :: l) ((t, .bool false) :: e) k L) :
    Sx P N (⟨d, some (t, b), s⟩ :: l) e k L := by
  cases p
  · exact .learn hx rfl (h2 rfl)
  · exact .learn hx rfl (h1 rfl)
end
/-! How the ends are handed on. -/
section
variable {P : Program} {N : Nat} {e : En} {K : Kx} {L : St}
theorem Krg.i (h : K .nm e L) : Krg K e L := h
theorem Ksq.nm {b : C} (h : Cx P N b e K L) : Ksq P N b K .nm e L := h
theorem Ksq.rt {b : C} (h : K .rt e L) : Ksq P N b K .rt e L := h
theorem Ksq.ex {b : C} {i : Nat} (h : K (.ex i) e L) : Ksq P N b K (.ex i) e L := h
theorem Kbl.nm {i : Nat} (h : K .nm e L) : Kbl i K .nm e L := h
theorem Kbl.rt {i : Nat} (h : K .rt e L) : Kbl i K .rt e L := h
theorem Kbl.hit {i j : Nat} (hij : Nat.beq i j = true) (h : K .nm e L) : Kbl j K (.ex i) e L := by simp only [Kbl, hij, cond_true]; exact h
theorem Kbl.miss {i j : Nat} (hij : Nat.beq i j = false) (h : K (.ex i) e L) : Kbl j K (.ex i) e L := by simp only [Kbl, hij, cond_false]; exact h
theorem Klp.nm {α : Type _} {T : α → En} {S : α → St} {μ : α → Nat} {x : α} (y : α) (h1 : sub (T y) e) (h2 : Ent L (S y)) (h3 : μ y < μ x) : Klp K T S μ x .nm e L := ⟨y, h1, h2, h3⟩
theorem Klp.rt {α : Type _} {T : α → En} {S : α → St} {μ : α → Nat} {x : α} (h : K .rt e L) : Klp K T S μ x .rt e L := h
theorem Klp.ex {α : Type _} {T : α → En} {S : α → St} {μ : α → Nat} {x : α} {i : Nat} (h : K (.ex i) e L) : Klp K T S μ x (.ex i) e L := h
theorem Kr.one {R : Value → St → Prop} {t : Nat} {v : Value} {x : Ex} (hx : x = .nm ∨ x = .rt) (hv : e.get t = some v) {L' : St} (hL : Ent L L') (hR : R v L') : Kr P N [.t t] R x e L := ⟨hx, v, L', Rv.one hv, hL, hR⟩
theorem Kr.none {R : Value → St → Prop} {x : Ex} (hx : x = .nm ∨ x = .rt) {L' : St} (hL : Ent L L') (hR : R (.tuple #[]) L') : Kr P N [] R x e L := ⟨hx, _, L', Rv.none, hL, hR⟩
theorem Kr.two {R : Value → St → Prop} {t u : Nat} {v w : Value} {x : Ex} (hx : x = .nm ∨ x = .rt) (hv : e.get t = some v) (hw : e.get u = some w) {L' : St} (hL : Ent L L') (hR : R (.tuple #[v, w]) L') : Kr P N [.t t, .t u] R x e L :=
  ⟨hx, _, L', Rv.more (ts := [t, u]) (vs := [v, w]) (by simp [getAll, hv, hw]) (by simp), hL, hR⟩
theorem Kr.three {R : Value → St → Prop} {t u s : Nat} {v w z : Value} {x : Ex} (hx : x = .nm ∨ x = .rt) (hv : e.get t = some v) (hw : e.get u = some w) (hz : e.get s = some z) {L' : St} (hL : Ent L L') (hR : R (.tuple #[v, w, z]) L') : Kr P N [.t t, .t u, .t s] R x e L :=
  ⟨hx, _, L', Rv.more (ts := [t, u, s]) (vs := [v, w, z]) (by simp [getAll, hv, hw, hz]) (by simp), hL, hR⟩
end
end Go.Proofs.YtnbkjcmmjgkdaaaGreat
