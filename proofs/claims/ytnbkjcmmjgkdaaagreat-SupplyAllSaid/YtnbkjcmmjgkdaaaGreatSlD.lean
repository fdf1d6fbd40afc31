/-
  The judgements over the small code: of a list of operations, of code, of a function; and their rules.
-/
import Derived.Test.YtnbkjcmmjgkdaaaGreatSlC
set_option linter.unusedSimpArgs false
set_option linter.unusedVariables false
namespace Go.Proofs.YtnbkjcmmjgkdaaaGreat
open Go

/-- From what is known of the temporaries and the memory on, the operations come to an end of which K holds. -/
def Sx (P : Program) (N : Nat) (l : List G) (e : En) (K : En → St → Prop) (L : St) : Prop :=
  ∀ (ops : Array Oper) (os : List Oper) (Q : Exit → Act → World → Prop) (a : Act) (w0 w : World),
    cL P N ops os = some l → Ok N a e → Sat w0 w L →
    (∀ a' w' e' L', K e' L' → Ok N a' e' → Sat w0 w' L' → Q .normal a' w') → wpList P ops Q os a w

section
variable {P : Program} {N : Nat} {e : En} {K : En → St → Prop} {L M F : St} {l : List G}

theorem cL_nil {ops : Array Oper} {os : List Oper} (h : cL P N ops os = some []) : os = [] := by
  cases os with
  | nil => rfl
  | cons o os =>
    simp only [cL] at h
    split at h
    · split at h <;> cases h
    · cases h
theorem cL_cons {ops : Array Oper} {os : List Oper} {g : G} (h : cL P N ops os = some (g :: l)) : ∃ o os', os = o :: os' ∧ cG P N ops o = some g ∧ cL P N ops os' = some l := by
  cases os with
  | nil => simp [cL] at h
  | cons o os =>
    simp only [cL] at h
    split at h
    · rename_i g' hg
      split at h
      · rename_i l' hl; cases h; exact ⟨o, os, rfl, hg, hl⟩
      · cases h
    · cases h
/-- What a compiled operation is. -/
theorem cG_inv {ops : Array Oper} {o : Oper} {g : G} (h : cG P N ops o = some g) :
    cS P o = some g.s ∧ o.dst = g.d ∧ (∀ i, g.d = some i → i < N) ∧
    ((o.guard = none ∧ g.g = none) ∨ ∃ j want q t, o.guard = some (j, want) ∧ ops[j]? = some q ∧ q.dst = some t ∧ g.g = some (t, want)) := by
  unfold cG at h
  split at h
  · cases h
  · rename_i s hs
    by_cases hd : dstOk N o.dst = true
    · rw [if_pos hd] at h
      have hd' : ∀ i, o.dst = some i → i < N := fun i hi => by rw [hi] at hd; simpa [dstOk] using hd
      split at h
      · rename_i hg; cases h; exact ⟨hs, rfl, hd', .inl ⟨hg, rfl⟩⟩
      · rename_i j want hg
        split at h
        · rename_i q hq
          split at h
          · rename_i t ht; cases h; exact ⟨hs, rfl, hd', .inr ⟨j, want, q, t, hg, hq, ht, rfl⟩⟩
          · cases h
        · cases h
    · rw [if_neg hd] at h; cases h

theorem Sx.nil (h : K e L) : Sx P N [] e K L := by
  intro ops os Q a w0 w hc ok s k
  rw [cL_nil hc]
  exact k a w e L h ok s
theorem Sx.ent (h : Ent L M) (x : Sx P N l e K M) : Sx P N l e K L :=
  fun ops os Q a w0 w hc ok s k => x ops os Q a w0 w hc ok (s.ent h) k
/-- Many forms of one memory. -/
theorem Sx.many {α : Sort _} {f : α → St} (h : ∀ h, holds L h → ∃ x g, Hp.le g h ∧ holds (f x) g) (x : ∀ y, Sx P N l e K (f y)) : Sx P N l e K L := by
  intro ops os Q a w0 w hc ok s k
  obtain ⟨hh, H, hw⟩ := s.heap
  obtain ⟨y, g, hg, G⟩ := h hh H
  exact x y ops os Q a w0 w hc ok ⟨s.os, s.tape, s.output, s.size, g, G, fun i o hi => hw i o (hg i o hi)⟩ k
theorem Sx.pure {p : Prop} (h : ∀ h, holds L h → p) (x : p → Sx P N l e K L) : Sx P N l e K L := by
  intro ops os Q a w0 w hc ok s k
  obtain ⟨hh, H, hw⟩ := s.heap
  exact x (h hh H) ops os Q a w0 w hc ok s k

/-- One operation that runs. -/
theorem Sx.step {d : Option Nat} {s : S} (h : ∀ (o : Oper) (a : Act) (w0 w : World), cS P o = some s → Ok N a e → Sat w0 w L →
      ∃ v w' L', ((execOp a.eval o).run P w = .ok (.value v) w' ∨ ((execOp a.eval o).run P w = .ok .skip w' ∧ v = undef)) ∧ Sat w0 w' L' ∧ Sx P N l (e.put d v) K L') :
    Sx P N (⟨d, none, s⟩ :: l) e K L := by
  intro ops os Q a w0 w hc ok st k
  obtain ⟨o, os', rfl, hg, hc'⟩ := cL_cons hc
  obtain ⟨hs, hd, hN, hgd⟩ := cG_inv hg
  have hgn : o.guard = none := by
    rcases hgd with ⟨h1, _⟩ | ⟨_, _, _, _, _, _, _, h2⟩
    · exact h1
    · cases h2
  obtain ⟨v, w', L', hr, hs', hx⟩ := h o a w0 w hs ok st
  refine wpList_plain hgn fun K' hK => ?_
  unfold Oper.wp
  have hput : Ok N (a.put o.dst v) (e.put d v) := by rw [hd]; exact ok.put d v hN
  rcases hr with hr | ⟨hr, rfl⟩
  · rw [hr]; exact hK _ _ (hx ops os' Q _ w0 w' hc' hput hs' k)
  · rw [hr]; exact hK _ _ (hx ops os' Q _ w0 w' hc' hput hs' k)
/-- One operation that enters a function. -/
theorem Sx.enter {d : Option Nat} {s : S} {f : FuncId} {vs : List Value} {R : Value → St → Prop} (h : ∀ (o : Oper) (a : Act) (w : World), cS P o = some s → Ok N a e → (execOp a.eval o).run P w = .ok (.enter f vs.toArray) w)
    (hf : ∀ w0 w, Sat w0 w L → Calls P f vs.toArray w fun x w' => ∃ v L', x = .returned v ∧ R v L' ∧ Sat w0 w' L') (x : ∀ v L', R v L' → Sx P N l (e.put d v) K L') :
    Sx P N (⟨d, none, s⟩ :: l) e K L := by
  intro ops os Q a w0 w hc ok st k
  obtain ⟨o, os', rfl, hg, hc'⟩ := cL_cons hc
  obtain ⟨hs, hd, hN, hgd⟩ := cG_inv hg
  have hgn : o.guard = none := by
    rcases hgd with ⟨h1, _⟩ | ⟨_, _, _, _, _, _, _, h2⟩
    · exact h1
    · cases h2
  refine wpList_plain hgn fun K' hK => ?_
  unfold Oper.wp
  rw [h o a w hs ok]
  refine (hf w0 w st).mono fun en w' ⟨v, L', he, hR, hS⟩ => ?_
  subst he
  have hput : Ok N (a.put o.dst v) (e.put d v) := by rw [hd]; exact ok.put d v hN
  exact hK _ _ (x v L' hR ops os' Q _ w0 w' hc' hput hS k)
def boolOf : Value → Option Bool
  | .bool b => some b
  | _ => none
theorem yielded_of {ops : Array Oper} {a : Act} {j t : Nat} {q : Oper} {v : Value} (hq : ops[j]? = some q) (ht : q.dst = some t) (h : a.tmps[t]? = some v) :
    yielded ops a.tmps j = boolOf v := by
  unfold yielded
  rw [hq]
  simp only [Option.bind_some, ht]
  rw [h]
  cases v <;> rfl
/-- A guard that says yes. -/
theorem Sx.on {d : Option Nat} {s : S} {t : Nat} {b : Bool} (hb : e.get t = some (.bool b)) (x : Sx P N (⟨d, none, s⟩ :: l) e K L) : Sx P N (⟨d, some (t, b), s⟩ :: l) e K L := by
  intro ops os Q a w0 w hc ok st k
  obtain ⟨o, os', rfl, hg, hc'⟩ := cL_cons hc
  obtain ⟨hs, hd, hN, hgd⟩ := cG_inv hg
  rcases hgd with ⟨_, h1⟩ | ⟨j, want, q, t', hgo, hq, ht, h2⟩
  · cases h1
  · simp only [Option.some.injEq, Prod.mk.injEq] at h2
    obtain ⟨rfl, rfl⟩ := h2
    have hy := yielded_of hq ht (ok.get _ _ hb)
    have hw : Region.wanted o (yielded ops a.tmps) = true := by simp [Region.wanted, hgo, hy, boolOf]
    have hc2 : cG P N ops { o with guard := none } = some ⟨d, none, s⟩ := by
      have hs2 : cS P { o with guard := none } = some s := hs
      unfold cG
      rw [hs2]
      have hN' : dstOk N o.dst = true := by
        cases ho : o.dst with
        | none => rfl
        | some i => simpa [dstOk] using hN i (by rw [← hd, ho])
      simp only [hN', if_true]
      simp only at hd
      rw [← hd]
    have hcl : cL P N ops ({ o with guard := none } :: os') = some (⟨d, none, s⟩ :: l) := by simp [cL, hc2, hc']
    have := x ops _ Q a w0 w hcl ok st k
    simp only [wpList, Region.wanted, if_true] at this
    simp only [wpList, hw, if_true]
    exact this
def offs (e : En) (t : Nat) (b : Bool) : Bool := match e.get t with
  | some (.bool c) => c != b
  | some (.tuple _) => true
  | _ => false
/-- A guard that says no. -/
theorem Sx.off {d : Option Nat} {s : S} {t : Nat} {b : Bool} (hb : offs e t b = true) (x : Sx P N l (e.put d undef) K L) : Sx P N (⟨d, some (t, b), s⟩ :: l) e K L := by
  intro ops os Q a w0 w hc ok st k
  obtain ⟨o, os', rfl, hg, hc'⟩ := cL_cons hc
  obtain ⟨hs, hd, hN, hgd⟩ := cG_inv hg
  rcases hgd with ⟨_, h1⟩ | ⟨j, want, q, t', hgo, hq, ht, h2⟩
  · cases h1
  · simp only [Option.some.injEq, Prod.mk.injEq] at h2
    obtain ⟨rfl, rfl⟩ := h2
    have hw : Region.wanted o (yielded ops a.tmps) = false := by
      unfold offs at hb
      split at hb
      · rename_i c hc
        have hy := yielded_of hq ht (ok.get _ _ hc)
        simp only [Region.wanted, hgo, hy, boolOf]
        simp only [bne_iff_ne, ne_eq] at hb
        simpa using hb
      · rename_i c hc
        have hy := yielded_of hq ht (ok.get _ _ hc)
        simp [Region.wanted, hgo, hy, boolOf]
      · cases hb
    have hput : Ok N (a.put o.dst undef) (e.put d undef) := by rw [hd]; exact ok.put d undef hN
    simp only [wpList, hw, Bool.false_eq_true, if_false]
    exact x ops os' Q _ w0 w hc' hput st k
theorem Ok.learn {a : Act} {t : Nat} {p q : Value} (ok : Ok N a e) (h : e.get t = some p) (hq : p = q) : Ok N a ((t, q) :: e) := by
  subst hq
  refine ⟨ok.size, ok.defers, fun i v hi => ?_⟩
  have hi' : (e.put (some t) p).get i = some v := hi
  rw [En.get_put] at hi'
  by_cases ht : t = i
  · subst ht; rw [if_pos rfl] at hi'; cases hi'; exact ok.get _ _ h
  · rw [if_neg ht] at hi'; exact ok.get _ _ hi'
theorem Sx.learn {t : Nat} {p q : Value} (h : e.get t = some p) (hq : p = q) (x : Sx P N l ((t, q) :: e) K L) : Sx P N l e K L :=
  fun ops os Q a w0 w hc ok s k => x ops os Q a w0 w hc (ok.learn h hq) s k
/-- A guard that may say either. -/
theorem Sx.guard {d : Option Nat} {s : S} {t : Nat} {b p : Bool} (hb : e.get t = some (.bool p)) (x : p = b → Sx P N (⟨d, none, s⟩ :: l) ((t, .bool b) :: e) K L)
    (y : p = !b → Sx P N l (En.put ((t, .bool (!b)) :: e) d undef) K L) : Sx P N (⟨d, some (t, b), s⟩ :: l) e K L := by
  by_cases hp : p = b
  · refine Sx.learn hb (by rw [hp]) (Sx.on (by simp [En.get]) (x hp))
  · have hp' : p = !b := by cases p <;> cases b <;> simp_all
    refine Sx.learn hb (by rw [hp']) (Sx.off (by cases b <;> simp [offs, En.get]) (y hp'))

/-- A plain operation. -/
theorem Sx.pv {d : Option Nat} {s : S} {φ : Prop} {v : Value} (hp : pv e s = some (φ, v)) (hφ : φ) (x : Sx P N l (e.put d v) K L) : Sx P N (⟨d, none, s⟩ :: l) e K L :=
  .step fun o a w0 w hs ok st => ⟨v, w, L, .inl (ok.runs hs hp hφ w), st, x⟩
/-- Of two bools, by a third. -/
def pick (c x y : Bool) : Bool := bif c then x else y
theorem Sx.pk {d : Option Nat} {c x y : X} {p q r : Bool} (hc : c.get e = some (.bool p)) (hx : x.get e = some (.bool q)) (hy : y.get e = some (.bool r)) (k : Sx P N l (e.put d (.bool (Proofs.YtnbkjcmmjgkdaaaGreat.pick p q r))) K L) :
    Sx P N (⟨d, none, .pk c x y⟩ :: l) e K L := by
  cases p
  · refine Sx.pv (φ := True) (v := .bool r) ?_ trivial k
    simp only [Proofs.YtnbkjcmmjgkdaaaGreat.pv, hc, hy]
  · refine Sx.pv (φ := True) (v := .bool q) ?_ trivial k
    simp only [Proofs.YtnbkjcmmjgkdaaaGreat.pv, hc, hx]

theorem plain_iop {o : BinOp} {k : IntKind} {x y : Int} {φ : Prop} {v : Value} (h : iop o k x y = some (φ, v)) (hq : o ≠ .quo) (hr : o ≠ .rem) : φ := by
  cases o <;> simp only [iop, Option.some.injEq, Prod.mk.injEq, reduceCtorEq] at h <;> first | contradiction | (obtain ⟨rfl, _⟩ := h; trivial)
theorem plain_pv {s : S} (h : plain s = true) {φ : Prop} {v : Value} (hp : Proofs.YtnbkjcmmjgkdaaaGreat.pv e s = some (φ, v)) : φ := by
  cases s with
  | ib o x y =>
    have hq : o ≠ .quo := by rintro rfl; simp [plain] at h
    have hr : o ≠ .rem := by rintro rfl; simp [plain] at h
    have hl : o ≠ .shl := by rintro rfl; simp [plain] at h
    have hs : o ≠ .shr := by rintro rfl; simp [plain] at h
    simp only [Proofs.YtnbkjcmmjgkdaaaGreat.pv] at hp
    split at hp
    · rename_i k _ k' _ _ _
      cases hk : decide (k = k') with
      | false => rw [hk] at hp; simp at hp
      | true => rw [hk] at hp; exact plain_iop hp hq hr
    · cases hp
  | _ =>
    first
    | (simp only [plain, Bool.false_eq_true] at h; done)
    | (simp only [Proofs.YtnbkjcmmjgkdaaaGreat.pv] at hp; (repeat' split at hp) <;> first | (cases hp; done) | (cases hp; trivial) | (simp only [cond] at hp; (repeat' split at hp) <;> first | (cases hp; done) | (cases hp; trivial)))
theorem Sx.pvs : ∀ {l m : List G} {e e' : En}, Proofs.YtnbkjcmmjgkdaaaGreat.pvs l e = some (m, e') → Sx P N m e' K L → Sx P N l e K L
  | [], m, e, e', h, x => by simp [Proofs.YtnbkjcmmjgkdaaaGreat.pvs] at h
  | ⟨d, some g, s⟩ :: l, m, e, e', h, x => by simp [Proofs.YtnbkjcmmjgkdaaaGreat.pvs] at h
  | ⟨d, none, s⟩ :: l, m, e, e', h, x => by
    simp only [Proofs.YtnbkjcmmjgkdaaaGreat.pvs] at h
    cases hpl : plain s with
    | false => rw [hpl] at h; cases h
    | true =>
      rw [hpl, cond_true] at h
      split at h
      · rename_i φ v hv
        refine Sx.pv hv (plain_pv hpl hv) ?_
        split at h
        · rename_i r hr; cases h; exact Sx.pvs hr x
        · cases h; exact x
      · cases h
end
end Go.Proofs.YtnbkjcmmjgkdaaaGreat
