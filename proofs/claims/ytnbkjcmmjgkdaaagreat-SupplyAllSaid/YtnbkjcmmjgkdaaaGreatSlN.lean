/-
  More rules: calls that leave a part as it was; regions that draw their order, walked at the head.
-/
import Derived.Test.YtnbkjcmmjgkdaaaGreatSlM
import Derived.Test.YtnbkjcmmjgkdaaaGreatStB
import Derived.KernelRfl
set_option linter.unusedVariables false
set_option linter.unusedSimpArgs false
namespace Go.Proofs.YtnbkjcmmjgkdaaaGreat
open Go
section
variable {P : Program} {N : Nat} {L M F : St}
/-- A call that leaves a part as it was. -/
theorem Fx.kept {f : FuncId} {vs : List Value} {v : Value} {a : Option Addr} {R : Option Addr → As} [t : Take L a R F] (h : Fx P f vs L (fun v' L' => v' = v ∧ L' = pt a R :: F)) : Fx P f vs L (fun v' L' => v' = v ∧ L = L') :=
  fun w0 w s => (h w0 w s).mono fun en w' ⟨v', L', he, ⟨hv, hL⟩, hS⟩ => ⟨v', L, he, ⟨hv, rfl⟩, hS.ent (by subst hL; exact Ent.of t.back)⟩

/-- What the memory that comes of a call tells. -/
theorem Fx.pure {f : FuncId} {vs : List Value} {R : Value → St → Prop} (x : Fx P f vs L R) {p : Value → St → Prop} (hp : ∀ v L', R v L' → ∀ h, holds L' h → p v L') : Fx P f vs L (fun v L' => R v L' ∧ p v L') :=
  fun w0 w s => (x w0 w s).mono fun en w' ⟨v, L', he, hR, hS⟩ => by
    obtain ⟨h, hh, _⟩ := hS.heap
    exact ⟨v, L', he, ⟨hR, hp v L' hR h hh⟩, hS⟩

/-! Ends that hold as well where more is known of the temporaries. -/
class Mono (Kf : En → St → Prop) : Prop where
  le : ∀ e e' L, sub e e' → Kf e L → Kf e' L
instance Mono.cx {c : C} {K : Kx} : Mono (fun e L => Cx P N c e K L) := ⟨fun _ _ _ hs h => Cx.less hs h⟩
instance Mono.sq {c : C} {K : Kx} : Mono (fun e L => Ksq P N c K .nm e L) := ⟨fun _ _ _ hs h => Cx.less hs h⟩
instance Mono.bl {K : Kx} {i : Nat} [m : Mono (fun e L => K .nm e L)] : Mono (fun e L => Kbl i K .nm e L) := ⟨fun e e' L hs h => m.le e e' L hs h⟩
instance Mono.lp {α : Type _} {K : Kx} {T : α → En} {S : α → St} {μ : α → Nat} {x : α} : Mono (fun e L => Klp K T S μ x .nm e L) := ⟨fun _ _ _ hs h => Klp.mono _ _ hs h⟩
instance Mono.jn {β : Type _} {K : Kx} {T : β → En} {S : β → St} : Mono (fun e L => Kjn K T S .nm e L) := ⟨fun _ _ _ hs h => Kjn.mono _ _ hs h⟩
instance Mono.kr {rs : List RV} {R : Value → St → Prop} : Mono (fun e L => Kr P N rs R .nm e L) := ⟨fun e e' L hs ⟨h1, v, L', h2, h3, h4⟩ => ⟨h1, v, L', fun fn a w0 w hr ok s => h2 fn a w0 w hr (ok.sub hs) s, h3, h4⟩⟩

/-! Only which operations are left counts, not how they are listed. -/
theorem Ev.same {Kf : En → St → Prop} {rem : List It} {ms : List (Nat × (St → Prop))} {e : En} {L : St} (h : Ev P N Kf rem ms e L) : ∀ {rem2 : List It}, (∀ x, x ∈ rem2 ↔ x ∈ rem) → Ev P N Kf rem2 ms e L := by
  induction h with
  | nil h =>
    intro rem2 hm
    cases rem2 with
    | nil => exact .nil h
    | cons x r => exact absurd ((hm x).1 (by simp)) (by simp)
  | free x hx v h k ih => exact fun hm => .free x ((hm x).2 hx) v h (ih fun y => by rw [mem_without, mem_without, hm])
  | looks x hx v Φ hΦ h k ih => exact fun hm => .looks x ((hm x).2 hx) v Φ hΦ h (ih fun y => by rw [mem_without, mem_without, hm])
  | turns x hx R h1 h2 h k ih =>
    intro rem2 hm
    refine .turns x ((hm x).2 hx) R (List.all_eq_true.2 fun y hy => List.all_eq_true.1 h1 y ?_) h2 h fun v L' hR => ih v L' hR fun y => by rw [mem_without, mem_without, hm]
    rw [mem_without] at hy ⊢
    exact ⟨(hm y).1 hy.1, hy.2⟩
def pull : Nat → List It → Option (It × List It)
  | _, [] => none
  | 0, x :: r => some (x, r)
  | n + 1, x :: r => match pull n r with
    | some (y, k) => some (y, x :: k)
    | none => none
theorem pull_mem : ∀ {n : Nat} {l : List It} {x : It} {r : List It}, pull n l = some (x, r) → ∀ y, y ∈ l ↔ y ∈ x :: r
  | 0, [], _, _, h, _ => by cases h
  | n + 1, [], _, _, h, _ => by cases h
  | 0, a :: l, x, r, h, y => by cases h; rfl
  | n + 1, a :: l, x, r, h, y => by
    simp only [pull] at h
    split at h
    · rename_i z k hz
      cases h
      have := pull_mem hz y
      simp only [List.mem_cons] at this ⊢
      rw [this]
      constructor
      · rintro (h | h | h) <;> simp [h]
      · rintro (h | h | h) <;> simp [h]
    · cases h
section
variable {Kf : En → St → Prop} {e : En} {rem rem' r : List It} {ms : List (Nat × (St → Prop))} {i ds sz : Nat} {rs : List Nat} {d : Option Nat} {g : Option (Nat × Bool)}
/-- One operation comes to the head. -/
theorem Ev.bring (j : Nat) {x : It} (h : pull j rem = some (x, r)) (k : Ev P N Kf (x :: r) ms e L) : Ev P N Kf rem ms e L := k.same fun y => pull_mem h y
/-- No two of one place. -/
def dist : List It → Bool
  | [] => true
  | x :: l => l.all (fun y => !(Nat.beq y.i x.i)) && dist l
theorem without_head {x : It} (h : r.all (fun y => !(Nat.beq y.i x.i)) = true) : without (x :: r) x.i = r := by
  unfold without
  rw [List.filter_cons]
  simp only [Nat.beq_refl, Bool.not_true, Bool.false_eq_true, if_false]
  rw [List.filter_eq_self]
  exact fun y hy => List.all_eq_true.1 h y hy
theorem dist_move {x : It} {r : List It} : ∀ {pre : List It}, dist (pre ++ x :: r) = true → dist (x :: (pre ++ r)) = true
  | [], hd => hd
  | y :: pre, hd => by
    simp only [List.cons_append, dist, Bool.and_eq_true, List.all_append, List.all_cons] at hd
    obtain ⟨⟨h1, h2, h3⟩, h4⟩ := hd
    have := dist_move h4
    simp only [List.cons_append, dist, Bool.and_eq_true, List.all_append, List.all_cons] at this ⊢
    refine ⟨⟨?_, this.1⟩, ⟨h1, h3⟩, this.2⟩
    simp only [Bool.not_eq_true'] at h2 ⊢
    cases hb : Nat.beq y.i x.i with
    | false => rfl
    | true => rw [Nat.eq_of_beq_eq_true hb] at h2; simp at h2
/-- Plain operations, in one pass; so many that cannot be told yet are passed by. -/
def pass : Nat → List It → En → Option (List It × En)
  | _, [], _ => none
  | n, x :: r, e => match stepM x e with
    | some v => match x.g.d with
      | some t => match pass n r ((t, v) :: e) with
        | some q => some q
        | none => some (r, (t, v) :: e)
      | none => match pass n r e with
        | some q => some q
        | none => some (r, e)
    | none => match n with
      | 0 => none
      | n + 1 => match pass n r e with
        | some (k, e') => some (x :: k, e')
        | none => none
theorem pass_ev : ∀ {n : Nat} {r : List It} {e : En} {rem' : List It} {e' : En}, pass n r e = some (rem', e') → ∀ pre : List It, dist (pre ++ r) = true → Ev P N Kf (pre ++ rem') ms e' L → Ev P N Kf (pre ++ r) ms e L
  | _, [], _, _, _, h, _, _, _ => by cases h
  | n, x :: r, e, rem', e', h, pre, hd, k => by
    have hd' : dist (x :: (pre ++ r)) = true := dist_move hd
    have hd2 : (pre ++ r).all (fun y => !(Nat.beq y.i x.i)) = true ∧ dist (pre ++ r) = true := by simpa [dist] using hd'
    rw [pass.eq_def] at h
    simp only at h
    have tell : ∀ {v : Value}, stepM x e = some v → Ev P N Kf (pre ++ r) ms (e.put x.g.d v) L → Ev P N Kf (pre ++ x :: r) ms e L := by
      intro v hv k
      refine Ev.same (rem := x :: (pre ++ r)) (Ev.stp (x := x) (by simp) hv ?_) fun y => by simp only [List.mem_append, List.mem_cons]; constructor <;> (rintro (h | h | h) <;> simp [h])
      rw [without_head hd2.1]
      exact k
    split at h
    · rename_i v hv
      refine tell hv ?_
      split at h
      · rename_i t ht
        rw [ht]
        split at h
        · rename_i q hq
          cases h
          exact pass_ev hq pre hd2.2 k
        · cases h
          exact k
      · rename_i ht
        rw [ht]
        split at h
        · rename_i q hq
          cases h
          exact pass_ev hq pre hd2.2 k
        · cases h
          exact k
    · cases n with
      | zero => cases h
      | succ n =>
        simp only at h
        split at h
        · rename_i kk ee hq
          cases h
          have := pass_ev hq (pre ++ [x]) (by simpa using hd) (by simpa using k)
          simpa using this
        · cases h
theorem Ev.pass (n : Nat) {e' : En} (h : Proofs.YtnbkjcmmjgkdaaaGreat.pass n rem e = some (rem', e')) (hd : dist rem = true) (k : Ev P N Kf rem' ms e' L) : Ev P N Kf rem ms e L := pass_ev h [] hd k
/-- One plain operation at the head. -/
theorem Ev.stpH {x : It} {v : Value} {e' : En} (hd : dist (x :: r) = true) (h : stepM x e = some v) (he : (match x.g.d with | some t => (t, v) :: e | none => e) = e') (k : Ev P N Kf r ms e' L) : Ev P N Kf (x :: r) ms e L := by
  refine Ev.stp (x := x) (by simp) h ?_
  rw [without_head (by simp only [dist, Bool.and_eq_true] at hd; exact hd.1)]
  subst he
  cases hx : x.g.d with
  | none => rw [hx] at k; exact k
  | some t => rw [hx] at k; exact k
/-- What is known may be less. -/
theorem only_sub {T e : En} (hs : sub T e) (rs : List Nat) : sub (T.only rs) (e.only rs) := by
  intro t u h
  have ⟨hm, hu⟩ := only_get h
  have hu' := hs t u hu
  clear h hu hs
  induction rs with
  | nil => cases hm
  | cons a r ih =>
    unfold En.only
    by_cases hat : a = t
    · subst hat
      rw [hu']
      simp [En.get]
    · have hm' : t ∈ r := by
        rcases List.mem_cons.1 hm with h | h
        · exact absurd h.symm hat
        · exact h
      have hb : Nat.beq a t = false := by
        cases hb : Nat.beq a t with
        | false => rfl
        | true => exact absurd (Nat.eq_of_beq_eq_true hb) hat
      split
      · simp only [En.get, hb, cond_false]; exact ih hm'
      · exact ih hm'
theorem sub.trans {a b c : En} (h : sub a b) (k : sub b c) : sub a c := fun i v x => k i v (h i v x)
theorem sub.put {a b : En} (h : sub a b) (d : Option Nat) (v : Value) : sub (a.put d v) (b.put d v) := by
  intro i u hi
  cases d with
  | none => exact h i u hi
  | some t =>
    simp only [En.put, En.get] at hi ⊢
    cases hb : Nat.beq t i with
    | true => simp only [hb, cond_true] at hi ⊢; exact hi
    | false => simp only [hb, cond_false] at hi ⊢; exact h i u hi
theorem Ev.less {T : En} (hK : ∀ e e' L, sub e e' → Kf e L → Kf e' L) (h : Ev P N Kf rem ms T L) : ∀ {e : En}, sub T e → Ev P N Kf rem ms e L := by
  induction h with
  | nil h => exact fun hs => .nil (hK _ _ _ hs h)
  | free x hx v h k ih => exact fun hs => .free x hx v (fun L e' he => h L e' ((only_sub hs _).trans he)) (ih (hs.put _ _))
  | looks x hx v Φ hΦ h k ih => exact fun hs => .looks x hx v Φ hΦ (fun M hM e' he => h M hM e' ((only_sub hs _).trans he)) (ih (hs.put _ _))
  | turns x hx R h1 h2 h k ih => exact fun hs => .turns x hx R h1 h2 (fun e' he => h e' ((only_sub hs _).trans he)) fun v L' hR => ih v L' hR (hs.put _ _)
theorem sub_learn {t : Nat} {p q : Value} (h : e.get t = some p) (hq : p = q) : sub ((t, q) :: e) e := by
  subst hq
  intro i u hi
  simp only [En.get] at hi
  cases hb : Nat.beq t i with
  | true => rw [hb, cond_true] at hi; rw [← Nat.eq_of_beq_eq_true hb, h]; exact hi
  | false => rw [hb, cond_false] at hi; exact hi
/-- A value known otherwise. -/
theorem Ev.learn [hK : Mono Kf] (t : Nat) {p q : Value} (h : e.get t = some p) (hq : p = q) (k : Ev P N Kf rem ms ((t, q) :: e) L) : Ev P N Kf rem ms e L := Ev.less hK.le k (sub_learn h hq)
theorem Ev.yes [hK : Mono Kf] (t : Nat) {p : Bool} (h : e.get t = some (.bool p)) (hp : p = true) (k : Ev P N Kf rem ms ((t, .bool true) :: e) L) : Ev P N Kf rem ms e L := .learn t h (by rw [hp]) k
theorem Ev.no [hK : Mono Kf] (t : Nat) {p : Bool} (h : e.get t = some (.bool p)) (hp : p = false) (k : Ev P N Kf rem ms ((t, .bool false) :: e) L) : Ev P N Kf rem ms e L := .learn t h (by rw [hp]) k
theorem Ev.ifb [hK : Mono Kf] (t : Nat) {p : Bool} (h : e.get t = some (.bool p)) (h1 : p = true → Ev P N Kf rem ms ((t, .bool true) :: e) L) (h2 : p = false → Ev P N Kf rem ms ((t, .bool false) :: e) L) : Ev P N Kf rem ms e L := by
  cases p
  · exact .no t h rfl (h2 rfl)
  · exact .yes t h rfl (h1 rfl)
theorem Ev.fin (h : Kf e L) : Ev P N Kf [] ms e L := .nil h
/-- What is known, but for what is to be written; told cell by cell. -/
def clr (ds : List Nat) : En → Option En
  | [] => some []
  | (i, v) :: r => match clr ds r with
    | some q => bif ds.any (Nat.beq i) then some q else some ((i, v) :: q)
    | none => none
def dsts : List It → List Nat
  | [] => []
  | x :: r => match x.g.d with | some d => d :: dsts r | none => dsts r
theorem clr_any {l : List It} {i : Nat} : (dsts l).any (Nat.beq i) = true → ∃ y ∈ l, y.g.d = some i := by
  induction l with
  | nil => intro h; cases h
  | cons x r ih =>
    intro h
    unfold dsts at h
    split at h
    · rename_i d hd
      simp only [List.any_cons, Bool.or_eq_true] at h
      rcases h with h | h
      · exact ⟨x, by simp, by rw [hd, Nat.eq_of_beq_eq_true h]⟩
      · obtain ⟨y, hy, he⟩ := ih h; exact ⟨y, by simp [hy], he⟩
    · obtain ⟨y, hy, he⟩ := ih h; exact ⟨y, by simp [hy], he⟩
theorem clr_eq {l : List It} : ∀ {e q : En}, clr (dsts l) e = some q → q = e.clear l
  | [], q, h => by cases h; rfl
  | (i, v) :: r, q, h => by
    simp only [clr] at h
    split at h
    · rename_i q' hq
      have ih := clr_eq hq
      subst ih
      unfold En.clear
      rw [List.filter_cons]
      cases hb : (dsts l).any (Nat.beq i) with
      | true =>
        rw [hb, cond_true] at h; cases h
        obtain ⟨y, hy, he⟩ := clr_any hb
        rw [if_neg]
        · rfl
        · intro hh
          have := List.all_eq_true.1 hh y hy
          rw [he] at this; simp at this
      | false =>
        rw [hb, cond_false] at h; cases h
        rw [if_pos]
        · rfl
        · refine List.all_eq_true.2 fun y hy => ?_
          cases hyd : y.g.d with
          | none => rfl
          | some d =>
            simp only [Bool.not_eq_true']
            cases hdi : Nat.beq d i with
            | false => rfl
            | true =>
              exfalso
              rw [Nat.eq_of_beq_eq_true hdi] at hyd
              have : (dsts l).any (Nat.beq i) = true := by
                clear hb hq
                induction l with
                | nil => cases hy
                | cons x l ih =>
                  unfold dsts
                  rcases List.mem_cons.1 hy with rfl | hy
                  · rw [hyd]; simp
                  · split
                    · simp only [List.any_cons, Bool.or_eq_true]; exact .inr (ih hy)
                    · exact ih hy
              rw [hb] at this; cases this
    · cases h
theorem Cx.ordc {l : List It} {e q : En} {d : C} {K : Kx} (hq : clr (dsts l) e = some q) (hc : chkO l = true) (h : Ev P N (fun fin L => Cx P N d fin K L) l [] q L) : Cx P N (.rd l) e (Ksq P N d K) L := by
  refine Cx.ord hc ?_
  rw [← clr_eq hq]
  exact h
/-- At the end of a block, of a loop's body, of a function. -/
theorem Cx.orde {l : List It} {e q : En} {K : Kx} [hK : Mono (fun e L => K .nm e L)] (hq : clr (dsts l) e = some q) (hc : chkO l = true) (h : Ev P N (fun fin L => K .nm fin L) l [] q L) : Cx P N (.rd l) e K L := by
  rw [clr_eq hq] at h
  simp only [chkO, Bool.and_eq_true] at hc
  refine Cx.rd ?_
  refine ev_run (Kf := Krg K) hc.1 hc.2.1 hc.2.2 hK.le l.length l [] (e.clear l) L h [] l e rfl (fun _ h => h) (fun x => by simp) (fun _ h => by cases h) (fun _ h => by cases h) (fun y hy d hyd => ?_) (fun t u ht _ => clear_sub ht)
  cases hg : (e.clear l).get d with
  | none => rfl
  | some u => exact absurd hyd ((clear_get hg).1 y hy)
/-- The last one behind all others: it may write what they read. -/
def lastOne (l : List It) (y : It) : Bool := l.all fun x => bit y.ds x.i && !(Nat.beq y.i x.i)
theorem Cx.ordl {l : List It} {y : It} {e q : En} {K : Kx} [hK : Mono (fun e L => K .nm e L)] (hq : clr (dsts l) e = some q) (hc : chkO l = true) (hy : lastOne l y = true)
    (h : Ev P N (fun fin L => Sx P N [y.g] fin (fun e L => K .nm e L) L) l [] q L) : Cx P N (.rd (l ++ [y])) e K L := by
  rw [clr_eq hq] at h
  simp only [chkO, Bool.and_eq_true] at hc
  refine Cx.rd ?_
  refine ev_runT (Kf := fun fin L => Sx P N [y.g] fin (fun e L => K .nm e L) L) (Kt := Krg K) hc.1 hc.2.1 hc.2.2 (fun z hz x hx => ?_) (fun e e' L hs hk => ?_) l.length l [] (e.clear l) L h [] l e rfl (fun _ h => h) (fun x => by simp) (fun _ h => by cases h) (fun _ h => by cases h) (fun y hy d hyd => ?_) (fun t u ht _ => clear_sub ht)
  · have : z = y := by simpa using hz
    subst this
    simp only [lastOne, List.all_eq_true, Bool.and_eq_true] at hy
    refine ⟨(hy x hx).1, fun e => ?_⟩
    have := (hy x hx).2
    rw [e] at this; simp at this
  · refine Rx.all (fun h => by cases h) fun x hx => ⟨by simp, ?_⟩
    have hxy : x = y := by
      have : x ∈ [y] := (List.mem_filter.1 hx).1
      simpa using this
    subst hxy
    intro ops os Q a w0 w hc2 ok s kk
    refine hk ops os Q a w0 w hc2 (ok.sub hs) s fun a' w' e2 L2 h2 => kk a' w' e2 L2 ⟨trivial, ?_⟩
    have hw : without [x] x.i = [] := by simp [without]
    rw [hw]
    exact Rx.nil h2
  · cases hg : (e.clear l).get d with
    | none => rfl
    | some u => exact absurd hyd ((clear_get hg).1 y hy)
def unsnoc : List It → Option (List It × It)
  | [] => none
  | x :: r => match r with
    | [] => some ([], x)
    | _ :: _ => match unsnoc r with
      | some (l, y) => some (x :: l, y)
      | none => none
theorem unsnoc_eq : ∀ {l0 l : List It} {y : It}, unsnoc l0 = some (l, y) → l0 = l ++ [y]
  | [], _, _, h => by cases h
  | [x], l, y, h => by cases h; rfl
  | x :: z :: r, l, y, h => by
    have ih := @unsnoc_eq (z :: r)
    unfold unsnoc at h
    simp only at h
    split at h
    · rename_i l' y' hq
      cases h
      rw [ih hq]; rfl
    · cases h
theorem Cx.ordu {l0 l : List It} {y : It} {e q : En} {K : Kx} [hK : Mono (fun e L => K .nm e L)] (hu : unsnoc l0 = some (l, y)) (hq : clr (dsts l) e = some q) (hc : chkO l = true) (hy : lastOne l y = true)
    (h : Ev P N (fun fin L => Sx P N [y.g] fin (fun e L => K .nm e L) L) l [] q L) : Cx P N (.rd l0) e K L := by
  rw [unsnoc_eq hu]
  exact Cx.ordl hq hc hy h
/-- At the head: whatever looks. -/
theorem Ev.lookH {s : S} {v : Value} (Φ : St → Prop) (hd : dist (⟨i, ds, rs, ⟨d, g, s⟩⟩ :: r) = true) (hg : gon (e.only rs) g = true) (hΦ : Φ L) (h : ∀ M, Φ M → ∀ e', sub (e.only rs) e' → Sc P N ⟨d, none, s⟩ e' v M)
    (k : Ev P N Kf r ((i, Φ) :: ms) (e.put d v) L) : Ev P N Kf (⟨i, ds, rs, ⟨d, g, s⟩⟩ :: r) ms e L :=
  .looks ⟨i, ds, rs, ⟨d, g, s⟩⟩ (by simp) v Φ hΦ (fun M hM e' hs => .gon hg hs (h M hM e' hs)) (by
    rw [show without (⟨i, ds, rs, ⟨d, g, s⟩⟩ :: r) i = r from without_head (x := ⟨i, ds, rs, ⟨d, g, s⟩⟩) (by simp only [dist, Bool.and_eq_true] at hd; exact hd.1)]
    exact k)
/-- A load. -/
theorem Ev.ldH {x : X} {n b off : Nat} {ag : Bool} {vs : List Value} {v : Value} (hd : dist (⟨i, ds, rs, ⟨d, g, .ld x n ag⟩⟩ :: r) = true) (hg : gon (e.only rs) g = true) (hx : x.get (e.only rs) = some (.pointer (some ⟨b, off, none⟩))) (hh : Has L b off vs) (hv : ldv n ag vs = some v)
    (k : Ev P N Kf r ((i, fun M => Has M b off vs) :: ms) (e.put d v) L) : Ev P N Kf (⟨i, ds, rs, ⟨d, g, .ld x n ag⟩⟩ :: r) ms e L :=
  .lookH (fun M => Has M b off vs) hd hg hh (fun M hM e' hs K k => Sx.ld (X.get_sub hx hs) hM hv (Sx.nil k)) k
theorem Ev.ldbH {x : X} {b off : Nat} {T : TypeId} {cs : List Value} {v : Value} [t : Take L (some ⟨b, 0, none⟩) (Blk T cs) F] (hd : dist (⟨i, ds, rs, ⟨d, g, .ld x 1 false⟩⟩ :: r) = true) (hg : gon (e.only rs) g = true) (hx : x.get (e.only rs) = some (.pointer (some ⟨b, off, none⟩)))
    (hv : cs[off]? = some v) (k : Ev P N Kf r ((i, fun M => Has M b off [v]) :: ms) (e.put d v) L) : Ev P N Kf (⟨i, ds, rs, ⟨d, g, .ld x 1 false⟩⟩ :: r) ms e L :=
  .ldH hd hg hx ((Has.blk (T := T) (cs := cs) (n := 1)).one (take_one hv)) rfl k
theorem Ev.ldrH {x : X} {b off E sz n cap : Nat} {xs : List Value} {v : Value} [t : Take L (some ⟨b, 0, none⟩) (Row E sz n cap xs) F] (hd : dist (⟨i, ds, rs, ⟨d, g, .ld x 1 false⟩⟩ :: r) = true) (hg : gon (e.only rs) g = true) (hx : x.get (e.only rs) = some (.pointer (some ⟨b, off, none⟩)))
    (hv : xs[off]? = some v) (k : Ev P N Kf r ((i, fun M => Has M b off [v]) :: ms) (e.put d v) L) : Ev P N Kf (⟨i, ds, rs, ⟨d, g, .ld x 1 false⟩⟩ :: r) ms e L :=
  .ldH hd hg hx ((Has.row (E := E) (sz := sz) (n := n) (cap := cap) (xs := xs) (m := 1)).one (take_one hv)) rfl k
theorem Ev.ldbsH {x : X} {b off n : Nat} {T : TypeId} {cs : List Value} [t : Take L (some ⟨b, 0, none⟩) (Blk T cs) F] (hd : dist (⟨i, ds, rs, ⟨d, g, .ld x n true⟩⟩ :: r) = true) (hg : gon (e.only rs) g = true) (hx : x.get (e.only rs) = some (.pointer (some ⟨b, off, none⟩)))
    (hn : Nat.ble (off + n) cs.length = true) (k : Ev P N Kf r ((i, fun M => Has M b off ((cs.drop off).take n)) :: ms) (e.put d (.agg ((cs.drop off).take n).toArray)) L) : Ev P N Kf (⟨i, ds, rs, ⟨d, g, .ld x n true⟩⟩ :: r) ms e L := by
  refine .ldH hd hg hx (Has.blk (T := T) (cs := cs) (n := n)) ?_ k
  have h1 := Nat.le_of_ble_eq_true hn
  have h2 : ((cs.drop off).take n).length = n := by simp; omega
  simp [ldv, h2]
/-- A plain operation that asks for something. -/
theorem Ev.pvH {s : S} {φ : Prop} {v : Value} (hd : dist (⟨i, ds, rs, ⟨d, g, s⟩⟩ :: r) = true) (hg : gon (e.only rs) g = true) (hp : Proofs.YtnbkjcmmjgkdaaaGreat.pv (e.only rs) s = some (φ, v)) (hφ : φ) (k : Ev P N Kf r ms (e.put d v) L) :
    Ev P N Kf (⟨i, ds, rs, ⟨d, g, s⟩⟩ :: r) ms e L :=
  .free ⟨i, ds, rs, ⟨d, g, s⟩⟩ (by simp) v (fun L e' hs => .gon hg hs (.pv hp hφ hs)) (by
    rw [without_head (x := ⟨i, ds, rs, ⟨d, g, s⟩⟩) (by simp only [dist, Bool.and_eq_true] at hd; exact hd.1)]
    exact k)
/-- A call that leaves what is known. -/
theorem Ev.cakH {f : FuncId} {xs : List X} {vs : List Value} {v : Value} (hd : dist (⟨i, ds, rs, ⟨d, g, .ca f xs⟩⟩ :: r) = true) (hg : gon (e.only rs) g = true) (hx : gets (e.only rs) xs = some vs) (hf : Fx P f vs L (fun v' L' => v' = v ∧ L = L'))
    (k : Ev P N Kf r ((i, fun M => Fx P f vs M (fun v' L' => v' = v ∧ M = L')) :: ms) (e.put d v) L) : Ev P N Kf (⟨i, ds, rs, ⟨d, g, .ca f xs⟩⟩ :: r) ms e L :=
  .lookH (fun M => Fx P f vs M (fun v' L' => v' = v ∧ M = L')) hd hg hf (fun M hM e' hs K k => Sx.ca (gets_sub hs hx) hM fun v' L' h => by
    obtain ⟨rfl, rfl⟩ := h
    exact Sx.nil k) k
theorem Se.gon {T e' : En} {s : S} {R : Value → St → Prop} (hg : Proofs.YtnbkjcmmjgkdaaaGreat.gon T g = true) (hs : sub T e') (h : Se P N ⟨d, none, s⟩ e' L R) : Se P N ⟨d, g, s⟩ e' L R := by
  unfold Proofs.YtnbkjcmmjgkdaaaGreat.gon at hg
  split at hg
  · exact h
  · rename_i t b
    split at hg
    · rename_i c hc
      have hcb : c = b := by simpa using hg
      subst hcb
      exact fun K k => Sx.on (hs _ _ hc) (h K k)
    · cases hg
/-- What is left depends on it. -/
def lastly (i : Nat) (r : List It) : Bool := r.all fun y => !(Nat.beq y.i i) && bit y.ds i
theorem lastly_all {i : Nat} {r : List It} (h : lastly i r = true) : r.all (fun y => bit y.ds i) = true ∧ r.all (fun y => !(Nat.beq y.i i)) = true := by
  simp only [lastly, Bool.and_eq_true, List.all_eq_true] at h ⊢
  exact ⟨fun y hy => (h y hy).2, fun y hy => (h y hy).1⟩
/-- What has looked is ahead of it, or what it came to holds still. -/
inductive Pres (ds : Nat) (R : Value → St → Prop) : List (Nat × (St → Prop)) → Prop
  | nil : Pres ds R []
  | dep {m : Nat} {Φ : St → Prop} {l : List (Nat × (St → Prop))} (h : bit ds m = true) (k : Pres ds R l) : Pres ds R ((m, Φ) :: l)
  | keep {m : Nat} {Φ : St → Prop} {l : List (Nat × (St → Prop))} (h : ∀ v L', R v L' → Φ L') (k : Pres ds R l) : Pres ds R ((m, Φ) :: l)
theorem Pres.all {ds : Nat} {R : Value → St → Prop} {ms : List (Nat × (St → Prop))} (h : Pres ds R ms) : ∀ q ∈ ms, bit ds q.1 = true ∨ ∀ v L', R v L' → q.2 L' := by
  induction h with
  | nil => intro q hq; cases hq
  | dep h k ih =>
    intro q hq
    rcases List.mem_cons.1 hq with rfl | hq
    · exact .inl h
    · exact ih q hq
  | keep h k ih =>
    intro q hq
    rcases List.mem_cons.1 hq with rfl | hq
    · exact .inr h
    · exact ih q hq
/-- All of them ahead of it. -/
theorem Pres.deps {ds : Nat} {R : Value → St → Prop} : ∀ {ms : List (Nat × (St → Prop))}, (ms.all fun q => bit ds q.1) = true → Pres ds R ms
  | [], _ => .nil
  | q :: l, h => by
    simp only [List.all_cons, Bool.and_eq_true] at h
    exact .dep h.1 (Pres.deps h.2)
/-- An operation that turns what is known. -/
theorem Ev.genH {s : S} {R : Value → St → Prop} (hd : lastly i r = true) (hp : Pres ds R ms) (hg : gon (e.only rs) g = true) (h : ∀ e', sub (e.only rs) e' → Se P N ⟨d, none, s⟩ e' L R)
    (k : ∀ v L', R v L' → Ev P N Kf r ms (e.put d v) L') : Ev P N Kf (⟨i, ds, rs, ⟨d, g, s⟩⟩ :: r) ms e L := by
  have hw := without_head (x := ⟨i, ds, rs, ⟨d, g, s⟩⟩) (lastly_all hd).2
  refine .turns ⟨i, ds, rs, ⟨d, g, s⟩⟩ (by simp) R ?_ hp.all (fun e' hs => .gon hg hs (h e' hs)) fun v L' hR => ?_
  · rw [show without (_ :: r) i = r from hw]; exact (lastly_all hd).1
  · rw [show without (_ :: r) i = r from hw]; exact k v L' hR
/-- A call that turns what is known. -/
theorem Ev.caH {f : FuncId} {xs : List X} {vs : List Value} {R : Value → St → Prop} (hd : lastly i r = true) (hg : gon (e.only rs) g = true) (hx : gets (e.only rs) xs = some vs) (hf : Fx P f vs L R) (hp : Pres ds R ms)
    (k : ∀ v L', R v L' → Ev P N Kf r ms (e.put d v) L') : Ev P N Kf (⟨i, ds, rs, ⟨d, g, .ca f xs⟩⟩ :: r) ms e L :=
  .genH hd hp hg (fun e' hs K kk => Sx.ca (gets_sub hs hx) hf fun v' L' h => Sx.nil (kk v' L' h)) k
/-- An append to a row. -/
theorem Ev.apH {T E sz by_ : Nat} {z : List Value} {x y : X} {ra ya : Option Addr} {n cap m c : Nat} {xs ys : List Value} [t : Take L ra (Row E sz n cap xs) F] (hd : lastly i r = true) (hg : gon (e.only rs) g = true)
    (hx : x.get (e.only rs) = some (.slice ra n cap)) (hy : y.get (e.only rs) = some (.slice ya m c)) (hr : Rd L sz ya m ys) (h1 : ones ys = true) (hm : n + m ≤ maxLen) (hb : (n + m) * by_ ≤ 140737488355328)
    (hp : Pres ds (fun v L' => ∃ ra' cap', n + m ≤ cap' ∧ (n + m = 0 ∨ ∃ g, ra' = some ⟨g, 0, none⟩) ∧ v = .slice ra' (n + m) cap' ∧ L' = pt ra' (Row E sz (n + m) cap' (xs ++ ys)) :: F) ms)
    (k : ∀ ra' cap', n + m ≤ cap' → (n + m = 0 ∨ ∃ g, ra' = some ⟨g, 0, none⟩) → Ev P N Kf r ms (e.put d (.slice ra' (n + m) cap')) (pt ra' (Row E sz (n + m) cap' (xs ++ ys)) :: F)) : Ev P N Kf (⟨i, ds, rs, ⟨d, g, .ap T E sz by_ z x y⟩⟩ :: r) ms e L :=
  .genH hd hp hg (fun e' hs K kk => Sx.ap (t := t) (X.get_sub hx hs) (X.get_sub hy hs) hr h1 hm hb fun ra' cap' hc => Sx.rowkey (a := ra') fun _ _ _ hk => Sx.nil (kk _ _ ⟨ra', cap', hc, hk.imp (fun h => h.2.1) id, rfl, rfl⟩))
    (fun v L' ⟨ra', cap', hc, hk, e1, e2⟩ => by subst e1; subst e2; exact k ra' cap' hc hk)
/-- An append to none. -/
theorem Ev.apnH {T E sz by_ : Nat} {z : List Value} {x y : X} {ya : Option Addr} {m c : Nat} {ys : List Value} (hd : lastly i r = true) (hg : gon (e.only rs) g = true)
    (hx : x.get (e.only rs) = some (.slice none 0 0)) (hy : y.get (e.only rs) = some (.slice ya m c)) (hr : Rd L sz ya m ys) (h1 : ones ys = true) (hm : m ≤ maxLen) (hb : m * by_ ≤ 140737488355328)
    (hp : Pres ds (fun v L' => ∃ ra' cap', m ≤ cap' ∧ (m = 0 ∨ ∃ g, ra' = some ⟨g, 0, none⟩) ∧ v = .slice ra' m cap' ∧ L' = pt ra' (Row E sz m cap' ys) :: L) ms)
    (k : ∀ ra' cap', m ≤ cap' → (m = 0 ∨ ∃ g, ra' = some ⟨g, 0, none⟩) → Ev P N Kf r ms (e.put d (.slice ra' m cap')) (pt ra' (Row E sz m cap' ys) :: L)) : Ev P N Kf (⟨i, ds, rs, ⟨d, g, .ap T E sz by_ z x y⟩⟩ :: r) ms e L :=
  .genH hd hp hg (fun e' hs K kk => Sx.apn (X.get_sub hx hs) (X.get_sub hy hs) hr h1 hm hb fun ra' cap' hc => Sx.rowkey (a := ra') fun _ _ _ hk => Sx.nil (kk _ _ ⟨ra', cap', hc, hk.imp (fun h => h.2.1) id, rfl, rfl⟩))
    (fun v L' ⟨ra', cap', hc, hk, e1, e2⟩ => by subst e1; subst e2; exact k ra' cap' hc hk)
theorem fills_sub {T e' : En} (hs : sub T e') : ∀ {ps : List (Nat × Nat × X)} {z cs : List Value}, fills T z ps = some cs → fills e' z ps = some cs
  | [], _, _, h => h
  | (off, sz, x) :: l, z, cs, h => by
    unfold fills at h ⊢
    split at h
    · rename_i v hv
      rw [X.get_sub hv hs]
      split at h
      · rename_i vs hvs
        simp only [hvs]
        cases hb : (Nat.beq vs.length sz && Nat.ble (off + sz) z.length) with
        | true => rw [hb, cond_true] at h; rw [cond_true]; exact fills_sub hs h
        | false => rw [hb, cond_false] at h; cases h
      · cases h
    · cases h
/-- A slice's own new cells. -/
theorem Ev.bsH {E len : Nat} {z : List Value} {ps : List (Nat × Nat × X)} {cs : List Value} (hd : lastly i r = true) (hg : gon (e.only rs) g = true) (hf : fills (e.only rs) z ps = some cs) (hl : z.length = len * sz)
    (hp : Pres ds (fun v L' => ∃ q, v = .slice (some ⟨q, 0, none⟩) len len ∧ L' = pt (some ⟨q, 0, none⟩) (Row E sz len len cs) :: L) ms)
    (k : ∀ q, Ev P N Kf r ms (e.put d (.slice (some ⟨q, 0, none⟩) len len)) (pt (some ⟨q, 0, none⟩) (Row E sz len len cs) :: L)) : Ev P N Kf (⟨i, ds, rs, ⟨d, g, .bs E len z ps⟩⟩ :: r) ms e L :=
  .genH hd hp hg (fun e' hs K kk => Sx.bs (sz := sz) (fills_sub hs hf) hl fun q => Sx.nil (kk _ _ ⟨q, rfl, rfl⟩))
    (fun v L' ⟨q, e1, e2⟩ => by subst e1; subst e2; exact k q)
/-- New blocks. -/
theorem Ev.bxH {E : TypeId} {x : X} {u : Value} {vs : List Value} (hd : lastly i r = true) (hg : gon (e.only rs) g = true) (hx : x.get (e.only rs) = some u) (hu : cellsOf u = some vs)
    (hp : Pres ds (fun v L' => ∃ q, v = .pointer (some ⟨q, 0, none⟩) ∧ L' = pt (some ⟨q, 0, none⟩) (Blk E vs) :: L) ms)
    (k : ∀ q, Ev P N Kf r ms (e.put d (.pointer (some ⟨q, 0, none⟩))) (pt (some ⟨q, 0, none⟩) (Blk E vs) :: L)) : Ev P N Kf (⟨i, ds, rs, ⟨d, g, .bx E x⟩⟩ :: r) ms e L :=
  .genH hd hp hg (fun e' hs K kk => Sx.bx (X.get_sub hx hs) hu fun q => Sx.nil (kk _ _ ⟨q, rfl, rfl⟩))
    (fun v L' ⟨q, e1, e2⟩ => by subst e1; subst e2; exact k q)
theorem Ev.alH {E : TypeId} {z : List Value} (hd : lastly i r = true) (hg : gon (e.only rs) g = true)
    (hp : Pres ds (fun v L' => ∃ q, v = .pointer (some ⟨q, 0, none⟩) ∧ L' = pt (some ⟨q, 0, none⟩) (Blk E z) :: L) ms)
    (k : ∀ q, Ev P N Kf r ms (e.put d (.pointer (some ⟨q, 0, none⟩))) (pt (some ⟨q, 0, none⟩) (Blk E z) :: L)) : Ev P N Kf (⟨i, ds, rs, ⟨d, g, .al E z⟩⟩ :: r) ms e L :=
  .genH hd hp hg (fun e' hs K kk => Sx.al fun q => Sx.nil (kk _ _ ⟨q, rfl, rfl⟩))
    (fun v L' ⟨q, e1, e2⟩ => by subst e1; subst e2; exact k q)
/-- A store of one cell. -/
theorem Ev.stbH {x v : X} {b off : Nat} {T : TypeId} {cs ds' : List Value} {u : Value} [t : Take L (some ⟨b, 0, none⟩) (Blk T cs) F] (hd : lastly i r = true) (hg : gon (e.only rs) g = true)
    (hx : x.get (e.only rs) = some (.pointer (some ⟨b, off, none⟩))) (hv : v.get (e.only rs) = some u) (hu : cellsOf u = some [u]) (h1 : u.oneCell' = true) (hl : Nat.blt off cs.length = true) (hds : cs.set off u = ds')
    (hp : Pres ds (fun v L' => v = undef ∧ L' = pt (some ⟨b, 0, none⟩) (Blk T ds') :: F) ms)
    (k : Ev P N Kf r ms (e.put d undef) (pt (some ⟨b, 0, none⟩) (Blk T ds') :: F)) : Ev P N Kf (⟨i, ds, rs, ⟨d, g, .st x v 1⟩⟩ :: r) ms e L :=
  .genH hd hp hg (fun e' hs K kk => Sx.stb (t := t) (X.get_sub hx hs) (X.get_sub hv hs) hu h1 hl hds (Sx.nil (kk _ _ ⟨rfl, rfl⟩)))
    (fun v L' ⟨e1, e2⟩ => by subst e1; subst e2; exact k)
end
end
/- The rules' short names. -/
abbrev Ze0 := @Ev.pass
abbrev Ze1 := @Ev.stpH
abbrev Ze2 := @Ev.done
abbrev Ze3 := @Ev.fin
abbrev Ze4 := @Ev.ldbH
abbrev Ze5 := @Ev.ldbsH
end Go.Proofs.YtnbkjcmmjgkdaaaGreat
