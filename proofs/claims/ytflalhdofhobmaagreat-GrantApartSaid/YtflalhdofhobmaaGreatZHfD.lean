/-
  Parts of the proof, merged: what the statement leans on.
-/
import Derived.KernelRfl
import Derived.Test.YtflalhdofhobmaaGreatZHfC
/-
  More rules: calls that leave a part as it was; regions that draw their order, walked at the head.
-/
set_option linter.unusedVariables false
set_option linter.unusedSimpArgs false
namespace Go.Proofs.YtflalhdofhobmaaGreat
open Go
section
variable {P : Program} {N : Nat} {L M F : St}
/-- A call that leaves a part as it was. -/
theorem Fx.kept {f : FuncId} {vs : List Value} {v : Value} {a : Option Addr} {R : Option Addr → As} [t : Take L a R F] (h : Fx P f vs L (fun v' L' => v' = v ∧ L' = pt a R :: F)) : Fx P f vs L (fun v' L' => v' = v ∧ L = L') :=
  fun w0 w s => (h w0 w s).mono fun en w' ⟨v', L', he, ⟨hv, hL⟩, hS⟩ => ⟨v', L, he, ⟨hv, rfl⟩, hS.ent (by subst hL; exact Ent.of t.back)⟩
/-- What the memory that comes of a call tells. -/
theorem Fx.pure {f : FuncId} {vs : List Value} {R : Value → St → Prop} (x : Fx P f vs L R) {p : Value → St → Prop} (hp : ∀ v L', R v L' → ∀ h, holds L' h → p v L') : Fx P f vs L (fun v L' => R v L' ∧ p v L') :=
  fun w0 w s => (x w0 w s).mono fun en w' ⟨v, L', he, hR, hS⟩ => by
    obtain ⟨h, hh, _⟩ := hS.heap
    exact ⟨v, L', he, ⟨hR, hp v L' hR h hh⟩, hS⟩
/-! Ends that hold as well where more is known of the temporaries. -/
class Mono (Kf : En → St → Prop) : Prop where
  le : ∀ e e' L, sub e e' → Kf e L → Kf e' L
instance Mono.cx {c : C} {K : Kx} : Mono (fun e L => Cx P N c e K L) := ⟨fun _ _ _ hs h => Cx.less hs h⟩
instance Mono.sq {c : C} {K : Kx} : Mono (fun e L => Ksq P N c K .nm e L) := ⟨fun _ _ _ hs h => Cx.less hs h⟩
instance Mono.bl {K : Kx} {i : Nat} [m : Mono (fun e L => K .nm e L)] : Mono (fun e L => Kbl i K .nm e L) := ⟨fun e e' L hs h => m.le e e' L hs h⟩
instance Mono.lp {α : Type _} {K : Kx} {T : α → En} {S : α → St} {μ : α → Nat} {x : α} : Mono (fun e L => Klp K T S μ x .nm e L) := ⟨fun _ _ _ hs h => Klp.mono _ _ hs h⟩
instance Mono.jn {β : Type _} {K : Kx} {T : β → En} {S : β → St} : Mono (fun e L => Kjn K T S .nm e L) := ⟨fun _ _ _ hs h => Kjn.mono _ _ hs h⟩
instance Mono.kr {rs : List RV} {R : Value → St → Prop} : Mono (fun e L => Kr P N rs R .nm e L) := ⟨fun e e' L hs ⟨h1, v, L', h2, h3, h4⟩ => ⟨h1, v, L', fun fn a w0 w hr ok s => h2 fn a w0 w hr (ok.sub hs) s, h3, h4⟩⟩
/-! Only which operations are left counts, not how they are listed. -/
theorem Ev.same {Kf : En → St → Prop} {rem : List It} {ms : List (Nat × (St → Prop))} {e : En} {L : St} (h : Ev P N Kf rem ms e L) : ∀ {rem2 : List It}, (∀ x, x ∈ rem2 ↔ x ∈ rem) → Ev P N Kf rem2 ms e L := by
  induction h with
  | nil h =>
    intro rem2 hm
    cases rem2 with
    | nil => exact .nil h
    | cons x r => exact absurd ((hm x).1 (by simp)) (by simp)
  | free x hx v h k ih => exact fun hm => .free x ((hm x).2 hx) v h (ih fun y => by rw [mem_without, mem_without, hm])
  | looks x hx v Φ hΦ h k ih => exact fun hm => .looks x ((hm x).2 hx) v Φ hΦ h (ih fun y => by rw [mem_without, mem_without, hm])
  | turns x hx R h1 h2 h k ih =>
    intro rem2 hm
    refine .turns x ((hm x).2 hx) R (List.all_eq_true.2 fun y hy => List.all_eq_true.1 h1 y ?_) h2 h fun v L' hR => ih v L' hR fun y => by rw [mem_without, mem_without, hm]
    rw [mem_without] at hy ⊢
    exact ⟨(hm y).1 hy.1, hy.2⟩
def pull : Nat → List It → Option (It × List It)
  | _, [] => none
  | 0, x :: r => some (x, r)
  | n + 1, x :: r => match pull n r with
    | some (y, k) => some (y, x :: k)
    | none => none
theorem pull_mem : ∀ {n : Nat} {l : List It} {x : It} {r : List It}, pull n l = some (x, r) → ∀ y, y ∈ l ↔ y ∈ x :: r
  | 0, [], _, _, h, _ => by cases h
  | n + 1, [], _, _, h, _ => by cases h
  | 0, a :: l, x, r, h, y => by cases h; rfl
  | n + 1, a :: l, x, r, h, y => by
    simp only [pull] at h
    split at h
    · rename_i z k hz
      cases h
      have := pull_mem hz y
      simp only [List.mem_cons] at this ⊢
      rw [this]
      constructor
      · rintro (h | h | h) <;> simp [h]
      · rintro (h | h | h) <;> simp [h]
    · cases h
section
variable {Kf : En → St → Prop} {e : En} {rem rem' r : List It} {ms : List (Nat × (St → Prop))} {i ds sz : Nat} {rs : List Nat} {d : Option Nat} {g : Option (Nat × Bool)}
/-- One operation comes to the head. -/
theorem Ev.bring (j : Nat) {x : It} (h : pull j rem = some (x, r)) (k : Ev P N Kf (x :: r) ms e L) : Ev P N Kf rem ms e L := k.same fun y => pull_mem h y
/-- No two of one place. -/
def dist : List It → Bool
  | [] => true
  | x :: l => l.all (fun y => !(Nat.beq y.i x.i)) && dist l
theorem without_head {x : It} (h : r.all (fun y => !(Nat.beq y.i x.i)) = true) : without (x :: r) x.i = r := by
  unfold without
  rw [List.filter_cons]
  simp only [Nat.beq_refl, Bool.not_true, Bool.false_eq_true, if_false]
  rw [List.filter_eq_self]
  exact fun y hy => List.all_eq_true.1 h y hy
theorem dist_move {x : It} {r : List It} : ∀ {pre : List It}, dist (pre ++ x :: r) = true → dist (x :: (pre ++ r)) = true
  | [], hd => hd
  | y :: pre, hd => by
    simp only [List.cons_append, dist, Bool.and_eq_true, List.all_append, List.all_cons] at hd
    obtain ⟨⟨h1, h2, h3⟩, h4⟩ := hd
    have := dist_move h4
    simp only [List.cons_append, dist, Bool.and_eq_true, List.all_append, List.all_cons] at this ⊢
    refine ⟨⟨?_, this.1⟩, ⟨h1, h3⟩, this.2⟩
    simp only [Bool.not_eq_true'] at h2 ⊢
    cases hb : Nat.beq y.i x.i with
    | false => rfl
    | true => rw [Nat.eq_of_beq_eq_true hb] at h2; simp at h2
/-- Plain operations, in one pass; so many that cannot be told yet are passed by. -/
def pass : Nat → List It → En → Option (List It × En)
  | _, [], _ => none
  | n, x :: r, e => match stepM x e with
    | some v => match x.g.d with
      | some t => match pass n r ((t, v) :: e) with
        | some q => some q
        | none => some (r, (t, v) :: e)
      | none => match pass n r e with
        | some q => some q
        | none => some (r, e)
    | none => match n with
      | 0 => none
      | n + 1 => match pass n r e with
        | some (k, e') => some (x :: k, e')
        | none => none
theorem pass_ev : ∀ {n : Nat} {r : List It} {e : En} {rem' : List It} {e' : En}, pass n r e = some (rem', e') → ∀ pre : List It, dist (pre ++ r) = true → Ev P N Kf (pre ++ rem') ms e' L → Ev P N Kf (pre ++ r) ms e L
  | _, [], _, _, _, h, _, _, _ => by cases h
  | n, x :: r, e, rem', e', h, pre, hd, k => by
    have hd' : dist (x :: (pre ++ r)) = true := dist_move hd
    have hd2 : (pre ++ r).all (fun y => !(Nat.beq y.i x.i)) = true ∧ dist (pre ++ r) = true := by simpa [dist] using hd'
    rw [pass.eq_def] at h
    simp only at h
    have tell : ∀ {v : Value}, stepM x e = some v → Ev P N Kf (pre ++ r) ms (e.put x.g.d v) L → Ev P N Kf (pre ++ x :: r) ms e L := by
      intro v hv k
      refine Ev.same (rem := x :: (pre ++ r)) (Ev.stp (x := x) (by simp) hv ?_) fun y => by simp only [List.mem_append, List.mem_cons]; constructor <;> (rintro (h | h | h) <;> simp [h])
      rw [without_head hd2.1]
      exact k
    split at h
    · rename_i v hv
      refine tell hv ?_
      split at h
      · rename_i t ht
        rw [ht]
        split at h
        · rename_i q hq
          cases h
          exact pass_ev hq pre hd2.2 k
        · cases h
          exact k
      · rename_i ht
        rw [ht]
        split at h
        · rename_i q hq
          cases h
          exact pass_ev hq pre hd2.2 k
        · cases h
          exact k
    · cases n with
      | zero => cases h
      | succ n =>
        simp only at h
        split at h
        · rename_i kk ee hq
          cases h
          have := pass_ev hq (pre ++ [x]) (by simpa using hd) (by simpa using k)
          simpa using this
        · cases h
theorem Ev.pass (n : Nat) {e' : En} (h : Proofs.YtflalhdofhobmaaGreat.pass n rem e = some (rem', e')) (hd : dist rem = true) (k : Ev P N Kf rem' ms e' L) : Ev P N Kf rem ms e L := pass_ev h [] hd k
/-- One plain operation at the head. -/
theorem Ev.stpH {x : It} {v : Value} {e' : En} (hd : dist (x :: r) = true) (h : stepM x e = some v) (he : (match x.g.d with | some t => (t, v) :: e | none => e) = e') (k : Ev P N Kf r ms e' L) : Ev P N Kf (x :: r) ms e L := by
  refine Ev.stp (x := x) (by simp) h ?_
  rw [without_head (by simp only [dist, Bool.and_eq_true] at hd; exact hd.1)]
  subst he
  cases hx : x.g.d with
  | none => rw [hx] at k; exact k
  | some t => rw [hx] at k; exact k
/-- What is known may be less. -/
theorem only_sub {T e : En} (hs : sub T e) (rs : List Nat) : sub (T.only rs) (e.only rs) := by
  intro t u h
  have ⟨hm, hu⟩ := only_get h
  have hu' := hs t u hu
  clear h hu hs
  induction rs with
  | nil => cases hm
  | cons a r ih =>
    unfold En.only
    by_cases hat : a = t
    · subst hat
      rw [hu']
      simp [En.get]
    · have hm' : t ∈ r := by
        rcases List.mem_cons.1 hm with h | h
        · exact absurd h.symm hat
        · exact h
      have hb : Nat.beq a t = false := by
        cases hb : Nat.beq a t with
        | false => rfl
        | true => exact absurd (Nat.eq_of_beq_eq_true hb) hat
      split
      · simp only [En.get, hb, cond_false]; exact ih hm'
      · exact ih hm'
theorem sub.trans {a b c : En} (h : sub a b) (k : sub b c) : sub a c := fun i v x => k i v (h i v x)
theorem sub.put {a b : En} (h : sub a b) (d : Option Nat) (v : Value) : sub (a.put d v) (b.put d v) := by
  intro i u hi
  cases d with
  | none => exact h i u hi
  | some t =>
    simp only [En.put, En.get] at hi ⊢
    cases hb : Nat.beq t i with
    | true => simp only [hb, cond_true] at hi ⊢; exact hi
    | false => simp only [hb, cond_false] at hi ⊢; exact h i u hi
theorem Ev.less {T : En} (hK : ∀ e e' L, sub e e' → Kf e L → Kf e' L) (h : Ev P N Kf rem ms T L) : ∀ {e : En}, sub T e → Ev P N Kf rem ms e L := by
  induction h with
  | nil h => exact fun hs => .nil (hK _ _ _ hs h)
  | free x hx v h k ih => exact fun hs => .free x hx v (fun L e' he => h L e' ((only_sub hs _).trans he)) (ih (hs.put _ _))
  | looks x hx v Φ hΦ h k ih => exact fun hs => .looks x hx v Φ hΦ (fun M hM e' he => h M hM e' ((only_sub hs _).trans he)) (ih (hs.put _ _))
  | turns x hx R h1 h2 h k ih => exact fun hs => .turns x hx R h1 h2 (fun e' he => h e' ((only_sub hs _).trans he)) fun v L' hR => ih v L' hR (hs.put _ _)
theorem sub_learn {t : Nat} {p q : Value} (h : e.get t = some p) (hq : p = q) : sub ((t, q) :: e) e := by
  subst hq
  intro i u hi
  simp only [En.get] at hi
  cases hb : Nat.beq t i with
  | true => rw [hb, cond_true] at hi; rw [← Nat.eq_of_beq_eq_true hb, h]; exact hi
  | false => rw [hb, cond_false] at hi; exact hi
/-- A value known otherwise. -/
theorem Ev.learn [hK : Mono Kf] (t : Nat) {p q : Value} (h : e.get t = some p) (hq : p = q) (k : Ev P N Kf rem ms ((t, q) :: e) L) : Ev P N Kf rem ms e L := Ev.less hK.le k (sub_learn h hq)
theorem Ev.yes [hK : Mono Kf] (t : Nat) {p : Bool} (h : e.get t = some (.bool p)) (hp : p = true) (k : Ev P N Kf rem ms ((t, .bool true) :: e) L) : Ev P N Kf rem ms e L := .learn t h (by rw [hp]) k
theorem Ev.no [hK : Mono Kf] (t : Nat) {p : Bool} (h : e.get t = some (.bool p)) (hp : p = false) (k : Ev P N Kf rem ms ((t, .bool false) :: e) L) : Ev P N Kf rem ms e L := .learn t h (by rw [hp]) k
theorem Ev.ifb [hK : Mono Kf] (t : Nat) {p : Bool} (h : e.get t = some (.bool p)) (h1 : p = true → Ev P N Kf rem ms ((t, .bool true) :: e) L) (h2 : p = false → Ev P N Kf rem ms ((t, .bool false) :: e) L) : Ev P N Kf rem ms e L := by
  cases p
  · exact .no t h rfl (h2 rfl)
  · exact .yes t h rfl (h1 rfl)
theorem Ev.fin (h : Kf e L) : Ev P N Kf [] ms e L := .nil h
/-- What is known, but for what is to be written; told cell by cell. -/
def clr (ds : List Nat) : En → Option En
  | [] => some []
  | (i, v) :: r => match clr ds r with
    | some q => bif ds.any (Nat.beq i) then some q else some ((i, v) :: q)
    | none => none
def dsts : List It → List Nat
  | [] => []
  | x :: r => match x.g.d with | some d => d :: dsts r | none => dsts r
theorem clr_any {l : List It} {i : Nat} : (dsts l).any (Nat.beq i) = true → ∃ y ∈ l, y.g.d = some i := by
  induction l with
  | nil => intro h; cases h
  | cons x r ih =>
    intro h
    unfold dsts at h
    split at h
    · rename_i d hd
      simp only [List.any_cons, Bool.or_eq_true] at h
      rcases h with h | h
      · exact ⟨x, by simp, by rw [hd, Nat.eq_of_beq_eq_true h]⟩
      · obtain ⟨y, hy, he⟩ := ih h; exact ⟨y, by simp [hy], he⟩
    · obtain ⟨y, hy, he⟩ := ih h; exact ⟨y, by simp [hy], he⟩
theorem clr_eq {l : List It} : ∀ {e q : En}, clr (dsts l) e = some q → q = e.clear l
  | [], q, h => by cases h; rfl
  | (i, v) :: r, q, h => by
    simp only [clr] at h
    split at h
    · rename_i q' hq
      have ih := clr_eq hq
      subst ih
      unfold En.clear
      rw [List.filter_cons]
      cases hb : (dsts l).any (Nat.beq i) with
      | true =>
        rw [hb, cond_true] at h; cases h
        obtain ⟨y, hy, he⟩ := clr_any hb
        rw [if_neg]
        · rfl
        · intro hh
          have := List.all_eq_true.1 hh y hy
          rw [he] at this; simp at this
      | false =>
        rw [hb, cond_false] at h; cases h
        rw [if_pos]
        · rfl
        · refine List.all_eq_true.2 fun y hy => ?_
          cases hyd : y.g.d with
          | none => rfl
          | some d =>
            simp only [Bool.not_eq_true']
            cases hdi : Nat.beq d i with
            | false => rfl
            | true =>
              exfalso
              rw [Nat.eq_of_beq_eq_true hdi] at hyd
              have : (dsts l).any (Nat.beq i) = true := by
                clear hb hq
                induction l with
                | nil => cases hy
                | cons x l ih =>
                  unfold dsts
                  rcases List.mem_cons.1 hy with rfl | hy
                  · rw [hyd]; simp
                  · split
                    · simp only [List.any_cons, Bool.or_eq_true]; exact .inr (ih hy)
                    · exact ih hy
              rw [hb] at this; cases this
    · cases h
theorem Cx.ordc {l : List It} {e q : En} {d : C} {K : Kx} (hq : clr (dsts l) e = some q) (hc : chkO l = true) (h : Ev P N (fun fin L => Cx P N d fin K L) l [] q L) : Cx P N (.rd l) e (Ksq P N d K) L := by
  refine Cx.ord hc ?_
  rw [← clr_eq hq]
  exact h
/-- At the end of a block, of a loop's body, of a function. -/
theorem Cx.orde {l : List It} {e q : En} {K : Kx} [hK : Mono (fun e L => K .nm e L)] (hq : clr (dsts l) e = some q) (hc : chkO l = true) (h : Ev P N (fun fin L => K .nm fin L) l [] q L) : Cx P N (.rd l) e K L := by
  rw [clr_eq hq] at h
  simp only [chkO, Bool.and_eq_true] at hc
  refine Cx.rd ?_
  refine ev_run (Kf := Krg K) hc.1 hc.2.1 hc.2.2 hK.le l.length l [] (e.clear l) L h [] l e rfl (fun _ h => h) (fun x => by simp) (fun _ h => by cases h) (fun _ h => by cases h) (fun y hy d hyd => ?_) (fun t u ht _ => clear_sub ht)
  cases hg : (e.clear l).get d with
  | none => rfl
  | some u => exact absurd hyd ((clear_get hg).1 y hy)
/-- At the head: whatever looks. -/
theorem Ev.lookH {s : S} {v : Value} (Φ : St → Prop) (hd : dist (⟨i, ds, rs, ⟨d, g, s⟩⟩ :: r) = true) (hg : gon (e.only rs) g = true) (hΦ : Φ L) (h : ∀ M, Φ M → ∀ e', sub (e.only rs) e' → Sc P N ⟨d, none, s⟩ e' v M)
    (k : Ev P N Kf r ((i, Φ) :: ms) (e.put d v) L) : Ev P N Kf (⟨i, ds, rs, ⟨d, g, s⟩⟩ :: r) ms e L :=
  .looks ⟨i, ds, rs, ⟨d, g, s⟩⟩ (by simp) v Φ hΦ (fun M hM e' hs => .gon hg hs (h M hM e' hs)) (by
    rw [show without (⟨i, ds, rs, ⟨d, g, s⟩⟩ :: r) i = r from without_head (x := ⟨i, ds, rs, ⟨d, g, s⟩⟩) (by simp only [dist, Bool.and_eq_true] at hd; exact hd.1)]
    exact k)
/-- A load. -/
theorem Ev.ldH {x : X} {n b off : Nat} {ag : Bool} {vs : List Value} {v : Value} (hd : dist (⟨i, ds, rs, ⟨d, g, .ld x n ag⟩⟩ :: r) = true) (hg : gon (e.only rs) g = true) (hx : x.get (e.only rs) = some (.pointer (some ⟨b, off, none⟩))) (hh : Has L b off vs) (hv : ldv n ag vs = some v)
    (k : Ev P N Kf r ((i, fun M => Has M b off vs) :: ms) (e.put d v) L) : Ev P N Kf (⟨i, ds, rs, ⟨d, g, .ld x n ag⟩⟩ :: r) ms e L :=
  .lookH (fun M => Has M b off vs) hd hg hh (fun M hM e' hs K k => Sx.ld (X.get_sub hx hs) hM hv (Sx.nil k)) k
theorem Ev.ldbH {x : X} {b off : Nat} {T : TypeId} {cs : List Value} {v : Value} [t : Take L (some ⟨b, 0, none⟩) (Blk T cs) F] (hd : dist (⟨i, ds, rs, ⟨d, g, .ld x 1 false⟩⟩ :: r) = true) (hg : gon (e.only rs) g = true) (hx : x.get (e.only rs) = some (.pointer (some ⟨b, off, none⟩)))
    (hv : cs[off]? = some v) (k : Ev P N Kf r ((i, fun M => Has M b off [v]) :: ms) (e.put d v) L) : Ev P N Kf (⟨i, ds, rs, ⟨d, g, .ld x 1 false⟩⟩ :: r) ms e L :=
  .ldH hd hg hx ((Has.blk (T := T) (cs := cs) (n := 1)).one (take_one hv)) rfl k
theorem Ev.ldrH {x : X} {b off E sz n cap : Nat} {xs : List Value} {v : Value} [t : Take L (some ⟨b, 0, none⟩) (Row E sz n cap xs) F] (hd : dist (⟨i, ds, rs, ⟨d, g, .ld x 1 false⟩⟩ :: r) = true) (hg : gon (e.only rs) g = true) (hx : x.get (e.only rs) = some (.pointer (some ⟨b, off, none⟩)))
    (hv : xs[off]? = some v) (k : Ev P N Kf r ((i, fun M => Has M b off [v]) :: ms) (e.put d v) L) : Ev P N Kf (⟨i, ds, rs, ⟨d, g, .ld x 1 false⟩⟩ :: r) ms e L :=
  .ldH hd hg hx ((Has.row (E := E) (sz := sz) (n := n) (cap := cap) (xs := xs) (m := 1)).one (take_one hv)) rfl k
theorem Ev.ldbsH {x : X} {b off n : Nat} {T : TypeId} {cs : List Value} [t : Take L (some ⟨b, 0, none⟩) (Blk T cs) F] (hd : dist (⟨i, ds, rs, ⟨d, g, .ld x n true⟩⟩ :: r) = true) (hg : gon (e.only rs) g = true) (hx : x.get (e.only rs) = some (.pointer (some ⟨b, off, none⟩)))
    (hn : Nat.ble (off + n) cs.length = true) (k : Ev P N Kf r ((i, fun M => Has M b off ((cs.drop off).take n)) :: ms) (e.put d (.agg ((cs.drop off).take n).toArray)) L) : Ev P N Kf (⟨i, ds, rs, ⟨d, g, .ld x n true⟩⟩ :: r) ms e L := by
  refine .ldH hd hg hx (Has.blk (T := T) (cs := cs) (n := n)) ?_ k
  have h1 := Nat.le_of_ble_eq_true hn
  have h2 : ((cs.drop off).take n).length = n := by simp; omega
  simp [ldv, h2]
/-- A plain operation that asks for something. -/
theorem Ev.pvH {s : S} {φ : Prop} {v : Value} (hd : dist (⟨i, ds, rs, ⟨d, g, s⟩⟩ :: r) = true) (hg : gon (e.only rs) g = true) (hp : Proofs.YtflalhdofhobmaaGreat.pv (e.only rs) s = some (φ, v)) (hφ : φ) (k : Ev P N Kf r ms (e.put d v) L) :
    Ev P N Kf (⟨i, ds, rs, ⟨d, g, s⟩⟩ :: r) ms e L :=
  .free ⟨i, ds, rs, ⟨d, g, s⟩⟩ (by simp) v (fun L e' hs => .gon hg hs (.pv hp hφ hs)) (by
    rw [without_head (x := ⟨i, ds, rs, ⟨d, g, s⟩⟩) (by simp only [dist, Bool.and_eq_true] at hd; exact hd.1)]
    exact k)
/-- A call that leaves what is known. -/
theorem Ev.cakH {f : FuncId} {xs : List X} {vs : List Value} {v : Value} (hd : dist (⟨i, ds, rs, ⟨d, g, .ca f xs⟩⟩ :: r) = true) (hg : gon (e.only rs) g = true) (hx : gets (e.only rs) xs = some vs) (hf : Fx P f vs L (fun v' L' => v' = v ∧ L = L'))
    (k : Ev P N Kf r ((i, fun M => Fx P f vs M (fun v' L' => v' = v ∧ M = L')) :: ms) (e.put d v) L) : Ev P N Kf (⟨i, ds, rs, ⟨d, g, .ca f xs⟩⟩ :: r) ms e L :=
  .lookH (fun M => Fx P f vs M (fun v' L' => v' = v ∧ M = L')) hd hg hf (fun M hM e' hs K k => Sx.ca (gets_sub hs hx) hM fun v' L' h => by
    obtain ⟨rfl, rfl⟩ := h
    exact Sx.nil k) k
theorem Se.gon {T e' : En} {s : S} {R : Value → St → Prop} (hg : Proofs.YtflalhdofhobmaaGreat.gon T g = true) (hs : sub T e') (h : Se P N ⟨d, none, s⟩ e' L R) : Se P N ⟨d, g, s⟩ e' L R := by
  unfold Proofs.YtflalhdofhobmaaGreat.gon at hg
  split at hg
  · exact h
  · rename_i t b
    split at hg
    · rename_i c hc
      have hcb : c = b := by simpa using hg
      subst hcb
      exact fun K k => Sx.on (hs _ _ hc) (h K k)
    · cases hg
/-- What is left depends on it. -/
def lastly (i : Nat) (r : List It) : Bool := r.all fun y => !(Nat.beq y.i i) && bit y.ds i
theorem lastly_all {i : Nat} {r : List It} (h : lastly i r = true) : r.all (fun y => bit y.ds i) = true ∧ r.all (fun y => !(Nat.beq y.i i)) = true := by
  simp only [lastly, Bool.and_eq_true, List.all_eq_true] at h ⊢
  exact ⟨fun y hy => (h y hy).2, fun y hy => (h y hy).1⟩
/-- What has looked is ahead of it, or what it came to holds still. -/
inductive Pres (ds : Nat) (R : Value → St → Prop) : List (Nat × (St → Prop)) → Prop
  | nil : Pres ds R []
  | dep {m : Nat} {Φ : St → Prop} {l : List (Nat × (St → Prop))} (h : bit ds m = true) (k : Pres ds R l) : Pres ds R ((m, Φ) :: l)
  | keep {m : Nat} {Φ : St → Prop} {l : List (Nat × (St → Prop))} (h : ∀ v L', R v L' → Φ L') (k : Pres ds R l) : Pres ds R ((m, Φ) :: l)
theorem Pres.all {ds : Nat} {R : Value → St → Prop} {ms : List (Nat × (St → Prop))} (h : Pres ds R ms) : ∀ q ∈ ms, bit ds q.1 = true ∨ ∀ v L', R v L' → q.2 L' := by
  induction h with
  | nil => intro q hq; cases hq
  | dep h k ih =>
    intro q hq
    rcases List.mem_cons.1 hq with rfl | hq
    · exact .inl h
    · exact ih q hq
  | keep h k ih =>
    intro q hq
    rcases List.mem_cons.1 hq with rfl | hq
    · exact .inr h
    · exact ih q hq
/-- All of them ahead of it. -/
theorem Pres.deps {ds : Nat} {R : Value → St → Prop} : ∀ {ms : List (Nat × (St → Prop))}, (ms.all fun q => bit ds q.1) = true → Pres ds R ms
  | [], _ => .nil
  | q :: l, h => by
    simp only [List.all_cons, Bool.and_eq_true] at h
    exact .dep h.1 (Pres.deps h.2)
/-- An operation that turns what is known. -/
theorem Ev.genH {s : S} {R : Value → St → Prop} (hd : lastly i r = true) (hp : Pres ds R ms) (hg : gon (e.only rs) g = true) (h : ∀ e', sub (e.only rs) e' → Se P N ⟨d, none, s⟩ e' L R)
    (k : ∀ v L', R v L' → Ev P N Kf r ms (e.put d v) L') : Ev P N Kf (⟨i, ds, rs, ⟨d, g, s⟩⟩ :: r) ms e L := by
  have hw := without_head (x := ⟨i, ds, rs, ⟨d, g, s⟩⟩) (lastly_all hd).2
  refine .turns ⟨i, ds, rs, ⟨d, g, s⟩⟩ (by simp) R ?_ hp.all (fun e' hs => .gon hg hs (h e' hs)) fun v L' hR => ?_
  · rw [show without (_ :: r) i = r from hw]; exact (lastly_all hd).1
  · rw [show without (_ :: r) i = r from hw]; exact k v L' hR
/-- A call that turns what is known. -/
theorem Ev.caH {f : FuncId} {xs : List X} {vs : List Value} {R : Value → St → Prop} (hd : lastly i r = true) (hg : gon (e.only rs) g = true) (hx : gets (e.only rs) xs = some vs) (hf : Fx P f vs L R) (hp : Pres ds R ms)
    (k : ∀ v L', R v L' → Ev P N Kf r ms (e.put d v) L') : Ev P N Kf (⟨i, ds, rs, ⟨d, g, .ca f xs⟩⟩ :: r) ms e L :=
  .genH hd hp hg (fun e' hs K kk => Sx.ca (gets_sub hs hx) hf fun v' L' h => Sx.nil (kk v' L' h)) k
/-- An append to a row. -/
theorem Ev.apH {T E sz by_ : Nat} {z : List Value} {x y : X} {ra ya : Option Addr} {n cap m c : Nat} {xs ys : List Value} [t : Take L ra (Row E sz n cap xs) F] (hd : lastly i r = true) (hg : gon (e.only rs) g = true)
    (hx : x.get (e.only rs) = some (.slice ra n cap)) (hy : y.get (e.only rs) = some (.slice ya m c)) (hr : Rd L sz ya m ys) (h1 : ones ys = true) (hm : n + m ≤ maxLen) (hb : (n + m) * by_ ≤ 140737488355328)
    (hp : Pres ds (fun v L' => ∃ ra' cap', n + m ≤ cap' ∧ (n + m = 0 ∨ ∃ g, ra' = some ⟨g, 0, none⟩) ∧ v = .slice ra' (n + m) cap' ∧ L' = pt ra' (Row E sz (n + m) cap' (xs ++ ys)) :: F) ms)
    (k : ∀ ra' cap', n + m ≤ cap' → (n + m = 0 ∨ ∃ g, ra' = some ⟨g, 0, none⟩) → Ev P N Kf r ms (e.put d (.slice ra' (n + m) cap')) (pt ra' (Row E sz (n + m) cap' (xs ++ ys)) :: F)) : Ev P N Kf (⟨i, ds, rs, ⟨d, g, .ap T E sz by_ z x y⟩⟩ :: r) ms e L :=
  .genH hd hp hg (fun e' hs K kk => Sx.ap (t := t) (X.get_sub hx hs) (X.get_sub hy hs) hr h1 hm hb fun ra' cap' hc => Sx.rowkey (a := ra') fun _ _ _ hk => Sx.nil (kk _ _ ⟨ra', cap', hc, hk.imp (fun h => h.2.1) id, rfl, rfl⟩))
    (fun v L' ⟨ra', cap', hc, hk, e1, e2⟩ => by subst e1; subst e2; exact k ra' cap' hc hk)
theorem fills_sub {T e' : En} (hs : sub T e') : ∀ {ps : List (Nat × Nat × X)} {z cs : List Value}, fills T z ps = some cs → fills e' z ps = some cs
  | [], _, _, h => h
  | (off, sz, x) :: l, z, cs, h => by
    unfold fills at h ⊢
    split at h
    · rename_i v hv
      rw [X.get_sub hv hs]
      split at h
      · rename_i vs hvs
        simp only [hvs]
        cases hb : (Nat.beq vs.length sz && Nat.ble (off + sz) z.length) with
        | true => rw [hb, cond_true] at h; rw [cond_true]; exact fills_sub hs h
        | false => rw [hb, cond_false] at h; cases h
      · cases h
    · cases h
/-- A slice's own new cells. -/
theorem Ev.bsH {E len : Nat} {z : List Value} {ps : List (Nat × Nat × X)} {cs : List Value} (hd : lastly i r = true) (hg : gon (e.only rs) g = true) (hf : fills (e.only rs) z ps = some cs) (hl : z.length = len * sz)
    (hp : Pres ds (fun v L' => ∃ q, v = .slice (some ⟨q, 0, none⟩) len len ∧ L' = pt (some ⟨q, 0, none⟩) (Row E sz len len cs) :: L) ms)
    (k : ∀ q, Ev P N Kf r ms (e.put d (.slice (some ⟨q, 0, none⟩) len len)) (pt (some ⟨q, 0, none⟩) (Row E sz len len cs) :: L)) : Ev P N Kf (⟨i, ds, rs, ⟨d, g, .bs E len z ps⟩⟩ :: r) ms e L :=
  .genH hd hp hg (fun e' hs K kk => Sx.bs (sz := sz) (fills_sub hs hf) hl fun q => Sx.nil (kk _ _ ⟨q, rfl, rfl⟩))
    (fun v L' ⟨q, e1, e2⟩ => by subst e1; subst e2; exact k q)
/-- New blocks. -/
theorem Ev.bxH {E : TypeId} {x : X} {u : Value} {vs : List Value} (hd : lastly i r = true) (hg : gon (e.only rs) g = true) (hx : x.get (e.only rs) = some u) (hu : cellsOf u = some vs)
    (hp : Pres ds (fun v L' => ∃ q, v = .pointer (some ⟨q, 0, none⟩) ∧ L' = pt (some ⟨q, 0, none⟩) (Blk E vs) :: L) ms)
    (k : ∀ q, Ev P N Kf r ms (e.put d (.pointer (some ⟨q, 0, none⟩))) (pt (some ⟨q, 0, none⟩) (Blk E vs) :: L)) : Ev P N Kf (⟨i, ds, rs, ⟨d, g, .bx E x⟩⟩ :: r) ms e L :=
  .genH hd hp hg (fun e' hs K kk => Sx.bx (X.get_sub hx hs) hu fun q => Sx.nil (kk _ _ ⟨q, rfl, rfl⟩))
    (fun v L' ⟨q, e1, e2⟩ => by subst e1; subst e2; exact k q)
/-- A store of one cell. -/
theorem Ev.stbH {x v : X} {b off : Nat} {T : TypeId} {cs ds' : List Value} {u : Value} [t : Take L (some ⟨b, 0, none⟩) (Blk T cs) F] (hd : lastly i r = true) (hg : gon (e.only rs) g = true)
    (hx : x.get (e.only rs) = some (.pointer (some ⟨b, off, none⟩))) (hv : v.get (e.only rs) = some u) (hu : cellsOf u = some [u]) (h1 : u.oneCell' = true) (hl : Nat.blt off cs.length = true) (hds : cs.set off u = ds')
    (hp : Pres ds (fun v L' => v = undef ∧ L' = pt (some ⟨b, 0, none⟩) (Blk T ds') :: F) ms)
    (k : Ev P N Kf r ms (e.put d undef) (pt (some ⟨b, 0, none⟩) (Blk T ds') :: F)) : Ev P N Kf (⟨i, ds, rs, ⟨d, g, .st x v 1⟩⟩ :: r) ms e L :=
  .genH hd hp hg (fun e' hs K kk => Sx.stb (t := t) (X.get_sub hx hs) (X.get_sub hv hs) hu h1 hl hds (Sx.nil (kk _ _ ⟨rfl, rfl⟩)))
    (fun v L' ⟨e1, e2⟩ => by subst e1; subst e2; exact k)
end
end
/- The rules' short names. -/
abbrev Ze0 := @Ev.pass
abbrev Ze1 := @Ev.stpH
abbrev Ze2 := @Ev.done
abbrev Ze3 := @Ev.fin
abbrev Ze4 := @Ev.ldbH
abbrev Ze5 := @Ev.ldbsH
theorem ge {A B : Prop} (k : B) (h : Wrap B → A := by intro r; (repeat (first|refine Ze0 0 rfl (by kernel_rfl) ?_|refine Ze1 (by kernel_rfl) rfl rfl ?_|refine Ze2 ?_|refine Ze3 ?_|refine Ze4 (by kernel_rfl) rfl rfl (by rfl) ?_|refine Ze5 (by kernel_rfl) rfl rfl rfl ?_|refine Ev.pvH (by kernel_rfl) rfl rfl ⟨by omega, by omega⟩ ?_|refine Ev.pvH (by kernel_rfl) rfl rfl (by decide) ?_|fail)); exact r.out) : A := h ⟨k⟩
end Go.Proofs.YtflalhdofhobmaaGreat

/-
  Fields of words: bits' functions and word's heads.
-/
set_option linter.unusedVariables false
set_option linter.unusedSimpArgs false
namespace Go.Proofs.YtflalhdofhobmaaGreat
open Go
attribute [local irreducible] Sx Cx Rx Fx Krg Ksq Kbl Klp Kr
/-- A word as a value. -/
abbrev wd (n : Nat) : Value := .int .u64 (n : Int)
theorem bv64 (a : Nat) : BitVec.ofInt 64 (a : Int) = BitVec.ofNat 64 a := by
  apply BitVec.eq_of_toNat_eq
  simp [BitVec.toNat_ofInt]
theorem wrap64 {n : Nat} (h : n < 18446744073709551616) : IntKind.u64.wrap (n : Int) = (n : Int) := wu64 (by omega) (by omega)
theorem and64 (a b : Nat) (ha : a < 18446744073709551616) (hb : b < 18446744073709551616) : bitsOf .and .u64 a b = ((a &&& b : Nat) : Int) := by
  show IntKind.u64.wrap (((BitVec.ofInt 64 (a : Int) &&& BitVec.ofInt 64 (b : Int)).toNat : Nat) : Int) = _
  rw [bv64, bv64, BitVec.toNat_and, BitVec.toNat_ofNat, BitVec.toNat_ofNat, Nat.mod_eq_of_lt ha, Nat.mod_eq_of_lt hb]
  exact wrap64 (Nat.lt_of_le_of_lt Nat.and_le_left ha)
theorem or64 (a b : Nat) (ha : a < 18446744073709551616) (hb : b < 18446744073709551616) : bitsOf .or .u64 a b = ((a ||| b : Nat) : Int) := by
  show IntKind.u64.wrap (((BitVec.ofInt 64 (a : Int) ||| BitVec.ofInt 64 (b : Int)).toNat : Nat) : Int) = _
  rw [bv64, bv64, BitVec.toNat_or, BitVec.toNat_ofNat, BitVec.toNat_ofNat, Nat.mod_eq_of_lt ha, Nat.mod_eq_of_lt hb]
  exact wrap64 (Nat.or_lt_two_pow (n := 64) ha hb)
theorem andNot64 (a b c : Nat) (hc : c < 18446744073709551616) (h : ∀ i, i < 64 → c.testBit i = (a.testBit i && !b.testBit i)) : bitsOf .andNot .u64 a b = (c : Int) := by
  show IntKind.u64.wrap (((BitVec.ofInt 64 (a : Int) &&& ~~~(BitVec.ofInt 64 (b : Int))).toNat : Nat) : Int) = _
  have e : BitVec.ofNat 64 a &&& ~~~(BitVec.ofNat 64 b) = BitVec.ofNat 64 c := by
    apply BitVec.eq_of_getLsbD_eq
    intro i hi
    rw [BitVec.getLsbD_and, BitVec.getLsbD_not, BitVec.getLsbD_ofNat, BitVec.getLsbD_ofNat, BitVec.getLsbD_ofNat, h i hi]
    simp [hi]
  rw [bv64, bv64, e, BitVec.toNat_ofNat, Nat.mod_eq_of_lt hc]
  exact wrap64 hc
theorem pow64 {a : Nat} (h : a ≤ 63) : (2 : Nat) ^ a < 18446744073709551616 := Nat.lt_of_le_of_lt (Nat.pow_le_pow_right (by omega) h) (by decide)
section
variable {L F : St}
theorem bitsField (a w : Nat) (h : a + w ≤ 64) : Fx Tryz.prog 225 [.int .i64 a, .int .i64 w] L (fun v L' => v = .bool true ∧ L = L') := by
  refine Fx.mk Tryz.func225 k225 (Nat.le_of_ble_eq_true rfl) ?_
  dsimp only [c225, envOf, Nat.reduceAdd]
  refine go ?_
  iterate 3 (try (refine Sx.gyes rfl (decide_eq_true (by omega)) ?_; refine go ?_))
  rw [w64 (n := 64 - (w : Int)) (by omega) (by omega), decide_eq_true (show (a : Int) ≤ 64 - w by omega)]
  exact Kr.one (.inr rfl) rfl (Ent.refl _) ⟨rfl, rfl⟩
theorem bitsMask (w : Nat) (h : w ≤ 63) : Fx Tryz.prog 226 [.int .i64 w] L (fun v L' => v = wd (2 ^ w - 1) ∧ L = L') := by
  refine Fx.mk Tryz.func226 k226 (Nat.le_of_ble_eq_true rfl) ?_
  dsimp only [c226, envOf, Nat.reduceAdd]
  have hp := pow64 h
  have h1 : 1 ≤ 2 ^ w := Nat.one_le_two_pow
  refine go ?_
  have e1 : (bif true then (if (w : Int) < 0 then (0 : Int) else (w : Int)) else (if (0 : Int) < (w : Int) then (0 : Int) else (w : Int))) = w := by
    rw [cond_true, if_neg (by omega)]
  have e2 : (bif false then (if (w : Int) < 64 then (64 : Int) else (w : Int)) else (if (64 : Int) < (w : Int) then (64 : Int) else (w : Int))) = w := by
    rw [cond_false, if_neg (by omega)]
  rw [e1, e2]
  refine Sx.pv rfl (by omega) ?_
  have e3 : min (w : Int).toNat IntKind.u64.bits = w := by rw [Int.toNat_natCast]; exact Nat.min_eq_left (by show w ≤ 64; omega)
  rw [e3, show (1 : Int) * 2 ^ w = ((2 ^ w : Nat) : Int) by push_cast; omega, wrap64 hp]
  refine go ?_
  rw [show ((2 ^ w : Nat) : Int) - 1 = ((2 ^ w - 1 : Nat) : Int) by omega, wrap64 (by omega)]
  exact Kr.one (.inr rfl) rfl (Ent.refl _) ⟨rfl, rfl⟩
theorem bitsGet (x a w : Nat) (hx : x < 18446744073709551616) (h : a + w ≤ 64) (hw : w ≤ 63) : Fx Tryz.prog 170 [wd x, .int .i64 a, .int .i64 w] L (fun v L' => v = wd (x / 2 ^ a % 2 ^ w) ∧ L = L') := by
  refine Fx.mk Tryz.func170 k170 (Nat.le_of_ble_eq_true rfl) ?_
  dsimp only [c170, envOf, Nat.reduceAdd]
  have hp := pow64 hw
  have h1 : 1 ≤ 2 ^ w := Nat.one_le_two_pow
  refine go ?_
  refine Sx.ca rfl (bitsField a w h) ?_
  rintro v L' ⟨rfl, rfl⟩
  refine go ?_
  refine Cx.ordc rfl (by kernel_rfl) ?_
  repeat' (first|refine Ze0 0 rfl (by kernel_rfl) ?_|refine Ze1 (by kernel_rfl) rfl rfl ?_|refine Ze2 ?_|refine Ze3 ?_|refine Ze4 (by kernel_rfl) rfl rfl (by rfl) ?_|refine Ze5 (by kernel_rfl) rfl rfl rfl ?_)
  refine Ev.pvH (by kernel_rfl) rfl rfl (by omega) ?_
  have e3 : min (a : Int).toNat IntKind.u64.bits = a := by rw [Int.toNat_natCast]; exact Nat.min_eq_left (by show a ≤ 64; omega)
  have e4 : (x : Int).fdiv (2 ^ a) = ((x / 2 ^ a : Nat) : Int) := by
    rw [show (2 : Int) ^ a = ((2 ^ a : Nat) : Int) by push_cast; rfl, Int.fdiv_eq_ediv_of_nonneg _ (Int.natCast_nonneg _)]; rfl
  rw [e3, e4]
  repeat' (first|refine Ze0 0 rfl (by kernel_rfl) ?_|refine Ze1 (by kernel_rfl) rfl rfl ?_|refine Ze2 ?_|refine Ze3 ?_|refine Ze4 (by kernel_rfl) rfl rfl (by rfl) ?_|refine Ze5 (by kernel_rfl) rfl rfl rfl ?_)
  refine Ev.cakH (by kernel_rfl) rfl rfl (bitsMask w hw) ?_
  repeat' (first|refine Ze0 0 rfl (by kernel_rfl) ?_|refine Ze1 (by kernel_rfl) rfl rfl ?_|refine Ze2 ?_|refine Ze3 ?_|refine Ze4 (by kernel_rfl) rfl rfl (by rfl) ?_|refine Ze5 (by kernel_rfl) rfl rfl rfl ?_)
  rw [and64 _ _ (Nat.lt_of_le_of_lt (Nat.div_le_self _ _) hx) (by omega), Nat.and_two_pow_sub_one_eq_mod]
  refine go ?_
  exact Kr.one (.inr rfl) rfl (Ent.refl _) ⟨rfl, rfl⟩
theorem bitsFits (x w : Nat) (hx : x < 2 ^ w) (hw : w ≤ 63) : Fx Tryz.prog 260 [wd x, .int .i64 w] L (fun v L' => v = .bool true ∧ L = L') := by
  refine Fx.mk Tryz.func260 k260 (Nat.le_of_ble_eq_true rfl) ?_
  dsimp only [c260, envOf, Nat.reduceAdd]
  refine go ?_
  refine Sx.ca rfl (bitsMask w hw) ?_
  rintro v L' ⟨rfl, rfl⟩
  refine go ?_
  rw [andNot64 x (2 ^ w - 1) 0 (by omega) (fun i hi => by
    rw [Nat.zero_testBit, Nat.testBit_two_pow_sub_one]
    by_cases hiw : i < w
    · simp [hiw]
    · rw [Nat.testBit_lt_two_pow (Nat.lt_of_lt_of_le hx (Nat.pow_le_pow_right (by omega) (by omega)))]; rfl)]
  exact Kr.one (.inr rfl) rfl (Ent.refl _) ⟨rfl, rfl⟩
/-- A field above all that is there. -/
theorem bitsPut (x a w y : Nat) (hx : x < 2 ^ a) (hy : y < 2 ^ w) (h : a + w ≤ 64) (hw : w ≤ 63) : Fx Tryz.prog 244 [wd x, .int .i64 a, .int .i64 w, wd y] L (fun v L' => v = .tuple #[wd (y * 2 ^ a + x), .bool true] ∧ L = L') := by
  have hp := pow64 hw
  have h1 : 1 ≤ 2 ^ w := Nat.one_le_two_pow
  have hb : 2 ^ w * 2 ^ a ≤ 18446744073709551616 := by rw [← Nat.pow_add, Nat.add_comm]; exact Nat.pow_le_pow_right (n := 2) (i := a + w) (j := 64) (by omega) h
  have h2 : 1 ≤ 2 ^ a := Nat.one_le_two_pow
  have hmx : (2 ^ w - 1) * 2 ^ a + 2 ^ a = 2 ^ w * 2 ^ a := by rw [← Nat.succ_mul]; congr 1; omega
  have hyx : y * 2 ^ a + 2 ^ a ≤ 2 ^ w * 2 ^ a := by rw [← Nat.succ_mul]; exact Nat.mul_le_mul_right _ hy
  refine Fx.mk Tryz.func244 k244 (Nat.le_of_ble_eq_true rfl) ?_
  dsimp only [c244, envOf, Nat.reduceAdd]
  refine go ?_
  refine Sx.ca rfl (bitsField a w h) ?_
  rintro v L' ⟨rfl, rfl⟩
  refine go ?_
  refine Sx.ca rfl (bitsFits y w hy hw) ?_
  rintro v L' ⟨rfl, rfl⟩
  refine go ?_
  refine Cx.ordc rfl (by kernel_rfl) ?_
  repeat' (first|refine Ze0 0 rfl (by kernel_rfl) ?_|refine Ze1 (by kernel_rfl) rfl rfl ?_|refine Ze2 ?_|refine Ze3 ?_|refine Ze4 (by kernel_rfl) rfl rfl (by rfl) ?_|refine Ze5 (by kernel_rfl) rfl rfl rfl ?_)
  refine Ev.cakH (by kernel_rfl) rfl rfl (bitsMask w hw) ?_
  have e3 : min (a : Int).toNat IntKind.u64.bits = a := by rw [Int.toNat_natCast]; exact Nat.min_eq_left (by show a ≤ 64; omega)
  repeat' (first|refine Ze0 0 rfl (by kernel_rfl) ?_|refine Ze1 (by kernel_rfl) rfl rfl ?_|refine Ze2 ?_|refine Ze3 ?_|refine Ze4 (by kernel_rfl) rfl rfl (by rfl) ?_|refine Ze5 (by kernel_rfl) rfl rfl rfl ?_)
  refine Ev.pvH (by kernel_rfl) rfl rfl (by omega) ?_
  rw [e3, show ((2 ^ w - 1 : Nat) : Int) * 2 ^ a = (((2 ^ w - 1) * 2 ^ a : Nat) : Int) by push_cast; rfl, wrap64 (by omega)]
  repeat' (first|refine Ze0 0 rfl (by kernel_rfl) ?_|refine Ze1 (by kernel_rfl) rfl rfl ?_|refine Ze2 ?_|refine Ze3 ?_|refine Ze4 (by kernel_rfl) rfl rfl (by rfl) ?_|refine Ze5 (by kernel_rfl) rfl rfl rfl ?_)
  refine Ev.pvH (by kernel_rfl) rfl rfl (by omega) ?_
  rw [e3, show (y : Int) * 2 ^ a = ((y * 2 ^ a : Nat) : Int) by push_cast; rfl, wrap64 (by omega)]
  rw [andNot64 x ((2 ^ w - 1) * 2 ^ a) x (by omega) (fun i hi => by
    rw [Nat.mul_comm, Nat.testBit_two_pow_mul]
    by_cases hia : i < a
    · simp [show ¬ a ≤ i by omega]
    · rw [Nat.testBit_lt_two_pow (Nat.lt_of_lt_of_le hx (Nat.pow_le_pow_right (by omega) (by omega)))]; rfl)]
  repeat' (first|refine Ze0 0 rfl (by kernel_rfl) ?_|refine Ze1 (by kernel_rfl) rfl rfl ?_|refine Ze2 ?_|refine Ze3 ?_|refine Ze4 (by kernel_rfl) rfl rfl (by rfl) ?_|refine Ze5 (by kernel_rfl) rfl rfl rfl ?_)
  rw [or64 _ _ (by omega) (by omega)]
  have e5 : x ||| y * 2 ^ a = y * 2 ^ a + x := by
    rw [Nat.or_comm, Nat.mul_comm y, Nat.two_pow_add_eq_or_of_lt hx y]
  rw [e5]
  refine go ?_
  exact Kr.two (.inr rfl) rfl rfl (Ent.refl _) ⟨rfl, rfl⟩
end
end Go.Proofs.YtflalhdofhobmaaGreat

/-
  Word's heads; lay's places.
-/
set_option linter.unusedVariables false
set_option linter.unusedSimpArgs false
namespace Go.Proofs.YtflalhdofhobmaaGreat
open Go
attribute [local irreducible] Sx Cx Rx Fx Krg Ksq Kbl Klp Kr
section
variable {L F : St}
theorem wordWithin (n a b : Int) (h1 : a ≤ n) (h2 : n ≤ b) : Fx Tryz.prog 243 [.int .i64 n, .int .i64 a, .int .i64 b] L (fun v L' => v = .bool true ∧ L = L') := by
  refine Fx.mk Tryz.func243 k243 (Nat.le_of_ble_eq_true rfl) ?_
  dsimp only [c243, envOf, Nat.reduceAdd]
  refine go ?_
  refine Sx.gyes rfl (decide_eq_true (by omega)) ?_
  refine go ?_
  rw [decide_eq_true h2]
  exact Kr.one (.inr rfl) rfl (Ent.refl _) ⟨rfl, rfl⟩
theorem wordWithout (n a b : Int) (h1 : a ≤ n) (h2 : ¬ n ≤ b) : Fx Tryz.prog 243 [.int .i64 n, .int .i64 a, .int .i64 b] L (fun v L' => v = .bool false ∧ L = L') := by
  refine Fx.mk Tryz.func243 k243 (Nat.le_of_ble_eq_true rfl) ?_
  dsimp only [c243, envOf, Nat.reduceAdd]
  refine go ?_
  refine Sx.gyes rfl (decide_eq_true (by omega)) ?_
  refine go ?_
  rw [decide_eq_false h2]
  exact Kr.one (.inr rfl) rfl (Ent.refl _) ⟨rfl, rfl⟩
/-- A head as a value. -/
abbrev hdV (i : Int) (t : Nat) : Value := .agg #[.int .i64 i, .int .i64 (t : Int)]
theorem getHead (w : Nat) (hw : w < 18446744073709551616) : Fx Tryz.prog 171 [wd w] L (fun v L' => v = hdV (hdI w) (hdT w) ∧ L = L') := by
  refine Fx.mk Tryz.func171 k171 (Nat.le_of_ble_eq_true rfl) ?_
  dsimp only [c171, envOf, Nat.reduceAdd]
  refine Cx.sq ?_
  refine Cx.rg ?_
  refine Sx.al fun g => ?_
  refine go ?_
  refine Sx.ca rfl (bitsGet w 0 32 hw (by omega) (by omega)) ?_
  rintro v L' ⟨rfl, rfl⟩
  rw [Nat.pow_zero, Nat.div_one]
  refine go ?_
  refine Sx.ca rfl (bitsGet w 32 32 hw (by omega) (by omega)) ?_
  rintro v L' ⟨rfl, rfl⟩
  refine go ?_
  have h1 : w % 2 ^ 32 < 4294967296 := Nat.mod_lt _ (by omega)
  have h2 : w / 2 ^ 32 % 2 ^ 32 = hdT w := by unfold hdT; omega
  have h3 := hdT_lt hw
  rw [h2, w64 (n := ((w % 2 ^ 32 : Nat) : Int)) (by omega) (by omega), w64 (n := ((w % 2 ^ 32 : Nat) : Int) - 1) (by omega) (by omega), w64 (n := (hdT w : Int)) (by omega) (by omega)]
  refine Sx.st (b := g) rfl rfl rfl rfl rfl rfl ?_
  dsimp only [lay]
  refine go ?_
  exact Kr_cell (b := g) (.inr rfl) rfl rfl (L' := L) Ent.drop ⟨rfl, rfl⟩
theorem putHead (i : Int) (t : Nat) (h1 : -1 ≤ i) (h2 : i < 4294967295) (ht : t < 4294967296) : Fx Tryz.prog 203 [hdV i t] L (fun v L' => v = .tuple #[wd (t * 4294967296 + (i + 1).toNat), .bool true] ∧ L = L') := by
  refine Fx.mk Tryz.func203 k203 (Nat.le_of_ble_eq_true rfl) ?_
  dsimp only [c203, envOf, Nat.reduceAdd]
  refine Cx.sq ?_
  refine Cx.rg ?_
  refine Sx.bx rfl rfl fun g => ?_
  refine go ?_
  refine Sx.ca rfl (wordWithin _ _ _ (by omega) (by omega)) ?_
  rintro v L' ⟨rfl, rfl⟩
  refine go ?_
  refine Sx.ca rfl (wordWithin _ _ _ (by omega) (by omega)) ?_
  rintro v L' ⟨rfl, rfl⟩
  refine go ?_
  rw [w64 (n := i + 1) (by omega) (by omega), show i + 1 = (((i + 1).toNat : Nat) : Int) by omega, wrap64 (by omega)]
  refine Sx.ca rfl (bitsPut 0 0 32 (i + 1).toNat (by omega) (by omega) (by omega) (by omega)) ?_
  rintro v L' ⟨rfl, rfl⟩
  rw [Nat.pow_zero, Nat.mul_one, Nat.add_zero]
  refine go ?_
  rw [wrap64 (by omega)]
  refine Sx.ca rfl (bitsPut (i + 1).toNat 32 32 t (by omega) (by omega) (by omega) (by omega)) ?_
  rintro v L' ⟨rfl, rfl⟩
  refine go ?_
  exact Kr.two (.inr rfl) rfl rfl Ent.drop ⟨rfl, rfl⟩
theorem wordNext (i j : Int) (t : Nat) (ht : t < 4294967296) : Fx Tryz.prog 271 [hdV i t, .int .i64 j] L (fun v L' => v = hdV j (laterT t) ∧ L = L') := by
  refine Fx.mk Tryz.func271 k271 (Nat.le_of_ble_eq_true rfl) ?_
  dsimp only [c271, envOf, Nat.reduceAdd]
  refine Cx.sq ?_
  refine Cx.rg ?_
  refine Sx.bx rfl rfl fun g => ?_
  refine go ?_
  refine Sx.al fun q => ?_
  refine go ?_
  by_cases h : t < 4294967295
  · refine Sx.ca rfl (wordWithin _ _ _ (by omega) (by omega)) ?_
    rintro v L' ⟨rfl, rfl⟩
    refine go ?_
    rw [w64 (n := (t : Int) + 1) (by omega) (by omega)]
    refine Sx.st (b := q) rfl rfl rfl rfl rfl rfl ?_
    dsimp only [lay]
    refine go ?_
    refine Kr_cell (b := q) (.inr rfl) rfl rfl (L' := L) (Ent.trans Ent.drop Ent.drop) ⟨?_, rfl⟩
    unfold laterT
    rw [if_pos h]; rfl
  · refine Sx.ca rfl (wordWithout _ _ _ (by omega) (by omega)) ?_
    rintro v L' ⟨rfl, rfl⟩
    refine go ?_
    refine Sx.st (b := q) rfl rfl rfl rfl rfl rfl ?_
    dsimp only [lay]
    refine go ?_
    refine Kr_cell (b := q) (.inr rfl) rfl rfl (L' := L) (Ent.trans Ent.drop Ent.drop) ⟨?_, rfl⟩
    unfold laterT
    rw [if_neg h]; rfl
end
end Go.Proofs.YtflalhdofhobmaaGreat

/-
  Cells: the memory.
-/
set_option linter.unusedVariables false
set_option linter.unusedSimpArgs false
namespace Go.Proofs.YtflalhdofhobmaaGreat
open Go
attribute [local irreducible] Sx Cx Rx Fx Krg Ksq Kbl Klp Kr
/-- Words as values. -/
def us (l : List Nat) : List Value := l.map wd
theorem length_us (l : List Nat) : (us l).length = l.length := by simp [us]
theorem us_get {l : List Nat} {i w : Nat} (h : l[i]? = some w) : (us l)[i]? = some (wd w) := by simp [us, h]
theorem us_set (l : List Nat) (i w : Nat) : (us l).set i (wd w) = us (l.set i w) := by simp [us, List.map_set]
theorem lay_one {cs : List Value} {off : Nat} {u : Value} (h : off < cs.length) : lay cs off [u] = cs.set off u := by
  have := lay_cons cs off u [] (by simp; omega)
  rw [← this, lay_nil]
theorem wrap_succ (n : Nat) : IntKind.i64.wrap (IntKind.i64.wrap (n : Int) + 1) = IntKind.i64.wrap ((n + 1 : Nat) : Int) := by
  have hw : ∀ x : Int, IntKind.i64.wrap x = if x % 18446744073709551616 ≥ 9223372036854775808 then x % 18446744073709551616 - 18446744073709551616 else x % 18446744073709551616 := fun x => by
    unfold IntKind.wrap
    simp only [IntKind.bits, IntKind.signed]
    simp
  rw [hw, hw, hw]
  push_cast
  (repeat' split) <;> omega
section
variable {L F : St}
def memL (T : TypeId) (m : Mm) (a : Option Addr) (y : (Option Addr × Nat) × (Value × Value × Value × Value × Value)) : St :=
  [lift (m.ok ∧ m.ws.length ≤ 8388608 ∧ ones [y.2.1, y.2.2.1, y.2.2.2.1, y.2.2.2.2.1, y.2.2.2.2.2] = true), pt a (Blk T [.slice y.1.1 m.ws.length y.1.2, .int .i64 (IntKind.i64.wrap (m.n : Int)), y.2.1, y.2.2.1, y.2.2.2.1, y.2.2.2.2.1, y.2.2.2.2.2]), pt y.1.1 (Row 56 1 m.ws.length y.1.2 (us m.ws))]
def MemT (T : TypeId) (m : Mm) (a : Option Addr) : As := exs (memL T m a)
abbrev MemO := MemT 139
theorem MemO.close {T : TypeId} {a r : Option Addr} {c n : Nat} {v x0 x1 x2 x3 x4 : Value} {w : List Value} {F G : St} (m : Mm) (hm : m.ok ∧ m.ws.length ≤ 8388608 ∧ ones [x0, x1, x2, x3, x4] = true) [t : Take L a (Blk T [.slice r n c, v, x0, x1, x2, x3, x4]) F] [u : Take F r (Row 56 1 n c w) G]
    (hv : v = .int .i64 (IntKind.i64.wrap (m.n : Int))) (hn : n = m.ws.length) (hw : w = us m.ws) : Ent L (pt a (MemT T m) :: G) := by
  subst hv; subst hn; subst hw
  refine Ent.trans (Ent.take1 (t := t) (Ent.of u.out)) ?_
  refine Ent.trans (Ent.lift hm (Ent.refl _)) ?_
  exact Ent.close (f := memL T m a) rfl ((r, c), (x0, x1, x2, x3, x4))
theorem cellsNew (n : Nat) (h1 : 1 ≤ n) (h2 : n ≤ 8388608) : Fx Tryz.prog 15 [.int .i64 n] L (fun v L' => ∃ g, v = .tuple #[.pointer (some ⟨g, 0, none⟩), .int .i64 0] ∧ L' = pt (some ⟨g, 0, none⟩) (MemO ⟨List.replicate n 0, 0⟩) :: L) := by
  refine Fx.mk Tryz.func15 k15 (Nat.le_of_ble_eq_true rfl) ?_
  dsimp only [c15, envOf, Nat.reduceAdd]
  refine go ?_
  refine Sx.gyes rfl (decide_eq_false (by omega)) ?_
  refine go ?_
  refine Cx.cno rfl (decide_eq_false (by omega)) ?_
  refine go ?_
  refine Sx.mk rfl rfl (by omega) (by omega) (by omega) (by omega) fun g => ?_
  refine go ?_
  refine Sx.bx rfl rfl fun q => ?_
  refine go ?_
  refine Kr.two (.inr rfl) rfl rfl ?_ ⟨q, rfl, rfl⟩
  have hu : us (List.replicate n 0) = List.replicate n (.int .u64 0) := by simp [us, wd]
  refine MemO.close (a := some ⟨q, 0, none⟩) (r := some ⟨g, 0, none⟩) ⟨List.replicate n 0, 0⟩ ⟨fun w hw => ?_, ?_, rfl⟩ rfl (by simp) ?_
  · rw [List.eq_of_mem_replicate hw]; omega
  · simpa using h2
  · rw [hu, made_one]; simp
/-- The number of cells. -/
theorem cellsLen {b : Nat} {m : Mm} {F : St} [t : Take L (some ⟨b, 0, none⟩) (MemO m) F] : Fx Tryz.prog 137 [.pointer (some ⟨b, 0, none⟩)] L (fun v L' => v = .int .i64 m.ws.length ∧ L = L') := by
  refine Fx.kept (t := t) ?_
  refine Fx.mk Tryz.func137 k137 (Nat.le_of_ble_eq_true rfl) ?_
  dsimp only [c137, envOf, Nat.reduceAdd]
  refine Cx.openp (t := t) rfl ?_
  rintro ⟨⟨r, c⟩, ⟨x0, x1, x2, x3, x4⟩⟩
  simp only [memL, List.cons_append, List.nil_append]
  refine Cx.liftp fun hm => ?_
  refine go ?_
  exact Kr.one (.inr rfl) rfl (MemO.close (a := some ⟨b, 0, none⟩) (r := r) m hm rfl rfl rfl) ⟨rfl, rfl⟩
theorem cellsIs {b : Nat} {m : Mm} {F : St} (i : Int) [t : Take L (some ⟨b, 0, none⟩) (MemO m) F] : Fx Tryz.prog 81 [.pointer (some ⟨b, 0, none⟩), .int .i64 i] L (fun v L' => v = .bool (decide (0 ≤ i ∧ i < m.ws.length)) ∧ L = L') := by
  refine Fx.kept (t := t) ?_
  refine Fx.mk Tryz.func81 k81 (Nat.le_of_ble_eq_true rfl) ?_
  dsimp only [c81, envOf, Nat.reduceAdd]
  refine Cx.openp (t := t) rfl ?_
  rintro ⟨⟨r, c⟩, ⟨x0, x1, x2, x3, x4⟩⟩
  simp only [memL, List.cons_append, List.nil_append]
  refine Cx.liftp fun hm => ?_
  refine go ?_
  refine Sx.ifp rfl (fun h => ?_) (fun h => ?_)
  · refine go ?_
    exact Kr.one (.inr rfl) rfl (MemO.close (a := some ⟨b, 0, none⟩) (r := r) m hm rfl rfl rfl) ⟨congrArg Value.bool (decide_eq_decide.2 (by omega)), rfl⟩
  · refine go ?_
    exact Kr.one (.inr rfl) rfl (MemO.close (a := some ⟨b, 0, none⟩) (r := r) m hm rfl rfl rfl) ⟨congrArg Value.bool (decide_eq_false (fun hh => h hh.1)).symm, rfl⟩
theorem cellsPeek {b : Nat} {m : Mm} {F : St} (i : Nat) (hi : i < m.ws.length) [t : Take L (some ⟨b, 0, none⟩) (MemO m) F] : Fx Tryz.prog 29 [.pointer (some ⟨b, 0, none⟩), .int .i64 i] L (fun v L' => v = wd (m.at_ i) ∧ L = L') := by
  refine Fx.kept (t := t) ?_
  refine Fx.mk Tryz.func29 k29 (Nat.le_of_ble_eq_true rfl) ?_
  dsimp only [c29, envOf, Nat.reduceAdd]
  refine go ?_
  refine Sx.ca rfl (cellsIs (b := b) (m := m) (i : Int)) ?_
  rintro v L' ⟨rfl, rfl⟩
  rw [decide_eq_true (show (0 : Int) ≤ i ∧ (i : Int) < m.ws.length by omega)]
  refine go ?_
  refine Sx.openp (t := t) rfl ?_
  rintro ⟨⟨r, c⟩, ⟨x0, x1, x2, x3, x4⟩⟩
  simp only [memL, List.cons_append, List.nil_append]
  refine Sx.liftp fun hm => ?_
  refine go ?_
  refine Sx.rowsome (a := r) (by omega) fun g hr => ?_
  subst hr
  refine Sx.pv rfl ⟨by omega, by omega⟩ ?_
  refine Sx.ldr rfl (v := wd (m.at_ i)) (by simpa using us_get (Mm.get hi)) ?_
  refine go ?_
  exact Kr.one (.inr rfl) rfl (MemO.close (a := some ⟨b, 0, none⟩) (r := some ⟨g, 0, none⟩) m hm rfl rfl rfl) ⟨rfl, rfl⟩
theorem cellsLay {b : Nat} {m : Mm} {F : St} (i w : Nat) (hi : i < m.ws.length) (hw : w < 18446744073709551616) [t : Take L (some ⟨b, 0, none⟩) (MemO m) F] : Fx Tryz.prog 23 [.pointer (some ⟨b, 0, none⟩), .int .i64 i, wd w] L (fun v L' => v = .int .i64 0 ∧ L' = pt (some ⟨b, 0, none⟩) (MemO (m.lay i w)) :: F) := by
  refine Fx.mk Tryz.func23 k23 (Nat.le_of_ble_eq_true rfl) ?_
  dsimp only [c23, envOf, Nat.reduceAdd]
  refine go ?_
  refine Sx.ca rfl (cellsIs (b := b) (m := m) (i : Int)) ?_
  rintro v L' ⟨rfl, rfl⟩
  rw [decide_eq_true (show (0 : Int) ≤ i ∧ (i : Int) < m.ws.length by omega)]
  refine go ?_
  refine Sx.openp (t := t) rfl ?_
  rintro ⟨⟨r, c⟩, ⟨x0, x1, x2, x3, x4⟩⟩
  simp only [memL, List.cons_append, List.nil_append]
  refine Sx.liftp fun hm => ?_
  refine go ?_
  refine Sx.rowsome (a := r) (by omega) fun g hr => ?_
  subst hr
  refine Sx.pv rfl ⟨by omega, by omega⟩ ?_
  refine Sx.str (b := g) rfl rfl rfl rfl rfl (by rw [length_us]; simp; omega) (lay_one (by rw [length_us]; simpa using hi)) ?_
  refine go ?_
  refine Kr.one (.inr rfl) rfl (MemO.close (a := some ⟨b, 0, none⟩) (r := some ⟨g, 0, none⟩) (m.lay i w) ⟨Mm.ok_lay hm.1 hw, by rw [Mm.len_lay]; exact hm.2.1, hm.2.2⟩ rfl Mm.len_lay.symm ?_) ⟨rfl, rfl⟩
  simp only [Nat.zero_add, Nat.mul_one, Int.toNat_natCast]
  exact us_set m.ws i w
set_option maxHeartbeats 1000000 in
theorem cellsStroke {b : Nat} {m : Mm} {F : St} (kd : Int) (i w : Nat) (ok : Bool) (hi : i < m.ws.length) (hw : w < 18446744073709551616) [t : Take L (some ⟨b, 0, none⟩) (MemO m) F] :
    Fx Tryz.prog 205 [.pointer (some ⟨b, 0, none⟩), .int .i64 kd, .int .i64 i, wd w, .bool ok] L (fun v L' => v = wd (m.at_ i) ∧ L' = pt (some ⟨b, 0, none⟩) (MemO (m.put i w)) :: F) := by
  refine Fx.mk Tryz.func205 k205 (Nat.le_of_ble_eq_true rfl) ?_
  dsimp only [c205, envOf, Nat.reduceAdd]
  refine Cx.openp (t := t) rfl ?_
  rintro ⟨⟨r, c⟩, ⟨x0, x1, x2, x3, x4⟩⟩
  simp only [memL, List.cons_append, List.nil_append]
  refine Cx.liftp fun hm => ?_
  refine Cx.rowkey (a := r) fun hx0 hn0 _ hk0 => ?_
  obtain ⟨g, rfl⟩ : ∃ g, r = some ⟨g, 0, none⟩ := by
    rcases hk0 with h | h
    · omega
    · exact h
  refine go ?_
  refine Sx.pv rfl ⟨by omega, by omega⟩ ?_
  refine Sx.ldr rfl (v := wd (m.at_ i)) (by simpa using us_get (Mm.get hi)) ?_
  refine go ?_
  refine Sx.pv rfl ⟨by omega, by omega⟩ ?_
  refine Sx.str (b := g) rfl rfl rfl rfl rfl (by rw [length_us]; simp; omega) (lay_one (by rw [length_us]; simpa using hi)) ?_
  refine go ?_
  rw [wrap_succ]
  refine Sx.st (b := b) rfl rfl rfl rfl rfl rfl ?_
  dsimp only [lay]
  refine go ?_
  refine Kr.one (.inr rfl) rfl (MemO.close (a := some ⟨b, 0, none⟩) (r := some ⟨g, 0, none⟩) (m.put i w) ⟨Mm.ok_put hm.1 hw, by rw [Mm.len_put]; exact hm.2.1, rfl⟩ rfl Mm.len_put.symm ?_) ⟨rfl, rfl⟩
  simp only [Nat.zero_add, Nat.mul_one, Int.toNat_natCast]
  exact us_set m.ws i w
theorem putSame (m : Mm) (i : Nat) (hi : i < m.ws.length) : m.put i (m.at_ i) = m.tick := by
  unfold Mm.put Mm.tick
  congr 1
  have := Mm.get hi
  rw [List.getElem?_eq_getElem hi, Option.some.injEq] at this
  rw [← this]
  exact List.set_getElem_self hi
end
end Go.Proofs.YtflalhdofhobmaaGreat

/-
  Cells: Load, Store, Cas, Add.
-/
set_option linter.unusedVariables false
set_option linter.unusedSimpArgs false
namespace Go.Proofs.YtflalhdofhobmaaGreat
open Go
attribute [local irreducible] Sx Cx Rx Fx Krg Ksq Kbl Klp Kr
section
variable {L F : St}
theorem cellsLoad {b : Nat} {m : Mm} {F : St} (i : Nat) (hi : i < m.ws.length) [t : Take L (some ⟨b, 0, none⟩) (MemO m) F] :
    Fx Tryz.prog 151 [.pointer (some ⟨b, 0, none⟩), .int .i64 i] L (fun v L' => v = .tuple #[wd (m.at_ i), .int .i64 0] ∧ L' = pt (some ⟨b, 0, none⟩) (MemO m.tick) :: F) := by
  refine Fx.mk Tryz.func151 k151 (Nat.le_of_ble_eq_true rfl) ?_
  dsimp only [c151, envOf, Nat.reduceAdd]
  refine go ?_
  refine Sx.ca rfl (cellsIs (b := b) (m := m) (i : Int)) ?_
  rintro v L' ⟨rfl, rfl⟩
  rw [decide_eq_true (show (0 : Int) ≤ i ∧ (i : Int) < m.ws.length by omega)]
  refine go ?_
  refine Sx.openp (t := t) rfl ?_
  rintro ⟨⟨r, c⟩, ⟨x0, x1, x2, x3, x4⟩⟩
  simp only [memL, List.cons_append, List.nil_append]
  refine Sx.liftp fun hm => ?_
  refine Sx.rowkey (a := r) fun hx0 hn0 _ hk0 => ?_
  obtain ⟨g, rfl⟩ : ∃ g, r = some ⟨g, 0, none⟩ := by
    rcases hk0 with h | h
    · omega
    · exact h
  have hlt := Mm.at_lt hm.1 i
  refine go ?_
  refine Sx.pv rfl ⟨by omega, by omega⟩ ?_
  refine Sx.ldr rfl (v := wd (m.at_ i)) (by simpa using us_get (Mm.get hi)) ?_
  refine Sx.ent (MemO.close (a := some ⟨b, 0, none⟩) (r := some ⟨g, 0, none⟩) m hm rfl rfl rfl) ?_
  refine Sx.ca rfl (cellsStroke (b := b) (m := m) 1 i (m.at_ i) true hi hlt) ?_
  rintro v L' ⟨rfl, rfl⟩
  rw [putSame m i hi]
  refine go ?_
  exact Kr.two (.inr rfl) rfl rfl (Ent.refl _) ⟨rfl, rfl⟩
theorem cellsStore {b : Nat} {m : Mm} {F : St} (i w : Nat) (hi : i < m.ws.length) (hw : w < 18446744073709551616) [t : Take L (some ⟨b, 0, none⟩) (MemO m) F] :
    Fx Tryz.prog 214 [.pointer (some ⟨b, 0, none⟩), .int .i64 i, wd w] L (fun v L' => v = .int .i64 0 ∧ L' = pt (some ⟨b, 0, none⟩) (MemO (m.put i w)) :: F) := by
  refine Fx.mk Tryz.func214 k214 (Nat.le_of_ble_eq_true rfl) ?_
  dsimp only [c214, envOf, Nat.reduceAdd]
  refine go ?_
  refine Sx.ca rfl (cellsIs (b := b) (m := m) (i : Int)) ?_
  rintro v L' ⟨rfl, rfl⟩
  rw [decide_eq_true (show (0 : Int) ≤ i ∧ (i : Int) < m.ws.length by omega)]
  refine go ?_
  refine Sx.ca rfl (cellsStroke (b := b) (m := m) 2 i w true hi hw) ?_
  rintro v L' ⟨rfl, rfl⟩
  refine go ?_
  exact Kr.one (.inr rfl) rfl (Ent.refl _) ⟨rfl, rfl⟩
theorem cellsCas {b : Nat} {m : Mm} {F : St} (i o w : Nat) (hi : i < m.ws.length) (hw : w < 18446744073709551616) [t : Take L (some ⟨b, 0, none⟩) (MemO m) F] :
    Fx Tryz.prog 228 [.pointer (some ⟨b, 0, none⟩), .int .i64 i, wd o, wd w] L (fun v L' => v = .tuple #[.bool (decide (m.at_ i = o)), .int .i64 0] ∧ L' = pt (some ⟨b, 0, none⟩) (MemO (m.cas i o w)) :: F) := by
  refine Fx.mk Tryz.func228 k228 (Nat.le_of_ble_eq_true rfl) ?_
  dsimp only [c228, envOf, Nat.reduceAdd]
  refine go ?_
  refine Sx.ca rfl (cellsIs (b := b) (m := m) (i : Int)) ?_
  rintro v L' ⟨rfl, rfl⟩
  rw [decide_eq_true (show (0 : Int) ≤ i ∧ (i : Int) < m.ws.length by omega)]
  refine go ?_
  refine Sx.openp (t := t) rfl ?_
  rintro ⟨⟨r, c⟩, ⟨x0, x1, x2, x3, x4⟩⟩
  simp only [memL, List.cons_append, List.nil_append]
  refine Sx.liftp fun hm => ?_
  refine Sx.rowkey (a := r) fun hx0 hn0 _ hk0 => ?_
  obtain ⟨g, rfl⟩ : ∃ g, r = some ⟨g, 0, none⟩ := by
    rcases hk0 with h | h
    · omega
    · exact h
  have hlt := Mm.at_lt hm.1 i
  refine go ?_
  refine Sx.pv rfl ⟨by omega, by omega⟩ ?_
  refine Sx.ldr rfl (v := wd (m.at_ i)) (by simpa using us_get (Mm.get hi)) ?_
  refine go ?_
  refine Cx.ifn rfl (fun h => ?_) (fun h => ?_)
  · have h' : m.at_ i ≠ o := fun e => h (by rw [e])
    refine go ?_
    refine Sx.pv rfl ⟨by omega, by omega⟩ ?_
    refine Sx.ldr rfl (v := wd (m.at_ i)) (by simpa using us_get (Mm.get hi)) ?_
    refine Sx.ent (MemO.close (a := some ⟨b, 0, none⟩) (r := some ⟨g, 0, none⟩) m hm rfl rfl rfl) ?_
    refine Sx.ca rfl (cellsStroke (b := b) (m := m) 3 i (m.at_ i) false hi hlt) ?_
    rintro v L' ⟨rfl, rfl⟩
    rw [putSame m i hi]
    refine go ?_
    refine Kr.two (.inr rfl) rfl rfl (Ent.refl _) ⟨?_, ?_⟩
    · rw [decide_eq_false h']
    · unfold Mm.cas; rw [if_neg h']
  · have h' : m.at_ i = o := by omega
    refine Cx.ent (MemO.close (a := some ⟨b, 0, none⟩) (r := some ⟨g, 0, none⟩) m hm rfl rfl rfl) ?_
    refine go ?_
    refine Sx.ca rfl (cellsStroke (b := b) (m := m) 3 i w true hi hw) ?_
    rintro v L' ⟨rfl, rfl⟩
    refine go ?_
    refine Kr.two (.inr rfl) rfl rfl (Ent.refl _) ⟨?_, ?_⟩
    · rw [decide_eq_true h']
    · unfold Mm.cas; rw [if_pos h']
end
end Go.Proofs.YtflalhdofhobmaaGreat

/-
  run's Machine: one access a step; what its next access is, is a function it holds.
-/
set_option linter.unusedVariables false
set_option linter.unusedSimpArgs false
namespace Go.Proofs.YtflalhdofhobmaaGreat
open Go
attribute [local irreducible] Sx Cx Rx Fx Krg Ksq Kbl Klp Kr
section
variable {L F : St}
/-- A method of a pointer, as a value. -/
abbrev mth (f : FuncId) (b : Nat) : Value := .func (.func f) #[.pointer (some ⟨b, 0, none⟩)] #[]
theorem machGo {b : Nat} {T : TypeId} {nx : Value} {f : FuncId} {w : Value} {rest : List Value} [t : Take L (some ⟨b, 0, none⟩) (Blk T (nx :: rest)) F] :
    Fx Tryz.prog 79 [.pointer (some ⟨b, 0, none⟩), .func (.func f) #[w] #[]] L (fun v L' => v = .tuple #[] ∧ L' = pt (some ⟨b, 0, none⟩) (Blk T (.func (.func f) #[w] #[] :: rest)) :: F) := by
  refine Fx.mk Tryz.func79 k79 (Nat.le_of_ble_eq_true rfl) ?_
  dsimp only [c79, envOf, Nat.reduceAdd]
  refine go ?_
  exact Kr.none (.inl rfl) (Ent.refl _) ⟨rfl, rfl⟩
theorem machDoneYes {b : Nat} {T : TypeId} {rest : List Value} [t : Take L (some ⟨b, 0, none⟩) (Blk T (.nilFunc :: rest)) F] : Fx Tryz.prog 92 [.pointer (some ⟨b, 0, none⟩)] L (fun v L' => v = .bool true ∧ L = L') := by
  refine Fx.mk Tryz.func92 k92 (Nat.le_of_ble_eq_true rfl) ?_
  dsimp only [c92, envOf, Nat.reduceAdd]
  refine go ?_
  exact Kr.one (.inr rfl) rfl (Ent.refl _) ⟨rfl, rfl⟩
theorem machDoneNo {b : Nat} {T : TypeId} {f : FuncId} {w : Value} {rest : List Value} [t : Take L (some ⟨b, 0, none⟩) (Blk T (.func (.func f) #[w] #[] :: rest)) F] : Fx Tryz.prog 92 [.pointer (some ⟨b, 0, none⟩)] L (fun v L' => v = .bool false ∧ L = L') := by
  refine Fx.mk Tryz.func92 k92 (Nat.le_of_ble_eq_true rfl) ?_
  dsimp only [c92, envOf, Nat.reduceAdd]
  refine go ?_
  exact Kr.one (.inr rfl) rfl (Ent.refl _) ⟨rfl, rfl⟩
theorem machStepDone {b : Nat} {T : TypeId} {rest : List Value} [t : Take L (some ⟨b, 0, none⟩) (Blk T (.nilFunc :: rest)) F] : Fx Tryz.prog 91 [.pointer (some ⟨b, 0, none⟩)] L (fun v L' => v = .bool false ∧ L = L') := by
  refine Fx.mk Tryz.func91 k91 (Nat.le_of_ble_eq_true rfl) ?_
  dsimp only [c91, envOf, Nat.reduceAdd]
  refine go ?_
  exact Kr.one (.inr rfl) rfl (Ent.refl _) ⟨rfl, rfl⟩
theorem machStep {b : Nat} {T : TypeId} {f : FuncId} {w z1 z2 z3 : Value} {cnt : Int} {rest : List Value} {R : Value → St → Prop} [t : Take L (some ⟨b, 0, none⟩) (Blk T (.func (.func f) #[w] #[] :: z1 :: z2 :: z3 :: .int .i64 cnt :: rest)) F]
    (hc : callable Tryz.prog f = true) (hf : Fx Tryz.prog f [w] (pt (some ⟨b, 0, none⟩) (Blk T (.nilFunc :: z1 :: z2 :: z3 :: .int .i64 (IntKind.i64.wrap (cnt + 1)) :: rest)) :: F) R) :
    Fx Tryz.prog 91 [.pointer (some ⟨b, 0, none⟩)] L (fun v L' => v = .bool true ∧ ∃ u, R u L') := by
  refine Fx.mk Tryz.func91 k91 (Nat.le_of_ble_eq_true rfl) ?_
  dsimp only [c91, envOf, Nat.reduceAdd]
  refine go ?_
  refine Sx.cl (p := [w]) (q := []) (vs := []) rfl hc rfl hf ?_
  intro u L' hR
  refine go ?_
  exact Kr.one (.inr rfl) rfl (Ent.refl _) ⟨rfl, u, hR⟩
/-- The other machine is not done: the next access is through it. -/
theorem machOnNo {b : Nat} {T : TypeId} {fd : FuncId} {w nx z1 z3 : Value} {rest : List Value} [t : Take L (some ⟨b, 0, none⟩) (Blk T (nx :: z1 :: .func (.func fd) #[w] #[] :: z3 :: rest)) F]
    (hc : callable Tryz.prog fd = true) (hd : Fx Tryz.prog fd [w] L (fun v L' => v = .bool false ∧ L = L')) :
    Fx Tryz.prog 190 [.pointer (some ⟨b, 0, none⟩)] L (fun v L' => v = .tuple #[] ∧ L' = pt (some ⟨b, 0, none⟩) (Blk T (mth 232 b :: z1 :: .func (.func fd) #[w] #[] :: z3 :: rest)) :: F) := by
  refine Fx.mk Tryz.func190 k190 (Nat.le_of_ble_eq_true rfl) ?_
  dsimp only [c190, envOf, Nat.reduceAdd]
  refine go ?_
  refine Sx.cl (p := [w]) (q := []) (vs := []) rfl hc rfl hd ?_
  rintro v L' ⟨rfl, rfl⟩
  refine go ?_
  exact Kr.none (.inl rfl) (Ent.refl _) ⟨rfl, rfl⟩
/-- It is done: this one goes on. -/
theorem machOnYes {b : Nat} {T : TypeId} {fd ft : FuncId} {w u nx z1 : Value} {rest : List Value} {R : Value → St → Prop} [t : Take L (some ⟨b, 0, none⟩) (Blk T (nx :: z1 :: .func (.func fd) #[w] #[] :: .func (.func ft) #[u] #[] :: rest)) F]
    (hc : callable Tryz.prog fd = true) (hd : Fx Tryz.prog fd [w] L (fun v L' => v = .bool true ∧ L = L')) (hct : callable Tryz.prog ft = true) (ht : Fx Tryz.prog ft [u] L R) :
    Fx Tryz.prog 190 [.pointer (some ⟨b, 0, none⟩)] L (fun v L' => v = .tuple #[] ∧ ∃ x, R x L') := by
  refine Fx.mk Tryz.func190 k190 (Nat.le_of_ble_eq_true rfl) ?_
  dsimp only [c190, envOf, Nat.reduceAdd]
  refine go ?_
  refine Sx.cl (p := [w]) (q := []) (vs := []) rfl hc rfl hd ?_
  rintro v L' ⟨rfl, rfl⟩
  refine go ?_
  refine Sx.cl (p := [u]) (q := []) (vs := []) rfl hct rfl ht ?_
  intro x L' hR
  refine go ?_
  exact Kr.none (.inr rfl) (Ent.refl _) ⟨rfl, x, hR⟩
theorem machThrough {b : Nat} {T : TypeId} {fs fd ft : FuncId} {ws w u nx z1 z2 z3 : Value} {rest : List Value} {R : Value → St → Prop} [t : Take L (some ⟨b, 0, none⟩) (Blk T (nx :: z1 :: z2 :: z3 :: rest)) F]
    (hon : Fx Tryz.prog 190 [.pointer (some ⟨b, 0, none⟩)] (pt (some ⟨b, 0, none⟩) (Blk T (nx :: .func (.func fs) #[ws] #[] :: .func (.func fd) #[w] #[] :: .func (.func ft) #[u] #[] :: rest)) :: F) R) :
    Fx Tryz.prog 119 [.pointer (some ⟨b, 0, none⟩), .func (.func fs) #[ws] #[], .func (.func fd) #[w] #[], .func (.func ft) #[u] #[]] L (fun v L' => v = .tuple #[] ∧ ∃ x, R x L') := by
  refine Fx.mk Tryz.func119 k119 (Nat.le_of_ble_eq_true rfl) ?_
  dsimp only [c119, envOf, Nat.reduceAdd]
  refine go ?_
  refine Sx.ca rfl hon ?_
  intro x L' hR
  refine go ?_
  exact Kr.none (.inl rfl) (Ent.refl _) ⟨rfl, x, hR⟩
theorem machGoes {b : Nat} {T : TypeId} {fs : FuncId} {ws nx : Value} {rest : List Value} {R1 R2 : Value → St → Prop} [t : Take L (some ⟨b, 0, none⟩) (Blk T (nx :: .func (.func fs) #[ws] #[] :: rest)) F]
    (hc : callable Tryz.prog fs = true) (hs : Fx Tryz.prog fs [ws] L R1) (hon : ∀ x L1, R1 x L1 → Fx Tryz.prog 190 [.pointer (some ⟨b, 0, none⟩)] L1 R2) :
    Fx Tryz.prog 232 [.pointer (some ⟨b, 0, none⟩)] L (fun v L' => v = .tuple #[] ∧ ∃ x, R2 x L') := by
  refine Fx.mk Tryz.func232 k232 (Nat.le_of_ble_eq_true rfl) ?_
  dsimp only [c232, envOf, Nat.reduceAdd]
  refine go ?_
  refine Sx.cl (p := [ws]) (q := []) (vs := []) rfl hc rfl hs ?_
  intro x L1 hR1
  refine go ?_
  refine Sx.ca rfl (hon x L1 hR1) ?_
  intro y L2 hR2
  refine go ?_
  exact Kr.none (.inl rfl) (Ent.refl _) ⟨rfl, y, hR2⟩
end
end Go.Proofs.YtflalhdofhobmaaGreat

/-
  Stacks: New, top, below, exchange.
-/
set_option linter.unusedVariables false
set_option linter.unusedSimpArgs false
namespace Go.Proofs.YtflalhdofhobmaaGreat
open Go
attribute [local irreducible] Sx Cx Rx Fx Krg Ksq Kbl Klp Kr
section
variable {L F G : St}
abbrev skV (mp : Nat) (k : Sk) : List Value := [.pointer (some ⟨mp, 0, none⟩), .int .i64 k.head, .int .i64 k.links, .int .i64 k.n]
abbrev SkO (mp : Nat) (k : Sk) : Option Addr → As := Blk 171 (skV mp k)
theorem stackTop {sb mp : Nat} {k : Sk} (w : Nat) (hw : w < 18446744073709551616) [s : Take L (some ⟨sb, 0, none⟩) (SkO mp k) F] :
    Fx Tryz.prog 95 [.pointer (some ⟨sb, 0, none⟩), wd w] L (fun v L' => v = .int .i64 (k.top w) ∧ L = L') := by
  refine Fx.mk Tryz.func95 k95 (Nat.le_of_ble_eq_true rfl) ?_
  dsimp only [c95, envOf, Nat.reduceAdd]
  refine go ?_
  refine Sx.ca rfl (getHead w hw) ?_
  rintro v L' ⟨rfl, rfl⟩
  refine Sx.al fun g => ?_
  refine Sx.st (b := g) rfl rfl rfl rfl rfl rfl ?_
  dsimp only [lay]
  refine go ?_
  refine Cx.ordc rfl (by kernel_rfl) ?_
  refine ge ?_
  refine Cx.ifp rfl (fun h => ?_) (fun h => ?_)
  · refine go ?_
    exact Kr.one (.inr rfl) rfl Ent.drop ⟨by unfold Sk.top; rw [if_pos h], rfl⟩
  · refine go ?_
    exact Kr.one (.inr rfl) rfl Ent.drop ⟨by unfold Sk.top; rw [if_neg h], rfl⟩
theorem stackBelow {sb mp : Nat} {k : Sk} (w : Nat) (hw : w < 18446744073709551616) (hn : k.n ≤ 4096) [s : Take L (some ⟨sb, 0, none⟩) (SkO mp k) F] :
    Fx Tryz.prog 96 [.pointer (some ⟨sb, 0, none⟩), wd w] L (fun v L' => v = .int .i64 (k.below w) ∧ L = L') := by
  refine Fx.mk Tryz.func96 k96 (Nat.le_of_ble_eq_true rfl) ?_
  dsimp only [c96, envOf, Nat.reduceAdd]
  refine go ?_
  rw [wrap64 (n := k.n) (by omega)]
  refine Cx.ifp rfl (fun h => ?_) (fun h => ?_)
  · refine go ?_
    exact Kr.one (.inr rfl) rfl (Ent.refl _) ⟨by unfold Sk.below; rw [if_pos (by omega)], rfl⟩
  · refine go ?_
    rw [w64 (n := (w : Int)) (by omega) (by omega), w64 (n := (w : Int) - 1) (by omega) (by omega)]
    exact Kr.one (.inr rfl) rfl (Ent.refl _) ⟨by unfold Sk.below; rw [if_neg (by omega)], rfl⟩
theorem stackCell {g mp : Nat} {T : TypeId} {m : Mm} (i : Int) {F G : St} [t : Take L (some ⟨mp, 0, none⟩) (MemO m) F] [s : Take L (some ⟨g, 0, none⟩) (Blk T [.pointer (some ⟨mp, 0, none⟩)]) G] :
    Fx Tryz.prog 202 [.int .i64 i, .pointer (some ⟨g, 0, none⟩)] L (fun v L' => v = .bool (decide (0 ≤ i ∧ i < m.ws.length)) ∧ L = L') := by
  refine Fx.mk Tryz.func202 k202 (Nat.le_of_ble_eq_true rfl) ?_
  dsimp only [c202, envOf, Nat.reduceAdd]
  refine go ?_
  refine Sx.ifp rfl (fun h => ?_) (fun h => ?_)
  · refine go ?_
    refine Sx.ca rfl (cellsLen (b := mp) (m := m)) ?_
    rintro v L' ⟨rfl, rfl⟩
    refine go ?_
    exact Kr.one (.inr rfl) rfl (Ent.refl _) ⟨congrArg Value.bool (decide_eq_decide.2 (by omega)), rfl⟩
  · refine go ?_
    exact Kr.one (.inr rfl) rfl (Ent.refl _) ⟨congrArg Value.bool (decide_eq_false (fun hh => h hh.1)).symm, rfl⟩
theorem stackNew {mp : Nat} {m : Mm} {k : Sk} (hk : k.ok m.ws.length) [t : Take L (some ⟨mp, 0, none⟩) (MemO m) F] :
    Fx Tryz.prog 138 [.pointer (some ⟨mp, 0, none⟩), .int .i64 k.head, .int .i64 k.links, .int .i64 k.n] L (fun v L' => ∃ g, v = .tuple #[.pointer (some ⟨g, 0, none⟩), .int .i64 0] ∧ L' = pt (some ⟨g, 0, none⟩) (SkO mp k) :: L) := by
  obtain ⟨h1, h2, h3, h4, h5, h6⟩ := hk
  refine Fx.mk Tryz.func138 k138 (Nat.le_of_ble_eq_true rfl) ?_
  dsimp only [c138, envOf, Nat.reduceAdd]
  refine Cx.sq ?_
  refine Cx.rg ?_
  refine Sx.bx rfl rfl fun g => ?_
  refine go ?_
  refine Sx.gyes rfl (decide_eq_false (by omega)) ?_
  refine go ?_
  refine Sx.gyes rfl (decide_eq_false (by omega)) ?_
  refine go ?_
  refine Sx.cl (p := []) (q := [.pointer (some ⟨g, 0, none⟩)]) rfl (by kernel_rfl) rfl (stackCell (mp := mp) (m := m) (k.head : Int)) ?_
  rintro v L' ⟨rfl, rfl⟩
  rw [decide_eq_true (show (0 : Int) ≤ k.head ∧ (k.head : Int) < m.ws.length by omega)]
  refine go ?_
  refine Sx.cl (p := []) (q := [.pointer (some ⟨g, 0, none⟩)]) rfl (by kernel_rfl) rfl (stackCell (mp := mp) (m := m) (k.links : Int)) ?_
  rintro v L' ⟨rfl, rfl⟩
  rw [decide_eq_true (show (0 : Int) ≤ k.links ∧ (k.links : Int) < m.ws.length by omega)]
  refine go ?_
  rw [w64 (n := (k.links : Int) + k.n) (by omega) (by omega), w64 (n := (k.links : Int) + k.n - 1) (by omega) (by omega)]
  refine Sx.cl (p := []) (q := [.pointer (some ⟨g, 0, none⟩)]) rfl (by kernel_rfl) rfl (stackCell (mp := mp) (m := m) ((k.links : Int) + k.n - 1)) ?_
  rintro v L' ⟨rfl, rfl⟩
  rw [decide_eq_true (show (0 : Int) ≤ (k.links : Int) + k.n - 1 ∧ (k.links : Int) + k.n - 1 < m.ws.length by omega)]
  refine go ?_
  refine Sx.ifp rfl (fun h7 => ?_) (fun h7 => ?_)
  · refine go ?_
    rw [w64 (n := (k.links : Int) + k.n) (by omega) (by omega)]
    refine Cx.cno rfl (decide_eq_false (by omega)) ?_
    refine go ?_
    refine Sx.bx rfl rfl fun q => ?_
    refine go ?_
    exact Kr.two (.inr rfl) rfl rfl (Ent.cons Ent.drop) ⟨q, rfl, rfl⟩
  · refine go ?_
    refine Sx.bx rfl rfl fun q => ?_
    refine go ?_
    exact Kr.two (.inr rfl) rfl rfl (Ent.cons Ent.drop) ⟨q, rfl, rfl⟩
theorem stackExchange {sb mp : Nat} {k : Sk} {m : Mm} (w : Nat) (i : Int) (hk : k.ok m.ws.length) (hw : w < 18446744073709551616) (h1 : -1 ≤ i) (h2 : i < k.n) [t : Take L (some ⟨mp, 0, none⟩) (MemO m) F] [s : Take F (some ⟨sb, 0, none⟩) (SkO mp k) G] :
    Fx Tryz.prog 268 [.pointer (some ⟨sb, 0, none⟩), wd w, .int .i64 i] L (fun v L' => v = .bool (decide (m.at_ k.head = w)) ∧ L' = pt (some ⟨mp, 0, none⟩) (MemO (m.cas k.head w (nextW w i))) :: F) := by
  obtain ⟨k1, k2, k3, k4, k5, k6⟩ := hk
  have hlt := nextW_lt (i := i) hw (by omega)
  refine Fx.mk Tryz.func268 k268 (Nat.le_of_ble_eq_true rfl) ?_
  dsimp only [c268, envOf, Nat.reduceAdd]
  refine Cx.ent (Ent.trans (Ent.of t.out) (Ent.cons (Ent.of s.out))) ?_
  refine go ?_
  refine Sx.ca rfl (getHead w hw) ?_
  rintro v L' ⟨rfl, rfl⟩
  refine go ?_
  refine Sx.ca rfl (wordNext _ i _ (hdT_lt hw)) ?_
  rintro v L' ⟨rfl, rfl⟩
  refine go ?_
  refine Sx.ca rfl (putHead i _ h1 (by omega) (laterT_lt (hdT_lt hw))) ?_
  rintro v L' ⟨rfl, rfl⟩
  rw [show laterT (hdT w) * 4294967296 + (i + 1).toNat = nextW w i from rfl]
  refine go ?_
  refine Cx.ordc rfl (by kernel_rfl) ?_
  refine ge ?_
  refine Ev.caH (by kernel_rfl) rfl rfl (cellsCas (b := mp) (m := m) k.head w (nextW w i) k3 hlt) (Pres.deps (by kernel_rfl)) ?_
  rintro v L' ⟨rfl, rfl⟩
  refine ge ?_
  refine go ?_
  exact Kr.one (.inr rfl) rfl (Ent.cons (Ent.of s.back)) ⟨rfl, rfl⟩
end
end Go.Proofs.YtflalhdofhobmaaGreat

/-
  Stacks: a Pop, one access at a time.
-/
set_option linter.unusedVariables false
set_option linter.unusedSimpArgs false
namespace Go.Proofs.YtflalhdofhobmaaGreat
open Go
attribute [local irreducible] Sx Cx Rx Fx Krg Ksq Kbl Klp Kr
section
variable {L F G : St}
/-- What a Pop's next access is. -/
def popNx (a : Option Addr) (q : PopS) : Value := bif q.done then .nilFunc else .func (.func (match q.at_ with | 0 => 222 | 1 => 250 | _ => 263)) #[.pointer a] #[]
def popL (T : TypeId) (sb : Nat) (k : Sk) (q : PopS) (a : Option Addr) (y : (Option Addr × Nat) × Int) : St :=
  [lift (q.ok k), pt a (Blk T [popNx a q, .nilFunc, .nilFunc, .nilFunc, .int .i64 y.2, .pointer (some ⟨sb, 0, none⟩), .int .i64 q.most, .int .i64 q.under, wd q.was, .slice y.1.1 q.got.length y.1.2]), pt y.1.1 (Row 3 1 q.got.length y.1.2 (ints q.got))]
def PopT (T : TypeId) (sb : Nat) (k : Sk) (q : PopS) (a : Option Addr) : As := exs (popL T sb k q a)
abbrev PopO := PopT 278
theorem PopO.close {T : TypeId} {sb : Nat} {k : Sk} {a r : Option Addr} {c n : Nat} {cnt : Int} {v0 v1 v2 v3 : Value} {w : List Value} {F G : St} (q : PopS) (hq : q.ok k)
    [t : Take L a (Blk T [v0, .nilFunc, .nilFunc, .nilFunc, .int .i64 cnt, .pointer (some ⟨sb, 0, none⟩), v1, v2, v3, .slice r n c]) F] [u : Take F r (Row 3 1 n c w) G]
    (h0 : v0 = popNx a q) (h1 : v1 = .int .i64 q.most) (h2 : v2 = .int .i64 q.under) (h3 : v3 = wd q.was) (hn : n = q.got.length) (hw : w = ints q.got) : Ent L (pt a (PopT T sb k q) :: G) := by
  subst h0; subst h1; subst h2; subst h3; subst hn; subst hw
  refine Ent.trans (Ent.take1 (t := t) (Ent.of u.out)) ?_
  refine Ent.trans (Ent.lift hq (Ent.refl _)) ?_
  exact Ent.close (f := popL T sb k q a) rfl ((r, c), cnt)
theorem stackPop {sb : Nat} {k : Sk} (most : Int) (hn : 1 ≤ k.n) : Fx Tryz.prog 162 [.pointer (some ⟨sb, 0, none⟩), .int .i64 most] L (fun v L' => ∃ g, v = .pointer (some ⟨g, 0, none⟩) ∧ L' = pt (some ⟨g, 0, none⟩) (PopO sb k (PopS.init most)) :: L) := by
  refine Fx.mk Tryz.func162 k162 (Nat.le_of_ble_eq_true rfl) ?_
  dsimp only [c162, envOf, Nat.reduceAdd]
  refine go ?_
  refine Sx.bx rfl rfl fun g => ?_
  refine go ?_
  refine Sx.ca rfl (machGo (b := g)) ?_
  rintro v L' ⟨rfl, rfl⟩
  refine go ?_
  refine Kr.one (.inr rfl) rfl ?_ ⟨g, rfl, rfl⟩
  refine Ent.trans (Ent.rownil 3 1) ?_
  refine PopO.close (a := some ⟨g, 0, none⟩) (r := none) (sb := sb) (PopS.init most) (PopS.ok_init hn most) rfl ?_ rfl rfl rfl rfl
  refine congrArg (Value.int .i64) ?_
  show _ = min (max most 1) 8
  simp only [cond_true, cond_false]
  (repeat' split) <;> omega
/-- The frame of a Pop's access. -/
abbrev popF (b sb mp : Nat) (k : Sk) (m : Mm) (q : PopS) (r : Option Addr) (c : Nat) (cnt : Int) (G : St) : St :=
  pt (some ⟨b, 0, none⟩) (Blk 278 [.nilFunc, .nilFunc, .nilFunc, .nilFunc, .int .i64 cnt, .pointer (some ⟨sb, 0, none⟩), .int .i64 q.most, .int .i64 q.under, wd q.was, .slice r q.got.length c]) ::
  pt r (Row 3 1 q.got.length c (ints q.got)) :: pt (some ⟨mp, 0, none⟩) (MemO m) :: pt (some ⟨sb, 0, none⟩) (SkO mp k) :: G
abbrev popR (b sb mp : Nat) (k : Sk) (m : Mm) (q : PopS) (G : St) (v : Value) (L' : St) : Prop :=
  L' = pt (some ⟨b, 0, none⟩) (PopO sb k (popStep k m q).1) :: pt (some ⟨mp, 0, none⟩) (MemO (popStep k m q).2) :: pt (some ⟨sb, 0, none⟩) (SkO mp k) :: G
theorem pop_load_ {b sb mp : Nat} {k : Sk} {m : Mm} {q : PopS} {r : Option Addr} {c : Nat} {cnt : Int} (hm : m.ok) (hk : k.ok m.ws.length) (hq : q.ok k) (ha : q.at_ = 0) (hd : q.done = false) :
    Fx Tryz.prog 222 [.pointer (some ⟨b, 0, none⟩)] (popF b sb mp k m q r c cnt G) (popR b sb mp k m q G) := by
  have hok := popStep_ok hk hm hq
  have hlt := Mm.at_lt hm k.head
  obtain ⟨k1, k2, k3, k4, k5, k6⟩ := hk
  have e : ∀ x, popStep k m q = x → popStep k m q = x := fun _ h => h
  refine Fx.mk Tryz.func222 k222 (Nat.le_of_ble_eq_true rfl) ?_
  dsimp only [c222, envOf, Nat.reduceAdd]
  refine go ?_
  refine Cx.ordc rfl (by kernel_rfl) ?_
  refine ge ?_
  refine Ev.caH (by kernel_rfl) rfl rfl (cellsLoad (b := mp) (m := m) k.head k3) (Pres.deps (by kernel_rfl)) ?_
  rintro v L' ⟨rfl, rfl⟩
  refine ge ?_
  refine Ev.stbH (b := b) (by kernel_rfl) rfl rfl rfl rfl rfl (by rfl) rfl (Pres.deps (by kernel_rfl)) ?_
  refine ge ?_
  refine go ?_
  refine Cx.ordc rfl (by kernel_rfl) ?_
  refine ge ?_
  refine Ev.cakH (by kernel_rfl) rfl rfl (stackTop (sb := sb) (mp := mp) (k := k) (m.at_ k.head) hlt) ?_
  refine ge ?_
  refine go ?_
  refine Cx.ifp rfl (fun h => ?_) (fun h => ?_)
  · have e : popStep k m q = ({ q with was := m.at_ k.head, got := [k.top (m.at_ k.head)], at_ := 1 }, m.tick) := by
      unfold popStep; rw [hd, ha]; simp only [Bool.false_eq_true, if_false]; rw [if_pos h]
    rw [e] at hok
    refine go ?_
    refine Sx.bs (sz := 1) rfl rfl fun g => ?_
    refine Sx.apn rfl rfl (Rd.row (b := g) (E := 3) (cap := 1) rfl) rfl (by simp [maxLen]) (by omega) fun ra ca hc => ?_
    refine go ?_
    refine Sx.ca rfl (machGo (b := b)) ?_
    rintro v L' ⟨rfl, rfl⟩
    refine go ?_
    refine Kr.none (.inl rfl) ?_ rfl
    rw [e]
    refine Ent.trans (PopO.close (a := some ⟨b, 0, none⟩) (r := ra) (sb := sb) (k := k) _ hok ?_ rfl rfl rfl rfl rfl) ?_
    · simp [popNx, hd]
    · exact ent
  · have e : popStep k m q = ({ q with was := m.at_ k.head, got := [], done := true }, m.tick) := by
      unfold popStep; rw [hd, ha]; simp only [Bool.false_eq_true, if_false]; rw [if_neg h]
    rw [e] at hok
    refine go ?_
    refine Kr.none (.inl rfl) ?_ rfl
    rw [e]
    refine Ent.trans (Ent.rownil 3 1) ?_
    refine Ent.trans (PopO.close (a := some ⟨b, 0, none⟩) (r := none) (sb := sb) (k := k) _ hok ?_ rfl rfl rfl rfl rfl) ?_
    · simp [popNx]
    · exact ent
theorem lastI_get {l : List Int} (h : l ≠ []) : l[l.length - 1]? = some (lastI l) := by
  unfold lastI
  rw [List.getLastD_eq_getLast?, ← List.getLast?_eq_getElem?, List.getLast?_eq_some_getLast h]; rfl
theorem pop_link_ {b sb mp : Nat} {k : Sk} {m : Mm} {q : PopS} {r : Option Addr} {c : Nat} {cnt : Int} (hm : m.ok) (hk : k.ok m.ws.length) (hq : q.ok k) (ha : q.at_ = 1) (hd : q.done = false) :
    Fx Tryz.prog 250 [.pointer (some ⟨b, 0, none⟩)] (popF b sb mp k m q r c cnt G) (popR b sb mp k m q G) := by
  have hok := popStep_ok hk hm hq
  have hne := hq.ne hd (by omega)
  have hlp := List.length_pos_iff.2 hne
  have hrg := hq.g _ (lastI_mem hne)
  have hlen := hq.len
  obtain ⟨k1, k2, k3, k4, k5, k6⟩ := hk
  have hx0 : (ints q.got)[q.got.length - 1]? = some (.int .i64 (lastI q.got)) := by simp only [ints, List.getElem?_map, lastI_get hne]; rfl
  obtain ⟨x, hx⟩ : ∃ x : Nat, lastI q.got = x := ⟨(lastI q.got).toNat, by omega⟩
  have hlt := Mm.at_lt hm (k.links + x)
  have hat : k.links + (lastI q.got).toNat = k.links + x := by omega
  refine Fx.mk Tryz.func250 k250 (Nat.le_of_ble_eq_true rfl) ?_
  dsimp only [c250, envOf, Nat.reduceAdd]
  refine Cx.rowkey (a := r) fun hxl _ _ hkr => ?_
  obtain ⟨rg, rfl⟩ : ∃ g, r = some ⟨g, 0, none⟩ := by
    rcases hkr with h | h
    · omega
    · exact h
  refine go ?_
  refine Cx.ordc rfl (by kernel_rfl) ?_
  refine ge ?_
  rw [w64 (n := (q.got.length : Int) - 1) (by omega) (by omega)]
  refine Ev.pvH (by kernel_rfl) rfl rfl ⟨by omega, by omega⟩ ?_
  refine Ev.ldrH (b := rg) (by kernel_rfl) rfl rfl (v := .int .i64 (lastI q.got)) (by rw [show 0 + ((q.got.length : Int) - 1).toNat * 1 = q.got.length - 1 by omega]; exact hx0) ?_
  refine ge ?_
  rw [hx, w64 (n := (k.links : Int) + x) (by omega) (by omega), show (k.links : Int) + x = ((k.links + x : Nat) : Int) by omega]
  refine Ev.caH (by kernel_rfl) rfl rfl (cellsLoad (b := mp) (m := m) (k.links + x) (by omega)) (Pres.deps (by kernel_rfl)) ?_
  rintro v L' ⟨rfl, rfl⟩
  refine ge ?_
  refine go ?_
  refine Sx.ca rfl (stackBelow (sb := sb) (mp := mp) (k := k) (m.at_ (k.links + x)) hlt k2) ?_
  rintro v L' ⟨rfl, rfl⟩
  refine go ?_
  refine Cx.ordc rfl (by kernel_rfl) ?_
  refine ge ?_
  have hbl := k.below_lt (m.at_ (k.links + x))
  have no : (popStep k m q = ({ q with under := k.below (m.at_ (k.links + x)), at_ := 2 }, m.tick)) → Ent
      (pt (some ⟨b, 0, none⟩) (Blk 278 [mth 263 b, .nilFunc, .nilFunc, .nilFunc, .int .i64 cnt, .pointer (some ⟨sb, 0, none⟩), .int .i64 q.most, .int .i64 (k.below (m.at_ (k.links + x))), wd q.was, .slice (some ⟨rg, 0, none⟩) q.got.length c]) ::
        pt (some ⟨mp, 0, none⟩) (MemO m.tick) :: pt (some ⟨rg, 0, none⟩) (Row 3 1 q.got.length c (ints q.got)) :: pt (some ⟨sb, 0, none⟩) (SkO mp k) :: G)
      (pt (some ⟨b, 0, none⟩) (PopO sb k (popStep k m q).1) :: pt (some ⟨mp, 0, none⟩) (MemO (popStep k m q).2) :: pt (some ⟨sb, 0, none⟩) (SkO mp k) :: G) := by
    intro e
    rw [e] at hok ⊢
    refine Ent.trans (PopO.close (a := some ⟨b, 0, none⟩) (r := some ⟨rg, 0, none⟩) (sb := sb) (k := k) _ hok ?_ rfl rfl rfl rfl rfl) (Ent.refl _)
    simp [popNx, hd]
  have eno : (¬ (0 ≤ k.below (m.at_ (k.links + x)) ∧ (q.got.length : Int) < q.most)) → popStep k m q = ({ q with under := k.below (m.at_ (k.links + x)), at_ := 2 }, m.tick) := by
    intro h
    unfold popStep; rw [hd, ha]; simp only [Bool.false_eq_true, if_false]; rw [hat, if_neg h]
  by_cases h0 : 0 ≤ k.below (m.at_ (k.links + x))
  · refine Ev.yes 49 rfl (decide_eq_true h0) ?_
    refine ge ?_
    refine Cx.ifp rfl (fun h1 => ?_) (fun h1 => ?_)
    · have e : popStep k m q = ({ q with under := k.below (m.at_ (k.links + x)), got := q.got ++ [k.below (m.at_ (k.links + x))] }, m.tick) := by
        unfold popStep; rw [hd, ha]; simp only [Bool.false_eq_true, if_false]; rw [hat, if_pos ⟨h0, h1⟩]
      rw [e] at hok
      refine go ?_
      refine Cx.ordc rfl (by kernel_rfl) ?_
      refine ge ?_
      refine Ev.bsH (sz := 1) (by kernel_rfl) rfl rfl rfl (.dep rfl (.keep (fun v L' ⟨_, _, e⟩ => by subst e; exact Has.cell rfl) .nil)) fun g => ?_
      refine ge ?_
      refine Ev.apH (ra := some ⟨rg, 0, none⟩) (by kernel_rfl) rfl rfl rfl (Rd.row (b := g) (E := 3) (cap := 1) rfl) rfl (by simp [maxLen]; omega) (by omega) (Pres.deps (by kernel_rfl)) fun ra ca hc hka => ?_
      refine ge ?_
      refine Ev.stbH (b := b) (by kernel_rfl) rfl rfl rfl rfl rfl (by rfl) rfl (Pres.deps (by kernel_rfl)) ?_
      refine ge ?_
      refine go ?_
      refine Sx.ca rfl (machGo (b := b)) ?_
      rintro v L' ⟨rfl, rfl⟩
      refine go ?_
      refine Kr.none (.inl rfl) ?_ rfl
      rw [e]
      refine Ent.trans (PopO.close (a := some ⟨b, 0, none⟩) (r := ra) (sb := sb) (k := k) _ hok ?_ rfl rfl rfl (by simp) (by simp [ints_append]; rfl)) ?_
      · simp [popNx, hd, ha]
      · exact ent
    · refine go ?_
      refine Sx.ca rfl (machGo (b := b)) ?_
      rintro v L' ⟨rfl, rfl⟩
      refine go ?_
      exact Kr.none (.inl rfl) (no (eno fun h => h1 h.2)) rfl
  · refine Ev.no 49 rfl (decide_eq_false h0) ?_
    refine ge ?_
    refine go ?_
    refine Sx.ca rfl (machGo (b := b)) ?_
    rintro v L' ⟨rfl, rfl⟩
    refine go ?_
    exact Kr.none (.inl rfl) (no (eno fun h => h0 h.1)) rfl
theorem pop_cas_ {b sb mp : Nat} {k : Sk} {m : Mm} {q : PopS} {r : Option Addr} {c : Nat} {cnt : Int} (hm : m.ok) (hk : k.ok m.ws.length) (hq : q.ok k) (ha : q.at_ = 2) (hd : q.done = false) :
    Fx Tryz.prog 263 [.pointer (some ⟨b, 0, none⟩)] (popF b sb mp k m q r c cnt G) (popR b sb mp k m q G) := by
  have hok := popStep_ok hk hm hq
  have e : popStep k m q = ({ q with at_ := 0, done := decide (m.at_ k.head = q.was) }, m.cas k.head q.was (nextW q.was q.under)) := by
    unfold popStep; rw [hd, ha]; rfl
  rw [e] at hok
  refine Fx.mk Tryz.func263 k263 (Nat.le_of_ble_eq_true rfl) ?_
  dsimp only [c263, envOf, Nat.reduceAdd]
  refine go ?_
  refine Cx.ordc rfl (by kernel_rfl) ?_
  refine ge ?_
  refine Ev.caH (by kernel_rfl) rfl rfl (stackExchange (sb := sb) (mp := mp) (k := k) (m := m) q.was q.under hk hq.w hq.u1 hq.u2) (Pres.deps (by kernel_rfl)) ?_
  rintro v L' ⟨rfl, rfl⟩
  refine ge ?_
  refine Cx.ifn rfl (fun h => ?_) (fun h => ?_)
  · rw [decide_eq_false h] at e hok
    refine go ?_
    refine Sx.ca rfl (machGo (b := b)) ?_
    rintro v L' ⟨rfl, rfl⟩
    refine go ?_
    refine Kr.none (.inl rfl) ?_ rfl
    rw [e]
    refine Ent.trans (PopO.close (a := some ⟨b, 0, none⟩) (r := r) (sb := sb) (k := k) _ hok ?_ rfl rfl rfl rfl rfl) ?_
    · simp [popNx]
    · exact ent
  · rw [decide_eq_true h] at e hok
    refine go ?_
    refine Kr.none (.inl rfl) ?_ rfl
    rw [e]
    refine Ent.trans (PopO.close (a := some ⟨b, 0, none⟩) (r := r) (sb := sb) (k := k) _ hok ?_ rfl rfl rfl rfl rfl) ?_
    · simp [popNx]
    · exact ent
theorem memKey {b : Nat} {m : Mm} {F : St} [t : Take L (some ⟨b, 0, none⟩) (MemO m) F] : ∀ h, holds L h → m.ok ∧ m.ws.length ≤ 8388608 := by
  intro h hh
  have h1 := t.out h hh
  obtain ⟨y, hy⟩ := holds_ex.1 h1
  have := holds_lift.1 hy
  exact ⟨this.1.1, this.1.2.1⟩
/-- One access of a Pop. -/
theorem popStepC {b sb mp : Nat} {k : Sk} {m : Mm} {q : PopS} {F1 F2 : St} (hk : k.ok m.ws.length) [tp : Take L (some ⟨b, 0, none⟩) (PopO sb k q) F1] [t : Take F1 (some ⟨mp, 0, none⟩) (MemO m) F2] [s : Take F2 (some ⟨sb, 0, none⟩) (SkO mp k) G] :
    Fx Tryz.prog 163 [.pointer (some ⟨b, 0, none⟩)] L (fun v L' => v = .bool (!q.done) ∧ L' = pt (some ⟨b, 0, none⟩) (PopO sb k (popStep k m q).1) :: pt (some ⟨mp, 0, none⟩) (MemO (popStep k m q).2) :: F2) := by
  refine Fx.mk Tryz.func163 k163 (Nat.le_of_ble_eq_true rfl) ?_
  dsimp only [c163, envOf, Nat.reduceAdd]
  refine Cx.ent (Ent.trans (Ent.of tp.out) (Ent.cons (Ent.trans (Ent.of t.out) (Ent.cons (Ent.of s.out))))) ?_
  refine Cx.pure (memKey (b := mp) (m := m)) fun hm => ?_
  refine Cx.openp (a := some ⟨b, 0, none⟩) rfl ?_
  rintro ⟨⟨r, c⟩, cnt⟩
  simp only [popL, List.cons_append, List.nil_append]
  refine Cx.liftp fun hq => ?_
  cases hd : q.done with
  | true =>
    have e : popStep k m q = (q, m) := by unfold popStep; rw [hd]; rfl
    rw [e, show popNx (some ⟨b, 0, none⟩) q = .nilFunc by simp [popNx, hd]]
    refine go ?_
    refine Sx.ca rfl (machStepDone (b := b)) ?_
    rintro v L' ⟨rfl, rfl⟩
    refine go ?_
    refine Kr.one (.inr rfl) rfl ?_ ⟨rfl, rfl⟩
    refine Ent.trans (PopO.close (a := some ⟨b, 0, none⟩) (r := r) (sb := sb) (k := k) q hq ?_ rfl rfl rfl rfl rfl) (Ent.cons (Ent.cons (Ent.of s.back)))
    simp [popNx, hd]
  | false =>
    have hcase := hq.a
    rcases (show q.at_ = 0 ∨ q.at_ = 1 ∨ q.at_ = 2 by omega) with ha | ha | ha
    · rw [show popNx (some ⟨b, 0, none⟩) q = .func (.func 222) #[.pointer (some ⟨b, 0, none⟩)] #[] by simp [popNx, hd, ha]]
      refine go ?_
      refine Sx.ca rfl (machStep (b := b) (by kernel_rfl) (pop_load_ (G := G) hm.1 hk hq ha hd)) ?_
      rintro v L' ⟨rfl, u, rfl⟩
      refine go ?_
      exact Kr.one (.inr rfl) rfl (Ent.cons (Ent.cons (Ent.of s.back))) ⟨rfl, rfl⟩
    · rw [show popNx (some ⟨b, 0, none⟩) q = .func (.func 250) #[.pointer (some ⟨b, 0, none⟩)] #[] by simp [popNx, hd, ha]]
      refine go ?_
      refine Sx.ca rfl (machStep (b := b) (by kernel_rfl) (pop_link_ (G := G) hm.1 hk hq ha hd)) ?_
      rintro v L' ⟨rfl, u, rfl⟩
      refine go ?_
      exact Kr.one (.inr rfl) rfl (Ent.cons (Ent.cons (Ent.of s.back))) ⟨rfl, rfl⟩
    · rw [show popNx (some ⟨b, 0, none⟩) q = .func (.func 263) #[.pointer (some ⟨b, 0, none⟩)] #[] by simp [popNx, hd, ha]]
      refine go ?_
      refine Sx.ca rfl (machStep (b := b) (by kernel_rfl) (pop_cas_ (G := G) hm.1 hk hq ha hd)) ?_
      rintro v L' ⟨rfl, u, rfl⟩
      refine go ?_
      exact Kr.one (.inr rfl) rfl (Ent.cons (Ent.cons (Ent.of s.back))) ⟨rfl, rfl⟩
theorem popDoneC {b sb : Nat} {k : Sk} {q : PopS} {F1 : St} [tp : Take L (some ⟨b, 0, none⟩) (PopO sb k q) F1] : Fx Tryz.prog 164 [.pointer (some ⟨b, 0, none⟩)] L (fun v L' => v = .bool q.done ∧ L = L') := by
  refine Fx.kept (t := tp) ?_
  refine Fx.mk Tryz.func164 k164 (Nat.le_of_ble_eq_true rfl) ?_
  dsimp only [c164, envOf, Nat.reduceAdd]
  refine Cx.openp (t := tp) rfl ?_
  rintro ⟨⟨r, c⟩, cnt⟩
  simp only [popL, List.cons_append, List.nil_append]
  refine Cx.liftp fun hq => ?_
  cases hd : q.done with
  | true =>
    have e : popNx (some ⟨b, 0, none⟩) q = .nilFunc := by simp [popNx, hd]
    rw [e]
    refine go ?_
    refine Sx.ca rfl (machDoneYes (b := b)) ?_
    rintro v L' ⟨rfl, rfl⟩
    refine go ?_
    exact Kr.one (.inr rfl) rfl (PopO.close (a := some ⟨b, 0, none⟩) (r := r) (sb := sb) (k := k) q hq e.symm rfl rfl rfl rfl rfl) ⟨rfl, rfl⟩
  | false =>
    have e : popNx (some ⟨b, 0, none⟩) q = .func (.func (match q.at_ with | 0 => 222 | 1 => 250 | _ => 263)) #[.pointer (some ⟨b, 0, none⟩)] #[] := by simp [popNx, hd]
    rw [e]
    refine go ?_
    refine Sx.ca rfl (machDoneNo (b := b)) ?_
    rintro v L' ⟨rfl, rfl⟩
    refine go ?_
    exact Kr.one (.inr rfl) rfl (PopO.close (a := some ⟨b, 0, none⟩) (r := r) (sb := sb) (k := k) q hq e.symm rfl rfl rfl rfl rfl) ⟨rfl, rfl⟩
/-- What a Pop got. -/
theorem popGot {b sb : Nat} {k : Sk} {q : PopS} {F1 : St} (hd : q.done = true) [tp : Take L (some ⟨b, 0, none⟩) (PopO sb k q) F1] : Fx Tryz.prog 223 [.pointer (some ⟨b, 0, none⟩)] L
    (fun v L' => ∃ ro co, v = .slice ro q.got.length co ∧ L' = pt ro (Row 3 1 q.got.length co (ints q.got)) :: pt (some ⟨b, 0, none⟩) (PopO sb k q) :: F1) := by
  refine Fx.mk Tryz.func223 k223 (Nat.le_of_ble_eq_true rfl) ?_
  dsimp only [c223, envOf, Nat.reduceAdd]
  refine go ?_
  refine Sx.ca rfl (popDoneC (b := b) (sb := sb) (k := k) (q := q)) ?_
  rintro v L' ⟨rfl, rfl⟩
  rw [hd]
  refine go ?_
  refine Sx.openp (t := tp) rfl ?_
  rintro ⟨⟨r, c⟩, cnt⟩
  simp only [popL, List.cons_append, List.nil_append]
  refine Sx.liftp fun hq => ?_
  have hlen := hq.len
  refine go ?_
  refine Sx.rowkey (a := r) fun hxl _ _ hkr => ?_
  refine Sx.ca rfl (clone (Rd.any (a := r) hxl (hkr.imp (fun h => h.2.1) id)) (ones_ints _) (by omega)) ?_
  rintro v L' ⟨ra, ca, rfl, rfl⟩
  refine go ?_
  refine Kr.one (.inr rfl) rfl (Ent.cons (PopO.close (a := some ⟨b, 0, none⟩) (r := r) (sb := sb) (k := k) q hq rfl rfl rfl rfl rfl rfl)) ⟨ra, ca, rfl, rfl⟩
end
end Go.Proofs.YtflalhdofhobmaaGreat

/-
  Which configurations may be, told by the program and by the document: one and the same.
-/
set_option linter.unusedVariables false
set_option linter.unusedSimpArgs false
namespace Go.Proofs.YtflalhdofhobmaaGreat
open Go
attribute [local irreducible] Sx Cx Rx Fx Krg Ksq Kbl Klp Kr
section
variable {L F : St}
/-- A configuration. -/
abbrev cfg (w c wd sl ca ba : Int) : Value := .agg #[.int .i64 w, .int .i64 c, .int .i64 wd, .int .i64 sl, .int .i64 ca, .int .i64 ba]
/-- It may be. -/
def MayC (w c wd sl ca ba : Int) : Prop := (1 ≤ w ∧ w ≤ 64) ∧ (1 ≤ c ∧ c ≤ 4096) ∧ (8 ≤ wd ∧ wd ≤ 1024) ∧ wd.tmod 8 = 0 ∧ (1 ≤ sl ∧ sl ≤ 4096) ∧ (0 ≤ ca ∧ ca ≤ 64) ∧ (1 ≤ ba ∧ ba ≤ 8)
instance (w c wd sl ca ba : Int) : Decidable (MayC w c wd sl ca ba) := by unfold MayC; infer_instance
theorem within_ (n lo hi : Int) : Fx Tryz.prog 82 [.int .i64 n, .int .i64 lo, .int .i64 hi] L (fun v L' => v = .bool (decide (lo ≤ n ∧ n ≤ hi)) ∧ L = L') := by
  refine Fx.mk Tryz.func82 k82 (Nat.le_of_ble_eq_true rfl) ?_
  dsimp only [c82, envOf, Nat.reduceAdd]
  refine go ?_
  refine Sx.ifp rfl (fun h => ?_) (fun h => ?_)
  · refine go ?_
    exact Kr.one (.inr rfl) rfl (Ent.refl _) ⟨by simp [pick, h], rfl⟩
  · refine go ?_
    exact Kr.one (.inr rfl) rfl (Ent.refl _) ⟨by simp [pick, h], rfl⟩
theorem may_ (w c wd sl ca ba : Int) : Fx Tryz.prog 77 [cfg w c wd sl ca ba] L (fun v L' => v = .bool (decide (MayC w c wd sl ca ba)) ∧ L = L') := by
  refine Fx.mk Tryz.func77 k77 (Nat.le_of_ble_eq_true rfl) ?_
  dsimp only [c77, envOf, Nat.reduceAdd]
  refine go ?_
  refine Sx.bx rfl rfl fun g => ?_
  refine go ?_
  refine Sx.ca rfl (within_ w 1 64) ?_
  rintro v L' ⟨rfl, rfl⟩
  refine go ?_
  refine Sx.ifp rfl (fun h1 => ?_) (fun h1 => ?_)
  rotate_left
  · refine go ?_
    exact Kr.one (.inr rfl) rfl Ent.drop ⟨by rw [decide_eq_false (fun h : MayC w c wd sl ca ba => h1 h.1)], rfl⟩
  refine go ?_
  refine Sx.ca rfl (within_ c 1 4096) ?_
  rintro v L' ⟨rfl, rfl⟩
  refine go ?_
  refine Sx.ifp rfl (fun h2 => ?_) (fun h2 => ?_)
  rotate_left
  · refine go ?_
    exact Kr.one (.inr rfl) rfl Ent.drop ⟨by rw [decide_eq_false (fun h : MayC w c wd sl ca ba => h2 h.2.1)], rfl⟩
  refine go ?_
  refine Sx.ca rfl (within_ wd 8 1024) ?_
  rintro v L' ⟨rfl, rfl⟩
  refine go ?_
  refine Sx.ifp rfl (fun h3 => ?_) (fun h3 => ?_)
  rotate_left
  · refine go ?_
    exact Kr.one (.inr rfl) rfl Ent.drop ⟨by rw [decide_eq_false (fun h : MayC w c wd sl ca ba => h3 h.2.2.1)], rfl⟩
  refine go ?_
  refine Sx.pv rfl (by decide) ?_
  refine go ?_
  refine Sx.ifp rfl (fun h4 => ?_) (fun h4 => ?_)
  rotate_left
  · refine go ?_
    exact Kr.one (.inr rfl) rfl Ent.drop ⟨by rw [decide_eq_false (fun h : MayC w c wd sl ca ba => h4 h.2.2.2.1)], rfl⟩
  refine go ?_
  refine Sx.ca rfl (within_ sl 1 4096) ?_
  rintro v L' ⟨rfl, rfl⟩
  refine go ?_
  refine Sx.ifp rfl (fun h5 => ?_) (fun h5 => ?_)
  rotate_left
  · refine go ?_
    exact Kr.one (.inr rfl) rfl Ent.drop ⟨by rw [decide_eq_false (fun h : MayC w c wd sl ca ba => h5 h.2.2.2.2.1)], rfl⟩
  refine go ?_
  refine Sx.ca rfl (within_ ca 0 64) ?_
  rintro v L' ⟨rfl, rfl⟩
  refine go ?_
  refine Sx.ifp rfl (fun h6 => ?_) (fun h6 => ?_)
  rotate_left
  · refine go ?_
    exact Kr.one (.inr rfl) rfl Ent.drop ⟨by rw [decide_eq_false (fun h : MayC w c wd sl ca ba => h6 h.2.2.2.2.2.1)], rfl⟩
  refine go ?_
  refine Sx.ca rfl (within_ ba 1 8) ?_
  rintro v L' ⟨rfl, rfl⟩
  refine go ?_
  refine Kr.one (.inr rfl) rfl Ent.drop ⟨?_, rfl⟩
  simp only [pick, cond_true, Value.bool.injEq, decide_eq_decide]
  exact ⟨fun h => ⟨h1, h2, h3, h4, h5, h6, h⟩, fun h => h.2.2.2.2.2.2⟩
theorem in_ (n lo hi : Int) : Fx Tryz.prog 173 [.int .i64 n, .int .i64 lo, .int .i64 hi] L (fun v L' => v = .bool (decide (lo ≤ n ∧ n ≤ hi)) ∧ L = L') := by
  refine Fx.mk Tryz.func173 k173 (Nat.le_of_ble_eq_true rfl) ?_
  dsimp only [c173, envOf, Nat.reduceAdd]
  refine go ?_
  refine Sx.ifp rfl (fun h => ?_) (fun h => ?_)
  · refine go ?_
    exact Kr.one (.inr rfl) rfl (Ent.refl _) ⟨by simp [pick, h], rfl⟩
  · refine go ?_
    exact Kr.one (.inr rfl) rfl (Ent.refl _) ⟨by simp [pick, h], rfl⟩
theorem refMay_ (w c wd sl ca ba : Int) : Fx Tryz.prog 185 [cfg w c wd sl ca ba] L (fun v L' => v = .bool (decide (MayC w c wd sl ca ba)) ∧ L = L') := by
  refine Fx.mk Tryz.func185 k185 (Nat.le_of_ble_eq_true rfl) ?_
  dsimp only [c185, envOf, Nat.reduceAdd]
  refine go ?_
  refine Sx.bx rfl rfl fun g => ?_
  refine go ?_
  refine Sx.ca rfl (in_ w 1 64) ?_
  rintro v L' ⟨rfl, rfl⟩
  refine go ?_
  refine Sx.ifp rfl (fun h1 => ?_) (fun h1 => ?_)
  rotate_left
  · refine go ?_
    exact Kr.one (.inr rfl) rfl Ent.drop ⟨by rw [decide_eq_false (fun h : MayC w c wd sl ca ba => h1 h.1)], rfl⟩
  refine go ?_
  refine Sx.ca rfl (in_ c 1 4096) ?_
  rintro v L' ⟨rfl, rfl⟩
  refine go ?_
  refine Sx.ifp rfl (fun h2 => ?_) (fun h2 => ?_)
  rotate_left
  · refine go ?_
    exact Kr.one (.inr rfl) rfl Ent.drop ⟨by rw [decide_eq_false (fun h : MayC w c wd sl ca ba => h2 h.2.1)], rfl⟩
  refine go ?_
  refine Sx.ca rfl (in_ wd 8 1024) ?_
  rintro v L' ⟨rfl, rfl⟩
  refine go ?_
  refine Sx.ifp rfl (fun h3 => ?_) (fun h3 => ?_)
  rotate_left
  · refine go ?_
    exact Kr.one (.inr rfl) rfl Ent.drop ⟨by rw [decide_eq_false (fun h : MayC w c wd sl ca ba => h3 h.2.2.1)], rfl⟩
  refine go ?_
  refine Sx.pv rfl (by decide) ?_
  refine go ?_
  refine Sx.ifp rfl (fun h4 => ?_) (fun h4 => ?_)
  rotate_left
  · refine go ?_
    exact Kr.one (.inr rfl) rfl Ent.drop ⟨by rw [decide_eq_false (fun h : MayC w c wd sl ca ba => h4 h.2.2.2.1)], rfl⟩
  refine go ?_
  refine Sx.ca rfl (in_ sl 1 4096) ?_
  rintro v L' ⟨rfl, rfl⟩
  refine go ?_
  refine Sx.ifp rfl (fun h5 => ?_) (fun h5 => ?_)
  rotate_left
  · refine go ?_
    exact Kr.one (.inr rfl) rfl Ent.drop ⟨by rw [decide_eq_false (fun h : MayC w c wd sl ca ba => h5 h.2.2.2.2.1)], rfl⟩
  refine go ?_
  refine Sx.ca rfl (in_ ca 0 64) ?_
  rintro v L' ⟨rfl, rfl⟩
  refine go ?_
  refine Sx.ifp rfl (fun h6 => ?_) (fun h6 => ?_)
  rotate_left
  · refine go ?_
    exact Kr.one (.inr rfl) rfl Ent.drop ⟨by rw [decide_eq_false (fun h : MayC w c wd sl ca ba => h6 h.2.2.2.2.2.1)], rfl⟩
  refine go ?_
  refine Sx.ca rfl (in_ ba 1 8) ?_
  rintro v L' ⟨rfl, rfl⟩
  refine go ?_
  refine Kr.one (.inr rfl) rfl Ent.drop ⟨?_, rfl⟩
  simp only [pick, cond_true, Value.bool.injEq, decide_eq_decide]
  exact ⟨fun h => ⟨h1, h2, h3, h4, h5, h6, h⟩, fun h => h.2.2.2.2.2.2⟩
end
end Go.Proofs.YtflalhdofhobmaaGreat

/-
  Lay: which cell is what.
-/
set_option linter.unusedVariables false
set_option linter.unusedSimpArgs false
namespace Go.Proofs.YtflalhdofhobmaaGreat
open Go
attribute [local irreducible] Sx Cx Rx Fx Krg Ksq Kbl Klp Kr
/-- Where the parts begin. -/
def startC (w c wd sl : Int) (i : Nat) : Int := match i with
  | 0 => 3
  | 1 => 3 + w
  | 2 => 3 + w + sl
  | 3 => 3 + w + sl + sl
  | 4 => 3 + w + sl + sl + c
  | _ => 3 + w + sl + sl + c + c * wd
/-- How many there are of each. -/
def manyC (w c wd sl : Int) (i : Nat) : Int := match i with
  | 0 => w
  | 1 => sl
  | 2 => sl
  | 3 => c
  | _ => c * wd
def lenC (w c wd sl : Int) : Int := 3 + w + sl + sl + c + c * wd
def frC (w c wd sl : Int) (i j : Nat) : Value := .int .i64 (bif Nat.blt j i then startC w c wd sl j else 0)
def partsL (w c wd sl : Int) (i : Nat) : List Value :=
  [.int .i64 3, frC w c wd sl i 0, .int .i64 w, .int .i64 4, frC w c wd sl i 1, .int .i64 sl, .int .i64 5, frC w c wd sl i 2, .int .i64 sl, .int .i64 6, frC w c wd sl i 3, .int .i64 c, .int .i64 7, frC w c wd sl i 4, .int .i64 (c * wd)]
theorem MayC.mul {w c wd sl ca ba : Int} (h : MayC w c wd sl ca ba) : 8 ≤ c * wd ∧ c * wd ≤ 4194304 := by
  obtain ⟨_, h2, h3, _⟩ := h
  constructor
  · have := Int.mul_le_mul h2.1 h3.1 (by omega) (by omega); omega
  · have := Int.mul_le_mul h2.2 h3.2 (by omega) (by omega); omega
section
variable {L F : St}
set_option maxHeartbeats 2000000 in
theorem layParts (w c wd sl ca ba : Int) (h : MayC w c wd sl ca ba) : Fx Tryz.prog 78 [cfg w c wd sl ca ba] L (fun v L' => v = .agg (partsL w c wd sl 5).toArray ∧ L = L') := by
  have hm := h.mul
  obtain ⟨h1, h2, h3, h4, h5, h6, h7⟩ := h
  refine Fx.mk Tryz.func78 k78 (Nat.le_of_ble_eq_true rfl) ?_
  dsimp only [c78, envOf, Nat.reduceAdd]
  refine Cx.sq ?_
  refine Cx.rg ?_
  refine Sx.bx rfl rfl fun g => ?_
  refine Sx.al fun r => ?_
  refine go ?_
  rw [w64 (n := c * wd) (by omega) (by omega)]
  refine Sx.al fun q => ?_
  refine Sx.st (b := q) rfl rfl rfl rfl rfl rfl ?_
  refine go ?_
  refine Cx.lp (α := {i : Nat // i ≤ 5}) (fun i => [(2, .pointer (some ⟨r, 0, none⟩)), (3, .pointer (some ⟨q, 0, none⟩)), (4, .int .i64 (startC w c wd sl i.1)), (25, .int .i64 i.1)])
    (fun i => pt (some ⟨q, 0, none⟩) (Blk 143 (partsL w c wd sl i.1)) :: pt (some ⟨r, 0, none⟩) (Blk 143 (List.replicate 15 (.int .i64 0))) :: L) (fun i => 5 - i.1) ⟨0, by omega⟩ (sub.cons rfl (sub.cons rfl (sub.cons rfl (sub.cons rfl sub.nil)))) (Ent.cons (Ent.cons Ent.drop)) ?_
  rintro ⟨i, hi⟩
  dsimp only
  rcases (show i = 0 ∨ i = 1 ∨ i = 2 ∨ i = 3 ∨ i = 4 ∨ i = 5 by omega) with rfl | rfl | rfl | rfl | rfl | rfl
  · refine gg ?_
    simp only [startC]
    rw [w64 (n := (3 : Int) + w) (by omega) (by omega)]
    exact Klp.nm ⟨0 + 1, by omega⟩ (sub.cons rfl (sub.cons rfl (sub.cons rfl (sub.cons rfl sub.nil)))) (Ent.refl _) (by simp)
  · refine gg ?_
    simp only [startC]
    rw [w64 (n := 3 + w + sl) (by omega) (by omega)]
    exact Klp.nm ⟨1 + 1, by omega⟩ (sub.cons rfl (sub.cons rfl (sub.cons rfl (sub.cons rfl sub.nil)))) (Ent.refl _) (by simp)
  · refine gg ?_
    simp only [startC]
    rw [w64 (n := 3 + w + sl + sl) (by omega) (by omega)]
    exact Klp.nm ⟨2 + 1, by omega⟩ (sub.cons rfl (sub.cons rfl (sub.cons rfl (sub.cons rfl sub.nil)))) (Ent.refl _) (by simp)
  · refine gg ?_
    simp only [startC]
    rw [w64 (n := 3 + w + sl + sl + c) (by omega) (by omega)]
    exact Klp.nm ⟨3 + 1, by omega⟩ (sub.cons rfl (sub.cons rfl (sub.cons rfl (sub.cons rfl sub.nil)))) (Ent.refl _) (by simp)
  · refine gg ?_
    simp only [startC]
    rw [w64 (n := 3 + w + sl + sl + c + c * wd) (by omega) (by omega)]
    exact Klp.nm ⟨4 + 1, by omega⟩ (sub.cons rfl (sub.cons rfl (sub.cons rfl (sub.cons rfl sub.nil)))) (Ent.refl _) (by simp)
  · refine go ?_
    refine Sx.st (b := r) rfl rfl rfl rfl rfl rfl ?_
    refine go ?_
    exact Kr_cell (b := r) (.inr rfl) rfl rfl (L' := L) (Ent.trans Ent.drop Ent.drop) ⟨rfl, rfl⟩
theorem layLen (w c wd sl ca ba : Int) (h : MayC w c wd sl ca ba) : Fx Tryz.prog 17 [cfg w c wd sl ca ba] L (fun v L' => v = .int .i64 (lenC w c wd sl) ∧ L = L') := by
  have hm := h.mul
  refine Fx.mk Tryz.func17 k17 (Nat.le_of_ble_eq_true rfl) ?_
  dsimp only [c17, envOf, Nat.reduceAdd]
  refine Cx.sq ?_
  refine Cx.rg ?_
  refine Sx.bx rfl rfl fun g => ?_
  refine go ?_
  refine Sx.ca rfl (may_ w c wd sl ca ba) ?_
  rintro v L' ⟨rfl, rfl⟩
  rw [decide_eq_true h]
  refine go ?_
  refine Sx.ca rfl (layParts w c wd sl ca ba h) ?_
  rintro v L' ⟨rfl, rfl⟩
  obtain ⟨h1, h2, h3, h4, h5, h6, h7⟩ := h
  refine Sx.al fun q => ?_
  refine Sx.st (b := q) rfl rfl rfl rfl rfl rfl ?_
  refine gg ?_
  refine Sx.al fun r => ?_
  refine Sx.st (b := r) rfl rfl rfl rfl rfl rfl ?_
  refine go ?_
  exact Kr.one (.inr rfl) rfl (Ent.trans Ent.drop (Ent.trans Ent.drop Ent.drop)) ⟨congrArg (Value.int .i64) (w64 (n := 3 + w + sl + sl + c + c * wd) (by omega) (by omega)), rfl⟩
/-- A cell by its kind. -/
def cellC (w c wd sl : Int) (q : Nat) (n : Int) : Int := if 0 ≤ n ∧ n < manyC w c wd sl q then startC w c wd sl q + n else -1
set_option maxHeartbeats 8000000 in
theorem layCell (w c wd sl ca ba : Int) (h : MayC w c wd sl ca ba) (q : Nat) (hq : q < 5) (n : Int) (kd : Int) (hk : kd = 3 + q) : Fx Tryz.prog 83 [cfg w c wd sl ca ba, .int .i64 kd, .int .i64 n] L (fun v L' => v = .int .i64 (cellC w c wd sl q n) ∧ L = L') := by
  have hm := h.mul
  refine Fx.mk Tryz.func83 k83 (Nat.le_of_ble_eq_true rfl) ?_
  dsimp only [c83, envOf, Nat.reduceAdd]
  refine Cx.sq ?_
  refine Cx.rg ?_
  refine Sx.bx rfl rfl fun g => ?_
  refine go ?_
  refine Sx.ca rfl (may_ w c wd sl ca ba) ?_
  rintro v L' ⟨rfl, rfl⟩
  rw [decide_eq_true h]
  refine go ?_
  refine Sx.ca rfl (layParts w c wd sl ca ba h) ?_
  rintro v L' ⟨rfl, rfl⟩
  obtain ⟨h1, h2, h3, h4, h5, h6, h7⟩ := h
  refine go ?_
  refine Cx.lp (α := {i : Nat // i ≤ 5 ∧ (q < i → ¬ (0 ≤ n ∧ n < manyC w c wd sl q))}) (fun i => [(1, .int .i64 kd), (2, .int .i64 n), (13, .agg (partsL w c wd sl 5).toArray), (14, .int .i64 i.1)])
    (fun _ => L) (fun i => 5 - i.1) ⟨0, by omega, by omega⟩ (sub.cons rfl (sub.cons rfl (sub.cons rfl (sub.cons rfl sub.nil)))) Ent.drop ?_
  rintro ⟨i, hi, hno⟩
  dsimp only at hno ⊢
  rcases (show i = 0 ∨ i = 1 ∨ i = 2 ∨ i = 3 ∨ i = 4 ∨ i = 5 by omega) with rfl | rfl | rfl | rfl | rfl | rfl
  · refine gg ?_
    refine Sx.al fun p => ?_
    refine Sx.st (b := p) rfl rfl rfl rfl rfl rfl ?_
    refine go ?_
    by_cases hqi : q = 0
    · subst hqi
      refine Sx.gyes rfl (decide_eq_true (by omega)) ?_
      refine go ?_
      rw [w64 (n := w - 1) (by omega) (by omega)]
      refine Sx.ca rfl (within_ n 0 (w - 1)) ?_
      rintro v L' ⟨rfl, rfl⟩
      refine go ?_
      refine Cx.ifp rfl (fun hr => ?_) (fun hr => ?_)
      · refine go ?_
        refine Kr.one (.inr rfl) rfl Ent.drop ⟨congrArg (Value.int .i64) ?_, rfl⟩
        unfold cellC
        rw [if_pos ⟨hr.1, by simp only [manyC]; omega⟩]
        exact w64 (n := startC w c wd sl 0 + n) (by simp only [startC]; omega) (by simp only [startC]; omega)
      · refine go ?_
        exact Klp.nm ⟨0 + 1, by omega, fun _ hh => hr ⟨hh.1, by have := hh.2; simp only [manyC] at this; omega⟩⟩ (sub.cons rfl (sub.cons rfl (sub.cons rfl (sub.cons rfl sub.nil)))) Ent.drop (by simp)
    · refine Sx.gno rfl (decide_eq_false (by omega)) ?_
      refine go ?_
      exact Klp.nm ⟨0 + 1, by omega, fun hh => hno (by omega)⟩ (sub.cons rfl (sub.cons rfl (sub.cons rfl (sub.cons rfl sub.nil)))) Ent.drop (by simp)
  · refine gg ?_
    refine Sx.al fun p => ?_
    refine Sx.st (b := p) rfl rfl rfl rfl rfl rfl ?_
    refine go ?_
    by_cases hqi : q = 1
    · subst hqi
      refine Sx.gyes rfl (decide_eq_true (by omega)) ?_
      refine go ?_
      rw [w64 (n := sl - 1) (by omega) (by omega)]
      refine Sx.ca rfl (within_ n 0 (sl - 1)) ?_
      rintro v L' ⟨rfl, rfl⟩
      refine go ?_
      refine Cx.ifp rfl (fun hr => ?_) (fun hr => ?_)
      · refine go ?_
        refine Kr.one (.inr rfl) rfl Ent.drop ⟨congrArg (Value.int .i64) ?_, rfl⟩
        unfold cellC
        rw [if_pos ⟨hr.1, by simp only [manyC]; omega⟩]
        exact w64 (n := startC w c wd sl 1 + n) (by simp only [startC]; omega) (by simp only [startC]; omega)
      · refine go ?_
        exact Klp.nm ⟨1 + 1, by omega, fun _ hh => hr ⟨hh.1, by have := hh.2; simp only [manyC] at this; omega⟩⟩ (sub.cons rfl (sub.cons rfl (sub.cons rfl (sub.cons rfl sub.nil)))) Ent.drop (by simp)
    · refine Sx.gno rfl (decide_eq_false (by omega)) ?_
      refine go ?_
      exact Klp.nm ⟨1 + 1, by omega, fun hh => hno (by omega)⟩ (sub.cons rfl (sub.cons rfl (sub.cons rfl (sub.cons rfl sub.nil)))) Ent.drop (by simp)
  · refine gg ?_
    refine Sx.al fun p => ?_
    refine Sx.st (b := p) rfl rfl rfl rfl rfl rfl ?_
    refine go ?_
    by_cases hqi : q = 2
    · subst hqi
      refine Sx.gyes rfl (decide_eq_true (by omega)) ?_
      refine go ?_
      rw [w64 (n := sl - 1) (by omega) (by omega)]
      refine Sx.ca rfl (within_ n 0 (sl - 1)) ?_
      rintro v L' ⟨rfl, rfl⟩
      refine go ?_
      refine Cx.ifp rfl (fun hr => ?_) (fun hr => ?_)
      · refine go ?_
        refine Kr.one (.inr rfl) rfl Ent.drop ⟨congrArg (Value.int .i64) ?_, rfl⟩
        unfold cellC
        rw [if_pos ⟨hr.1, by simp only [manyC]; omega⟩]
        exact w64 (n := startC w c wd sl 2 + n) (by simp only [startC]; omega) (by simp only [startC]; omega)
      · refine go ?_
        exact Klp.nm ⟨2 + 1, by omega, fun _ hh => hr ⟨hh.1, by have := hh.2; simp only [manyC] at this; omega⟩⟩ (sub.cons rfl (sub.cons rfl (sub.cons rfl (sub.cons rfl sub.nil)))) Ent.drop (by simp)
    · refine Sx.gno rfl (decide_eq_false (by omega)) ?_
      refine go ?_
      exact Klp.nm ⟨2 + 1, by omega, fun hh => hno (by omega)⟩ (sub.cons rfl (sub.cons rfl (sub.cons rfl (sub.cons rfl sub.nil)))) Ent.drop (by simp)
  · refine gg ?_
    refine Sx.al fun p => ?_
    refine Sx.st (b := p) rfl rfl rfl rfl rfl rfl ?_
    refine go ?_
    by_cases hqi : q = 3
    · subst hqi
      refine Sx.gyes rfl (decide_eq_true (by omega)) ?_
      refine go ?_
      rw [w64 (n := c - 1) (by omega) (by omega)]
      refine Sx.ca rfl (within_ n 0 (c - 1)) ?_
      rintro v L' ⟨rfl, rfl⟩
      refine go ?_
      refine Cx.ifp rfl (fun hr => ?_) (fun hr => ?_)
      · refine go ?_
        refine Kr.one (.inr rfl) rfl Ent.drop ⟨congrArg (Value.int .i64) ?_, rfl⟩
        unfold cellC
        rw [if_pos ⟨hr.1, by simp only [manyC]; omega⟩]
        exact w64 (n := startC w c wd sl 3 + n) (by simp only [startC]; omega) (by simp only [startC]; omega)
      · refine go ?_
        exact Klp.nm ⟨3 + 1, by omega, fun _ hh => hr ⟨hh.1, by have := hh.2; simp only [manyC] at this; omega⟩⟩ (sub.cons rfl (sub.cons rfl (sub.cons rfl (sub.cons rfl sub.nil)))) Ent.drop (by simp)
    · refine Sx.gno rfl (decide_eq_false (by omega)) ?_
      refine go ?_
      exact Klp.nm ⟨3 + 1, by omega, fun hh => hno (by omega)⟩ (sub.cons rfl (sub.cons rfl (sub.cons rfl (sub.cons rfl sub.nil)))) Ent.drop (by simp)
  · refine gg ?_
    refine Sx.al fun p => ?_
    refine Sx.st (b := p) rfl rfl rfl rfl rfl rfl ?_
    refine go ?_
    by_cases hqi : q = 4
    · subst hqi
      refine Sx.gyes rfl (decide_eq_true (by omega)) ?_
      refine go ?_
      rw [w64 (n := c * wd - 1) (by omega) (by omega)]
      refine Sx.ca rfl (within_ n 0 (c * wd - 1)) ?_
      rintro v L' ⟨rfl, rfl⟩
      refine go ?_
      refine Cx.ifp rfl (fun hr => ?_) (fun hr => ?_)
      · refine go ?_
        refine Kr.one (.inr rfl) rfl Ent.drop ⟨congrArg (Value.int .i64) ?_, rfl⟩
        unfold cellC
        rw [if_pos ⟨hr.1, by simp only [manyC]; omega⟩]
        exact w64 (n := startC w c wd sl 4 + n) (by simp only [startC]; omega) (by simp only [startC]; omega)
      · refine go ?_
        exact Klp.nm ⟨4 + 1, by omega, fun _ hh => hr ⟨hh.1, by have := hh.2; simp only [manyC] at this; omega⟩⟩ (sub.cons rfl (sub.cons rfl (sub.cons rfl (sub.cons rfl sub.nil)))) Ent.drop (by simp)
    · refine Sx.gno rfl (decide_eq_false (by omega)) ?_
      refine go ?_
      exact Klp.nm ⟨4 + 1, by omega, fun hh => hno (by omega)⟩ (sub.cons rfl (sub.cons rfl (sub.cons rfl (sub.cons rfl sub.nil)))) Ent.drop (by simp)
  · refine go ?_
    refine Kr.one (.inr rfl) rfl (Ent.refl _) ⟨?_, rfl⟩
    unfold cellC
    rw [if_neg (hno hq)]
theorem layRoot (w c wd sl ca ba : Int) (h : MayC w c wd sl ca ba) (n : Int) : Fx Tryz.prog 94 [cfg w c wd sl ca ba, .int .i64 n] L (fun v L' => v = .int .i64 (cellC w c wd sl 1 n) ∧ L = L') := by
  refine Fx.mk Tryz.func94 k94 (Nat.le_of_ble_eq_true rfl) ?_
  dsimp only [c94, envOf, Nat.reduceAdd]
  refine Cx.sq ?_
  refine Cx.rg ?_
  refine Sx.bx rfl rfl fun g => ?_
  refine go ?_
  refine Sx.ca rfl (layCell w c wd sl ca ba h 1 (by omega) n _ (by omega)) ?_
  rintro v L' ⟨rfl, rfl⟩
  refine go ?_
  exact Kr.one (.inr rfl) rfl Ent.drop ⟨rfl, rfl⟩
theorem laySlot (w c wd sl ca ba : Int) (h : MayC w c wd sl ca ba) (n : Int) : Fx Tryz.prog 140 [cfg w c wd sl ca ba, .int .i64 n] L (fun v L' => v = .int .i64 (cellC w c wd sl 2 n) ∧ L = L') := by
  refine Fx.mk Tryz.func140 k140 (Nat.le_of_ble_eq_true rfl) ?_
  dsimp only [c140, envOf, Nat.reduceAdd]
  refine Cx.sq ?_
  refine Cx.rg ?_
  refine Sx.bx rfl rfl fun g => ?_
  refine go ?_
  refine Sx.ca rfl (layCell w c wd sl ca ba h 2 (by omega) n _ (by omega)) ?_
  rintro v L' ⟨rfl, rfl⟩
  refine go ?_
  exact Kr.one (.inr rfl) rfl Ent.drop ⟨rfl, rfl⟩
theorem layLink (w c wd sl ca ba : Int) (h : MayC w c wd sl ca ba) (n : Int) : Fx Tryz.prog 139 [cfg w c wd sl ca ba, .int .i64 n] L (fun v L' => v = .int .i64 (cellC w c wd sl 3 n) ∧ L = L') := by
  refine Fx.mk Tryz.func139 k139 (Nat.le_of_ble_eq_true rfl) ?_
  dsimp only [c139, envOf, Nat.reduceAdd]
  refine Cx.sq ?_
  refine Cx.rg ?_
  refine Sx.bx rfl rfl fun g => ?_
  refine go ?_
  refine Sx.ca rfl (layCell w c wd sl ca ba h 3 (by omega) n _ (by omega)) ?_
  rintro v L' ⟨rfl, rfl⟩
  refine go ?_
  exact Kr.one (.inr rfl) rfl Ent.drop ⟨rfl, rfl⟩
end
end Go.Proofs.YtflalhdofhobmaaGreat

/-
  Stacks: Fill, List; chains: New, Fill, Pool.
-/
set_option linter.unusedVariables false
set_option linter.unusedSimpArgs false
namespace Go.Proofs.YtflalhdofhobmaaGreat
open Go
attribute [local irreducible] Sx Cx Rx Fx Krg Ksq Kbl Klp Kr
section
variable {L F G : St}
theorem fillM_ok {k : Sk} {m : Mm} (h : m.ok) (hn : k.n ≤ 4096) : (fillM k m).ok := Mm.ok_lay (Mm.ok_lay (fillUp_ok h _ (by omega)) (by omega)) (by omega)
set_option maxHeartbeats 1000000 in
theorem stackFill {sb mp : Nat} {k : Sk} {m : Mm} (hk : k.ok m.ws.length) [t : Take L (some ⟨mp, 0, none⟩) (MemO m) F] [s : Take F (some ⟨sb, 0, none⟩) (SkO mp k) G] :
    Fx Tryz.prog 141 [.pointer (some ⟨sb, 0, none⟩)] L (fun v L' => L' = pt (some ⟨mp, 0, none⟩) (MemO (fillM k m)) :: F) := by
  obtain ⟨k1, k2, k3, k4, k5, k6⟩ := hk
  have hul := fillUp_len k m k.n
  refine Fx.mk Tryz.func141 k141 (Nat.le_of_ble_eq_true rfl) ?_
  dsimp only [c141, envOf, Nat.reduceAdd]
  refine Cx.ent (Ent.trans (Ent.of t.out) (Ent.cons (Ent.of s.out))) ?_
  refine go ?_
  refine Cx.lp (α := {i : Nat // i ≤ k.n}) (fun i => [(0, .pointer (some ⟨sb, 0, none⟩)), (8, .int .i64 k.n), (9, .int .i64 i.1)]) (fun i => pt (some ⟨mp, 0, none⟩) (MemO (fillUp k m i.1)) :: pt (some ⟨sb, 0, none⟩) (SkO mp k) :: G)
    (fun i => k.n - i.1) ⟨0, by omega⟩ (sub.cons rfl (sub.cons rfl (sub.cons rfl sub.nil))) (Ent.refl _) ?_
  rintro ⟨i, hi⟩
  dsimp only
  refine go ?_
  refine Cx.ifp rfl (fun h => ?_) (fun h => ?_)
  · have hil := fillUp_len k m i
    refine go ?_
    refine Cx.orde rfl (by kernel_rfl) ?_
    refine ge ?_
    rw [w64 (n := (k.links : Int) + i) (by omega) (by omega), w64 (n := (i : Int) + 2) (by omega) (by omega), wu64 (n := (i : Int) + 2) (by omega) (by omega), show (k.links : Int) + i = ((k.links + i : Nat) : Int) by omega, show (i : Int) + 2 = ((i + 2 : Nat) : Int) by omega]
    refine Ev.caH (by kernel_rfl) rfl rfl (cellsLay (b := mp) (m := fillUp k m i) (k.links + i) (i + 2) (by omega) (by omega)) (Pres.deps (by kernel_rfl)) ?_
    rintro v L' ⟨rfl, rfl⟩
    refine ge ?_
    refine go ?_
    rw [w64 (n := (i : Int) + 1) (by omega) (by omega)]
    exact Klp.nm ⟨i + 1, by omega⟩ (sub.cons rfl (sub.cons rfl (sub.cons rfl sub.nil))) (Ent.refl _) (by dsimp only; omega)
  · have hin : i = k.n := by omega
    subst hin
    refine go ?_
    refine Cx.ordc rfl (by kernel_rfl) ?_
    refine ge ?_
    rw [w64 (n := (k.links : Int) + k.n) (by omega) (by omega), w64 (n := (k.links : Int) + k.n - 1) (by omega) (by omega), show (k.links : Int) + k.n - 1 = ((k.links + k.n - 1 : Nat) : Int) by omega]
    refine Ev.caH (by kernel_rfl) rfl rfl (cellsLay (b := mp) (m := fillUp k m k.n) (k.links + k.n - 1) 0 (by omega) (by omega)) (Pres.deps (by kernel_rfl)) ?_
    rintro v L' ⟨rfl, rfl⟩
    refine ge ?_
    refine go ?_
    refine Sx.ca rfl (putHead 0 0 (by omega) (by omega) (by omega)) ?_
    rintro v L' ⟨rfl, rfl⟩
    refine go ?_
    refine Cx.orde rfl (by kernel_rfl) ?_
    refine ge ?_
    refine Ev.caH (by kernel_rfl) rfl rfl (cellsLay (b := mp) (m := (fillUp k m k.n).lay (k.links + k.n - 1) 0) k.head 1 (by rw [Mm.len_lay]; omega) (by omega)) (Pres.deps (by kernel_rfl)) ?_
    rintro v L' ⟨rfl, rfl⟩
    refine ge ?_
    exact Kr.none (.inl rfl) (Ent.cons (Ent.of s.back)) rfl
end
end Go.Proofs.YtflalhdofhobmaaGreat

/-
  Chains: New, Fill, Pool.
-/
set_option linter.unusedVariables false
set_option linter.unusedSimpArgs false
namespace Go.Proofs.YtflalhdofhobmaaGreat
open Go
attribute [local irreducible] Sx Cx Rx Fx Krg Ksq Kbl Klp Kr
/-- A configuration in natural numbers. -/
structure Cn where
  w : Nat
  c : Nat
  wd : Nat
  sl : Nat
  ca : Nat
  ba : Nat
abbrev Cn.v (x : Cn) : Value := cfg x.w x.c x.wd x.sl x.ca x.ba
abbrev Cn.l (x : Cn) : List Value := [.int .i64 x.w, .int .i64 x.c, .int .i64 x.wd, .int .i64 x.sl, .int .i64 x.ca, .int .i64 x.ba]
def Cn.ok (x : Cn) : Prop := MayC x.w x.c x.wd x.sl x.ca x.ba
def Cn.len (x : Cn) : Nat := 3 + x.w + x.sl + x.sl + x.c + x.c * x.wd
def Cn.link (x : Cn) : Nat := 3 + x.w + x.sl + x.sl
def Cn.slot (x : Cn) : Nat := 3 + x.w + x.sl
def Cn.pool (x : Cn) : Sk := ⟨0, x.link, x.c⟩
def Cn.spare (x : Cn) : Sk := ⟨1, x.slot, x.sl⟩
theorem Cn.lenC (x : Cn) : Proofs.YtflalhdofhobmaaGreat.lenC x.w x.c x.wd x.sl = (x.len : Int) := by unfold Proofs.YtflalhdofhobmaaGreat.lenC Cn.len; push_cast; rfl
theorem Cn.ok.len_le {x : Cn} (h : x.ok) : x.len ≤ 8388608 := by
  have hm := MayC.mul h
  obtain ⟨h1, h2, h3, h4, h5, h6, h7⟩ := h
  have : ((x.c * x.wd : Nat) : Int) ≤ 4194304 := by push_cast; exact hm.2
  unfold Cn.len; omega
theorem Cn.ok.pool {x : Cn} (h : x.ok) {n : Nat} (hn : x.len ≤ n) (hn2 : n ≤ 8388608) : x.pool.ok n := by
  obtain ⟨h1, h2, h3, h4, h5, h6, h7⟩ := h
  unfold Cn.len at hn
  refine ⟨?_, ?_, ?_, ?_, ?_, hn2⟩ <;> simp only [Cn.pool, Cn.link] <;> omega
theorem Cn.ok.spare {x : Cn} (h : x.ok) {n : Nat} (hn : x.len ≤ n) (hn2 : n ≤ 8388608) : x.spare.ok n := by
  obtain ⟨h1, h2, h3, h4, h5, h6, h7⟩ := h
  unfold Cn.len at hn
  refine ⟨?_, ?_, ?_, ?_, ?_, hn2⟩ <;> simp only [Cn.spare, Cn.slot] <;> omega
section
variable {L F G : St}
theorem layLinkN {x : Cn} (h : x.ok) (n : Nat) (hn : n < x.c) : Fx Tryz.prog 139 [x.v, .int .i64 n] L (fun v L' => v = .int .i64 ((x.link + n : Nat) : Int) ∧ L = L') := by
  refine (layLink _ _ _ _ _ _ h (n : Int)).mono ?_
  rintro v L' ⟨rfl, rfl⟩
  refine ⟨congrArg (Value.int .i64) ?_, rfl⟩
  unfold cellC
  rw [if_pos ⟨by omega, by simp only [manyC]; omega⟩]
  simp only [startC, Cn.link]
  push_cast; rfl
abbrev ChO (mp sb : Nat) (x : Cn) : Option Addr → As := Blk 215 (.pointer (some ⟨mp, 0, none⟩) :: x.l ++ [.pointer (some ⟨sb, 0, none⟩)])
set_option maxHeartbeats 1000000 in
theorem chainNew {mp : Nat} {m : Mm} {x : Cn} (hx : x.ok) (hl : x.len ≤ m.ws.length) [t : Take L (some ⟨mp, 0, none⟩) (MemO m) F] :
    Fx Tryz.prog 69 [.pointer (some ⟨mp, 0, none⟩), x.v] L (fun v L' => ∃ g sb, v = .tuple #[.pointer (some ⟨g, 0, none⟩), .int .i64 0] ∧ L' = pt (some ⟨g, 0, none⟩) (ChO mp sb x) :: pt (some ⟨sb, 0, none⟩) (SkO mp x.pool) :: L) := by
  refine Fx.mk Tryz.func69 k69 (Nat.le_of_ble_eq_true rfl) ?_
  dsimp only [c69, envOf, Nat.reduceAdd]
  refine Cx.pure (memKey (b := mp) (m := m)) fun hm => ?_
  refine Cx.sq ?_
  refine Cx.rg ?_
  refine Sx.bx rfl rfl fun g => ?_
  refine go ?_
  refine Cx.ordc rfl (by kernel_rfl) ?_
  refine ge ?_
  refine Ev.cakH (by kernel_rfl) rfl rfl (may_ (x.w : Int) x.c x.wd x.sl x.ca x.ba) ?_
  rw [decide_eq_true (show MayC (x.w : Int) x.c x.wd x.sl x.ca x.ba from hx)]
  refine ge ?_
  refine Ev.cakH (by kernel_rfl) rfl rfl (cellsLen (b := mp) (m := m)) ?_
  refine ge ?_
  refine Ev.cakH (by kernel_rfl) rfl rfl (layLen (x.w : Int) x.c x.wd x.sl x.ca x.ba hx) ?_
  rw [x.lenC]
  refine ge ?_
  refine Cx.cno rfl (decide_eq_false (by omega)) ?_
  refine go ?_
  refine Cx.ordc rfl (by kernel_rfl) ?_
  refine ge ?_
  refine Ev.cakH (by kernel_rfl) rfl rfl (layLinkN hx 0 (by have := hx.2.1; omega)) ?_
  refine ge ?_
  refine Ev.caH (by kernel_rfl) rfl rfl (stackNew (mp := mp) (m := m) (k := x.pool) (hx.pool hl hm.2)) (Pres.deps (by kernel_rfl)) ?_
  rintro v L' ⟨sb, rfl, rfl⟩
  refine ge ?_
  refine go ?_
  refine Sx.bx rfl rfl fun q => ?_
  refine go ?_
  exact Kr.two (.inr rfl) rfl rfl (Ent.cons (Ent.cons Ent.drop)) ⟨q, sb, rfl, rfl⟩
theorem chainPool {g mp sb : Nat} {x : Cn} [t : Take L (some ⟨g, 0, none⟩) (ChO mp sb x) F] : Fx Tryz.prog 71 [.pointer (some ⟨g, 0, none⟩)] L (fun v L' => v = .pointer (some ⟨sb, 0, none⟩) ∧ L = L') := by
  refine Fx.mk Tryz.func71 k71 (Nat.le_of_ble_eq_true rfl) ?_
  dsimp only [c71, envOf, Nat.reduceAdd]
  refine go ?_
  exact Kr.one (.inr rfl) rfl (Ent.refl _) ⟨rfl, rfl⟩
theorem chainFill {g mp sb : Nat} {x : Cn} {m : Mm} {F G H : St} (hk : x.pool.ok m.ws.length) [t : Take L (some ⟨mp, 0, none⟩) (MemO m) F] [s : Take F (some ⟨sb, 0, none⟩) (SkO mp x.pool) G] [c : Take L (some ⟨g, 0, none⟩) (ChO mp sb x) H] :
    Fx Tryz.prog 72 [.pointer (some ⟨g, 0, none⟩)] L (fun v L' => L' = pt (some ⟨mp, 0, none⟩) (MemO (fillM x.pool m)) :: F) := by
  refine Fx.mk Tryz.func72 k72 (Nat.le_of_ble_eq_true rfl) ?_
  dsimp only [c72, envOf, Nat.reduceAdd]
  refine go ?_
  refine Sx.ca rfl (stackFill (sb := sb) (mp := mp) (k := x.pool) (m := m) hk) ?_
  rintro v L' rfl
  refine go ?_
  exact Kr.none (.inl rfl) (Ent.refl _) rfl
end
end Go.Proofs.YtflalhdofhobmaaGreat

/-
  Roots' words; sizes; a chunk's words' places.
-/
set_option linter.unusedVariables false
set_option linter.unusedSimpArgs false
namespace Go.Proofs.YtflalhdofhobmaaGreat
open Go
attribute [local irreducible] Sx Cx Rx Fx Krg Ksq Kbl Klp Kr
section
variable {L F G : St}
/-- A root as a value. -/
abbrev rtL (r : Rt) : List Value := [.int .i64 (r.gen : Nat), .int .i64 (r.mrk : Nat), .int .i64 (r.cl : Nat), .int .i64 (r.off : Nat)]
abbrev rtV (r : Rt) : Value := .agg #[.int .i64 (r.gen : Nat), .int .i64 (r.mrk : Nat), .int .i64 (r.cl : Nat), .int .i64 (r.off : Nat)]
theorem getRoot (w : Nat) (hw : w < 18446744073709551616) : Fx Tryz.prog 93 [wd w] L (fun v L' => v = rtV (rtOf w) ∧ L = L') := by
  refine Fx.mk Tryz.func93 k93 (Nat.le_of_ble_eq_true rfl) ?_
  dsimp only [c93, envOf, Nat.reduceAdd]
  refine Cx.sq ?_
  refine Cx.rg ?_
  refine Sx.al fun g => ?_
  refine go ?_
  refine Sx.ca rfl (bitsGet w 32 32 hw (by omega) (by omega)) ?_
  rintro v L' ⟨rfl, rfl⟩
  refine go ?_
  refine Sx.ca rfl (bitsGet w 16 16 hw (by omega) (by omega)) ?_
  rintro v L' ⟨rfl, rfl⟩
  refine go ?_
  refine Sx.ca rfl (bitsGet w 12 4 hw (by omega) (by omega)) ?_
  rintro v L' ⟨rfl, rfl⟩
  refine go ?_
  refine Sx.ca rfl (bitsGet w 0 12 hw (by omega) (by omega)) ?_
  rintro v L' ⟨rfl, rfl⟩
  refine go ?_
  have e1 : w / 2 ^ 32 % 2 ^ 32 = (rtOf w).gen := by show _ = w / 4294967296; omega
  have e2 : w / 2 ^ 16 % 2 ^ 16 = (rtOf w).mrk := rfl
  have e3 : w / 2 ^ 12 % 2 ^ 4 = (rtOf w).cl := rfl
  have e4 : w / 2 ^ 0 % 2 ^ 12 = (rtOf w).off := by show _ = w % 4096; omega
  have h1 := rtOf_gen hw
  have h2 := rtOf_mrk w
  have h3 := rtOf_cl w
  have h4 := rtOf_off w
  rw [e1, e2, e3, e4, w64 (n := ((rtOf w).gen : Int)) (by omega) (by omega), w64 (n := ((rtOf w).mrk : Int)) (by omega) (by omega), w64 (n := ((rtOf w).cl : Int)) (by omega) (by omega), w64 (n := ((rtOf w).off : Int)) (by omega) (by omega)]
  refine Sx.st (b := g) rfl rfl rfl rfl rfl rfl ?_
  dsimp only [lay]
  refine go ?_
  exact Kr_cell (b := g) (.inr rfl) rfl rfl (L' := L) Ent.drop ⟨rfl, rfl⟩
set_option maxHeartbeats 1000000 in
theorem putRoot (r : Rt) (h : r.ok) : Fx Tryz.prog 227 [rtV r] L (fun v L' => v = .tuple #[wd r.w, .bool true] ∧ L = L') := by
  obtain ⟨h1, h2, h3, h4⟩ := h
  refine Fx.mk Tryz.func227 k227 (Nat.le_of_ble_eq_true rfl) ?_
  dsimp only [c227, envOf, Nat.reduceAdd]
  refine Cx.sq ?_
  refine Cx.rg ?_
  refine Sx.bx rfl rfl fun g => ?_
  refine go ?_
  iterate 4
    refine Sx.ca rfl (wordWithin _ _ _ (by omega) (by omega)) ?_
    rintro v L' ⟨rfl, rfl⟩
    refine go ?_
  rw [wrap64 (n := r.off) (by omega)]
  refine Sx.ca rfl (bitsPut 0 0 12 r.off (by omega) (by omega) (by omega) (by omega)) ?_
  rintro v L' ⟨rfl, rfl⟩
  refine go ?_
  rw [wrap64 (n := r.cl) (by omega)]
  refine Sx.ca rfl (bitsPut (r.off * 2 ^ 0 + 0) 12 4 r.cl (by omega) (by omega) (by omega) (by omega)) ?_
  rintro v L' ⟨rfl, rfl⟩
  refine go ?_
  rw [wrap64 (n := r.mrk) (by omega)]
  refine Sx.ca rfl (bitsPut (r.cl * 2 ^ 12 + (r.off * 2 ^ 0 + 0)) 16 16 r.mrk (by omega) (by omega) (by omega) (by omega)) ?_
  rintro v L' ⟨rfl, rfl⟩
  refine go ?_
  rw [wrap64 (n := r.gen) (by omega)]
  refine Sx.ca rfl (bitsPut (r.mrk * 2 ^ 16 + (r.cl * 2 ^ 12 + (r.off * 2 ^ 0 + 0))) 32 32 r.gen (by omega) (by omega) (by omega) (by omega)) ?_
  rintro v L' ⟨rfl, rfl⟩
  refine go ?_
  refine Kr.two (.inr rfl) rfl rfl Ent.drop ⟨?_, rfl⟩
  rw [show r.gen * 2 ^ 32 + (r.mrk * 2 ^ 16 + (r.cl * 2 ^ 12 + (r.off * 2 ^ 0 + 0))) = r.w by unfold Rt.w; omega]
theorem wordLive (r : Rt) (gen : Int) : Fx Tryz.prog 152 [rtV r, .int .i64 gen] L (fun v L' => v = .bool (decide (r.live gen)) ∧ L = L') := by
  refine Fx.mk Tryz.func152 k152 (Nat.le_of_ble_eq_true rfl) ?_
  dsimp only [c152, envOf, Nat.reduceAdd]
  refine Cx.sq ?_
  refine Cx.rg ?_
  refine Sx.bx rfl rfl fun g => ?_
  refine go ?_
  refine Sx.ifp rfl (fun h => ?_) (fun h => ?_)
  · refine go ?_
    refine Kr.one (.inr rfl) rfl Ent.drop ⟨congrArg Value.bool (decide_eq_decide.2 ?_), rfl⟩
    unfold Rt.live
    omega
  · refine go ?_
    refine Kr.one (.inr rfl) rfl Ent.drop ⟨congrArg Value.bool (decide_eq_false (fun hh => h ?_)).symm, rfl⟩
    have := hh.1
    omega
theorem wordChunk (r : Rt) (h : r.mrk < 65536) : Fx Tryz.prog 213 [rtV r] L (fun v L' => v = .int .i64 r.chunk ∧ L = L') := by
  refine Fx.mk Tryz.func213 k213 (Nat.le_of_ble_eq_true rfl) ?_
  dsimp only [c213, envOf, Nat.reduceAdd]
  refine Cx.sq ?_
  refine Cx.rg ?_
  refine Sx.bx rfl rfl fun g => ?_
  refine go ?_
  refine Cx.ifp rfl (fun h => ?_) (fun h => ?_)
  · refine go ?_
    refine Kr.one (.inr rfl) rfl Ent.drop ⟨congrArg (Value.int .i64) ?_, rfl⟩
    unfold Rt.chunk
    rw [if_pos (by omega)]
  · refine go ?_
    rw [w64 (n := (r.mrk : Int) - 2) (by omega) (by omega)]
    refine Kr.one (.inr rfl) rfl Ent.drop ⟨congrArg (Value.int .i64) ?_, rfl⟩
    unfold Rt.chunk
    rw [if_neg (by omega)]
theorem sizeRound (cl n : Nat) (hc : cl ≤ 3) (hn : 1 ≤ n) (hn2 : n ≤ 1024) : Fx Tryz.prog 154 [.int .i64 cl, .int .i64 n] L (fun v L' => v = .int .i64 (roundS cl n : Nat) ∧ L = L') := by
  refine Fx.mk Tryz.func154 k154 (Nat.le_of_ble_eq_true rfl) ?_
  dsimp only [c154, envOf, Nat.reduceAdd]
  have hr := roundS_cases (n := n) hc
  refine go ?_
  refine Sx.gyes rfl (decide_eq_false (by omega)) ?_
  refine go ?_
  refine Cx.cno rfl (decide_eq_false (by omega)) ?_
  refine go ?_
  have e1 : (bif true then (if (cl : Int) < 0 then (0 : Int) else (cl : Int)) else (if (0 : Int) < (cl : Int) then (0 : Int) else (cl : Int))) = cl := by
    rw [cond_true, if_neg (by omega)]
  have e2 : (bif false then (if (cl : Int) < 3 then (3 : Int) else (cl : Int)) else (if (3 : Int) < (cl : Int) then (3 : Int) else (cl : Int))) = cl := by
    rw [cond_false, if_neg (by omega)]
  rw [e1, e2]
  refine Sx.pv rfl (by omega) ?_
  have hp : 1 ≤ 2 ^ cl ∧ 2 ^ cl ≤ 8 := by rcases (show cl = 0 ∨ cl = 1 ∨ cl = 2 ∨ cl = 3 by omega) with rfl | rfl | rfl | rfl <;> decide
  have e3 : min (cl : Int).toNat IntKind.i64.bits = cl := by rw [Int.toNat_natCast]; exact Nat.min_eq_left (by show cl ≤ 64; omega)
  obtain ⟨P, hP⟩ : ∃ P, P = 2 ^ cl := ⟨_, rfl⟩
  rw [← hP] at hp
  rw [e3, show (1 : Int) * 2 ^ cl = ((2 ^ cl : Nat) : Int) by push_cast; omega, ← hP, w64 (n := (P : Int)) (by omega) (by omega)]
  refine go ?_
  rw [w64 (n := (n : Int) + P) (by omega) (by omega), w64 (n := (n : Int) + P - 1) (by omega) (by omega)]
  refine Sx.pv rfl (by omega) ?_
  have e4 : Int.tdiv ((n : Int) + P - 1) P = (((n + P - 1) / P : Nat) : Int) := by
    rw [show (n : Int) + P - 1 = ((n + P - 1 : Nat) : Int) by omega]; rfl
  have e5 : (n + P - 1) / P * P ≤ n + P - 1 := Nat.div_mul_le_self _ _
  have e6 : (n + P - 1) / P ≤ n + P - 1 := Nat.div_le_self _ _
  have e7 : roundS cl n = (n + P - 1) / P * P := by unfold roundS; rw [hP]
  have e8 : (((n + P - 1) / P : Nat) : Int) * (P : Int) = (((n + P - 1) / P * P : Nat) : Int) := by push_cast; rfl
  obtain ⟨D, hD⟩ : ∃ D, (n + P - 1) / P = D := ⟨_, rfl⟩
  rw [hD] at e4 e5 e6 e7 e8
  obtain ⟨E, hE⟩ : ∃ E, D * P = E := ⟨_, rfl⟩
  rw [hE] at e5 e7 e8
  rw [e4, w64 (n := (D : Int)) (by omega) (by omega)]
  refine go ?_
  rw [e8, w64 (n := (E : Int)) (by omega) (by omega), ← e7]
  exact Kr.one (.inr rfl) rfl (Ent.refl _) ⟨rfl, rfl⟩
theorem sizeRight (wd need : Nat) (hw : 1 ≤ wd) (hw2 : wd ≤ 1024) (hn : 1 ≤ need) (hn2 : need ≤ wd) : Fx Tryz.prog 210 [.int .i64 wd, .int .i64 need] L (fun v L' => v = .bool true ∧ L = L') := by
  refine Fx.mk Tryz.func210 k210 (Nat.le_of_ble_eq_true rfl) ?_
  dsimp only [c210, envOf, Nat.reduceAdd]
  refine go ?_
  iterate 3 (refine Sx.gyes rfl (decide_eq_true (by omega)) ?_; refine go ?_)
  refine Kr.one (.inr rfl) rfl (Ent.refl _) ⟨congrArg Value.bool (decide_eq_true (by omega)), rfl⟩
theorem sizeAlone (wd need : Nat) (hw : 1 ≤ wd) (hw2 : wd ≤ 1024) (hn : 1 ≤ need) (hn2 : need ≤ wd) : Fx Tryz.prog 211 [.int .i64 wd, .int .i64 need] L (fun v L' => v = .bool (decide (wd < 2 * need)) ∧ L = L') := by
  refine Fx.mk Tryz.func211 k211 (Nat.le_of_ble_eq_true rfl) ?_
  dsimp only [c211, envOf, Nat.reduceAdd]
  refine go ?_
  refine Sx.ca rfl (sizeRight wd need hw hw2 hn hn2) ?_
  rintro v L' ⟨rfl, rfl⟩
  refine go ?_
  rw [w64 (n := 2 * (need : Int)) (by omega) (by omega)]
  refine Kr.one (.inr rfl) rfl (Ent.refl _) ⟨congrArg Value.bool (decide_eq_decide.2 (by omega)), rfl⟩
theorem sizeFits (wd off need : Nat) (hw : 1 ≤ wd) (hw2 : wd ≤ 1024) (hn : 1 ≤ need) (hn2 : need ≤ wd) : Fx Tryz.prog 155 [.int .i64 wd, .int .i64 off, .int .i64 need] L (fun v L' => v = .bool (decide (fitsS wd off need)) ∧ L = L') := by
  refine Fx.mk Tryz.func155 k155 (Nat.le_of_ble_eq_true rfl) ?_
  dsimp only [c155, envOf, Nat.reduceAdd]
  refine go ?_
  refine Sx.ca rfl (sizeRight wd need hw hw2 hn hn2) ?_
  rintro v L' ⟨rfl, rfl⟩
  refine go ?_
  refine Sx.ca rfl (sizeAlone wd need hw hw2 hn hn2) ?_
  rintro v L' ⟨rfl, rfl⟩
  by_cases h : wd < 2 * need
  · rw [decide_eq_true h]
    refine go ?_
    refine Kr.one (.inr rfl) rfl (Ent.refl _) ⟨congrArg Value.bool (decide_eq_false (fun hh => ?_)).symm, rfl⟩
    have := hh.1; omega
  · rw [decide_eq_false h]
    refine go ?_
    rw [w64 (n := (wd : Int) - need) (by omega) (by omega)]
    refine Kr.one (.inr rfl) rfl (Ent.refl _) ⟨congrArg Value.bool (decide_eq_decide.2 ?_), rfl⟩
    unfold fitsS; omega
theorem sizeAfter (wd need : Nat) (hw : 1 ≤ wd) (hw2 : wd ≤ 1024) (hn : 1 ≤ need) (hn2 : need ≤ wd) : Fx Tryz.prog 247 [.int .i64 wd, .int .i64 need] L (fun v L' => v = .int .i64 (afterS wd need : Nat) ∧ L = L') := by
  refine Fx.mk Tryz.func247 k247 (Nat.le_of_ble_eq_true rfl) ?_
  dsimp only [c247, envOf, Nat.reduceAdd]
  refine go ?_
  refine Sx.ca rfl (sizeRight wd need hw hw2 hn hn2) ?_
  rintro v L' ⟨rfl, rfl⟩
  refine go ?_
  refine Sx.ca rfl (sizeAlone wd need hw hw2 hn hn2) ?_
  rintro v L' ⟨rfl, rfl⟩
  by_cases h : wd < 2 * need
  · rw [decide_eq_true h]
    refine go ?_
    refine Kr.one (.inr rfl) rfl (Ent.refl _) ⟨by unfold afterS; rw [if_pos h], rfl⟩
  · rw [decide_eq_false h]
    refine go ?_
    refine Kr.one (.inr rfl) rfl (Ent.refl _) ⟨by unfold afterS; rw [if_neg h], rfl⟩
/-- Where the roots are, and the words. -/
def Cn.root (x : Cn) : Nat := 3 + x.w
def Cn.word (x : Cn) : Nat := 3 + x.w + x.sl + x.sl + x.c
theorem layRootN {x : Cn} (h : x.ok) (n : Nat) (hn : n < x.sl) : Fx Tryz.prog 94 [x.v, .int .i64 n] L (fun v L' => v = .int .i64 ((x.root + n : Nat) : Int) ∧ L = L') := by
  refine (layRoot _ _ _ _ _ _ h (n : Int)).mono ?_
  rintro v L' ⟨rfl, rfl⟩
  refine ⟨congrArg (Value.int .i64) ?_, rfl⟩
  unfold cellC
  rw [if_pos ⟨by omega, by simp only [manyC]; omega⟩]
  simp only [startC, Cn.root]
  push_cast; rfl
theorem laySlotN {x : Cn} (h : x.ok) (n : Nat) (hn : n < x.sl) : Fx Tryz.prog 140 [x.v, .int .i64 n] L (fun v L' => v = .int .i64 ((x.slot + n : Nat) : Int) ∧ L = L') := by
  refine (laySlot _ _ _ _ _ _ h (n : Int)).mono ?_
  rintro v L' ⟨rfl, rfl⟩
  refine ⟨congrArg (Value.int .i64) ?_, rfl⟩
  unfold cellC
  rw [if_pos ⟨by omega, by simp only [manyC]; omega⟩]
  simp only [startC, Cn.slot]
  push_cast; rfl
theorem layWordN {x : Cn} (h : x.ok) (k j : Nat) (hk : k < x.c) (hj : j < x.wd) : Fx Tryz.prog 24 [x.v, .int .i64 k, .int .i64 j] L (fun v L' => v = .int .i64 ((x.word + k * x.wd + j : Nat) : Int) ∧ L = L') := by
  have hmay : MayC (x.w : Int) x.c x.wd x.sl x.ca x.ba := h
  have hm := MayC.mul hmay
  have hlt : k * x.wd + j < x.c * x.wd := by
    have h1 : (k + 1) * x.wd ≤ x.c * x.wd := Nat.mul_le_mul_right _ hk
    rw [Nat.succ_mul] at h1
    omega
  have hcast : ((x.c * x.wd : Nat) : Int) = (x.c : Int) * x.wd := by push_cast; rfl
  have hcast2 : ((k * x.wd : Nat) : Int) = (k : Int) * x.wd := by push_cast; rfl
  refine Fx.mk Tryz.func24 k24 (Nat.le_of_ble_eq_true rfl) ?_
  dsimp only [c24, envOf, Nat.reduceAdd]
  refine Cx.sq ?_
  refine Cx.rg ?_
  refine Sx.bx rfl rfl fun g => ?_
  refine go ?_
  obtain ⟨b1, b2, b3, b4, b5, b6, b7⟩ := hmay
  rw [w64 (n := (x.c : Int) - 1) (by omega) (by omega)]
  refine Sx.ca rfl (within_ (k : Int) 0 ((x.c : Int) - 1)) ?_
  rintro v L' ⟨rfl, rfl⟩
  rw [decide_eq_true (show (0 : Int) ≤ k ∧ (k : Int) ≤ (x.c : Int) - 1 by omega)]
  refine go ?_
  rw [w64 (n := (x.wd : Int) - 1) (by omega) (by omega)]
  refine Sx.ca rfl (within_ (j : Int) 0 ((x.wd : Int) - 1)) ?_
  rintro v L' ⟨rfl, rfl⟩
  rw [decide_eq_true (show (0 : Int) ≤ j ∧ (j : Int) ≤ (x.wd : Int) - 1 by omega)]
  refine go ?_
  refine Sx.ca rfl (may_ (x.w : Int) x.c x.wd x.sl x.ca x.ba) ?_
  rintro v L' ⟨rfl, rfl⟩
  rw [decide_eq_true (show MayC (x.w : Int) x.c x.wd x.sl x.ca x.ba from h)]
  refine go ?_
  rw [w64 (n := (k : Int) * x.wd) (by omega) (by omega), w64 (n := (k : Int) * x.wd + j) (by omega) (by omega)]
  refine Sx.ca rfl (layCell _ _ _ _ _ _ h 4 (by omega) ((k : Int) * x.wd + j) _ (by omega)) ?_
  rintro v L' ⟨rfl, rfl⟩
  refine go ?_
  refine Kr.one (.inr rfl) rfl Ent.drop ⟨congrArg (Value.int .i64) ?_, rfl⟩
  unfold cellC
  rw [if_pos ⟨by omega, by simp only [manyC]; omega⟩]
  simp only [startC, Cn.word]
  push_cast; omega
end
end Go.Proofs.YtflalhdofhobmaaGreat

/-
  A function with two results, the second a variable of its own.
-/
set_option linter.unusedVariables false
set_option linter.unusedSimpArgs false
namespace Go.Proofs.YtflalhdofhobmaaGreat
open Go
section
variable {P : Program} {N : Nat} {e : En} {L F : St}
theorem cRs_tc {rs : List ResultVar} {t u n : Nat} {g : Bool} (h : cRs P rs = some [.t t, .c u n g]) : ∃ ty, rs = [.tmp t, .cell u ty] ∧ szT P ty = some n ∧ isAggT P ty = some g := by
  match rs with
  | [] => simp [cRs] at h
  | r :: l =>
    simp only [cRs] at h
    split at h
    · rename_i r' hr
      split at h
      · rename_i l' hl
        simp only [Option.some.injEq, List.cons.injEq] at h
        obtain ⟨rfl, rfl⟩ := h
        obtain ⟨ty, rfl, h1, h2⟩ := cRs_cell hl
        cases r with
        | tmp t' => simp [cR] at hr; exact ⟨ty, by rw [hr], h1, h2⟩
        | cell a t' => simp only [cR] at hr; split at hr <;> cases hr
      · cases h
    · cases h
theorem Rv_tc {t u n b off : Nat} {x : Value} {vs : List Value} (hx : e.get t = some x) (h : e.get u = some (.pointer (some ⟨b, off, none⟩))) (hh : Has L b off vs) (hn : Nat.beq vs.length n = true) : Rv P N [.t t, .c u n true] e L (.tuple #[x, .agg vs.toArray]) := by
  intro fn a w0 w hr ok s
  obtain ⟨ty, hres, hs, hg⟩ := cRs_tc hr
  have hr2 : fn.results = #[.tmp t, .cell u ty] := by apply Array.ext'; simpa using hres
  have ht := ok.get _ _ h
  have ht2 := ok.get _ _ hx
  have hc := hh w0 w s
  have hn := Nat.eq_of_beq_eq_true hn
  have hl := run_loadCells_list (P := P) w ⟨b, off, none⟩ vs (fun j v hj => by rw [partPlace]; exact hc j v hj)
  rw [hn] at hl
  simp [results, hr2, ht, ht2, loadVar, isAggT_eq hg, szT_eq hs, hl, asAddr]
theorem Kr_tc {R : Value → St → Prop} {t u n b : Nat} {v : Value} {T : TypeId} {cs : List Value} {x : Ex} [i : Take L (some ⟨b, 0, none⟩) (Blk T cs) F] (hx : x = .nm ∨ x = .rt) (hv : e.get t = some v) (h : e.get u = some (.pointer (some ⟨b, 0, none⟩))) (hn : Nat.beq cs.length n = true)
    {L' : St} (hL : Ent L L') (hR : R (.tuple #[v, .agg cs.toArray]) L') : Kr P N [.t t, .c u n true] R x e L := by
  have hn' := Nat.eq_of_beq_eq_true hn
  have e1 : (cs.drop 0).take n = cs := by simp [← hn']
  have hb : Has L b 0 cs := by
    have := Has.blk (T := T) (cs := cs) (n := n) (off := 0) (L := L) (b := b)
    rw [e1] at this; exact this
  exact ⟨hx, _, L', Rv_tc hv h hb hn, hL, hR⟩
end
section
variable {P : Program} {N : Nat} {Kf : En → St → Prop} {r : List It} {ms : List (Nat × (St → Prop))} {e : En} {L F : St} {i ds : Nat} {rs : List Nat} {d : Option Nat} {g : Option (Nat × Bool)}
/-- Some cells of a block are written. -/
theorem Ev.stnH {x v : X} {b off n : Nat} {T : TypeId} {cs vs : List Value} (ds' : List Value) {u : Value} [t : Take L (some ⟨b, 0, none⟩) (Blk T cs) F] (hd : lastly i r = true) (hg : gon (e.only rs) g = true)
    (hx : x.get (e.only rs) = some (.pointer (some ⟨b, off, none⟩))) (hv : v.get (e.only rs) = some u) (hu : cellsOf u = some vs) (hn : vs.length = n) (h1 : ones vs = true) (hl : Nat.ble (off + n) cs.length = true) (hds : lay cs off vs = ds')
    (hp : Pres ds (fun v L' => v = undef ∧ L' = pt (some ⟨b, 0, none⟩) (Blk T ds') :: F) ms)
    (k : Ev P N Kf r ms (e.put d undef) (pt (some ⟨b, 0, none⟩) (Blk T ds') :: F)) : Ev P N Kf (⟨i, ds, rs, ⟨d, g, .st x v n⟩⟩ :: r) ms e L := by
  subst hds
  exact .genH hd hp hg (fun e' hs K kk => Sx.st (t := t) (X.get_sub hx hs) (X.get_sub hv hs) hu hn h1 hl (Sx.nil (kk _ _ ⟨rfl, rfl⟩)))
    (fun v L' ⟨e1, e2⟩ => by subst e1; subst e2; exact k)
end
end Go.Proofs.YtflalhdofhobmaaGreat

/-
  Roots: New, Fill, Root.
-/
set_option linter.unusedVariables false
set_option linter.unusedSimpArgs false
namespace Go.Proofs.YtflalhdofhobmaaGreat
open Go
attribute [local irreducible] Sx Cx Rx Fx Krg Ksq Kbl Klp Kr
section
variable {L F G : St}
theorem machCount {b : Nat} {T : TypeId} {nx z1 z2 z3 : Value} {cnt : Int} {rest : List Value} [t : Take L (some ⟨b, 0, none⟩) (Blk T (nx :: z1 :: z2 :: z3 :: .int .i64 cnt :: rest)) F] : Fx Tryz.prog 175 [.pointer (some ⟨b, 0, none⟩)] L (fun v L' => v = .int .i64 cnt ∧ L = L') := by
  refine Fx.mk Tryz.func175 k175 (Nat.le_of_ble_eq_true rfl) ?_
  dsimp only [c175, envOf, Nat.reduceAdd]
  refine go ?_
  exact Kr.one (.inr rfl) rfl (Ent.refl _) ⟨rfl, rfl⟩
/-- Roots over the configuration's cells. -/
abbrev RoO (mp sb : Nat) (x : Cn) : Option Addr → As := Blk 167 (.pointer (some ⟨mp, 0, none⟩) :: x.l ++ [.pointer (some ⟨sb, 0, none⟩)])
set_option maxHeartbeats 1000000 in
theorem rootsNew {mp : Nat} {m : Mm} {x : Cn} (hx : x.ok) (hl : x.len ≤ m.ws.length) [t : Take L (some ⟨mp, 0, none⟩) (MemO m) F] :
    Fx Tryz.prog 70 [.pointer (some ⟨mp, 0, none⟩), x.v] L (fun v L' => ∃ g sb, v = .tuple #[.pointer (some ⟨g, 0, none⟩), .int .i64 0] ∧ L' = pt (some ⟨g, 0, none⟩) (RoO mp sb x) :: pt (some ⟨sb, 0, none⟩) (SkO mp x.spare) :: L) := by
  refine Fx.mk Tryz.func70 k70 (Nat.le_of_ble_eq_true rfl) ?_
  dsimp only [c70, envOf, Nat.reduceAdd]
  refine Cx.pure (memKey (b := mp) (m := m)) fun hm => ?_
  refine Cx.sq ?_
  refine Cx.rg ?_
  refine Sx.bx rfl rfl fun g => ?_
  refine go ?_
  refine Cx.ordc rfl (by kernel_rfl) ?_
  refine ge ?_
  refine Ev.cakH (by kernel_rfl) rfl rfl (may_ (x.w : Int) x.c x.wd x.sl x.ca x.ba) ?_
  rw [decide_eq_true (show MayC (x.w : Int) x.c x.wd x.sl x.ca x.ba from hx)]
  refine ge ?_
  refine Ev.cakH (by kernel_rfl) rfl rfl (cellsLen (b := mp) (m := m)) ?_
  refine ge ?_
  refine Ev.cakH (by kernel_rfl) rfl rfl (layLen (x.w : Int) x.c x.wd x.sl x.ca x.ba hx) ?_
  rw [x.lenC]
  refine ge ?_
  refine Cx.cno rfl (decide_eq_false (by omega)) ?_
  refine go ?_
  refine Cx.ordc rfl (by kernel_rfl) ?_
  refine ge ?_
  refine Ev.cakH (by kernel_rfl) rfl rfl (laySlotN hx 0 (by have := hx.2.2.2.2.1; omega)) ?_
  refine ge ?_
  refine Ev.caH (by kernel_rfl) rfl rfl (stackNew (mp := mp) (m := m) (k := x.spare) (hx.spare hl hm.2)) (Pres.deps (by kernel_rfl)) ?_
  rintro v L' ⟨sb, rfl, rfl⟩
  refine ge ?_
  refine go ?_
  refine Sx.bx rfl rfl fun q => ?_
  refine go ?_
  exact Kr.two (.inr rfl) rfl rfl (Ent.cons (Ent.cons Ent.drop)) ⟨q, sb, rfl, rfl⟩
/-- The roots are nothing's. -/
def zeroRt (x : Cn) (m : Mm) : Nat → Mm
  | 0 => m
  | i + 1 => (zeroRt x m i).lay (x.root + i) 0
theorem zeroRt_len (x : Cn) (m : Mm) : ∀ i, (zeroRt x m i).ws.length = m.ws.length
  | 0 => rfl
  | i + 1 => by simp only [zeroRt, Mm.len_lay]; exact zeroRt_len x m i
theorem lay_same {m : Mm} {i v : Nat} (h : i < m.ws.length) (e : m.at_ i = v) : m.lay i v = m := by
  have hg := Mm.get h
  unfold Mm.lay
  rw [← e]
  congr 1
  rw [List.getElem?_eq_getElem h] at hg
  have e2 : m.at_ i = m.ws[i] := by simpa using hg.symm
  rw [e2]
  exact List.set_getElem_self h
theorem zeroRt_same {x : Cn} {m : Mm} (hl : x.root + x.sl ≤ m.ws.length) (h : ∀ i, i < x.sl → m.at_ (x.root + i) = 0) : ∀ i, i ≤ x.sl → zeroRt x m i = m
  | 0, _ => rfl
  | i + 1, hi => by
    simp only [zeroRt]
    rw [zeroRt_same hl h i (by omega)]
    exact lay_same (by omega) (h i (by omega))
set_option maxHeartbeats 1000000 in
theorem rootsFill {g mp sb : Nat} {x : Cn} {m : Mm} {F G H : St} (hx : x.ok) (hl : x.len ≤ m.ws.length) [t : Take L (some ⟨mp, 0, none⟩) (MemO m) F] [s : Take F (some ⟨sb, 0, none⟩) (SkO mp x.spare) G] [c : Take G (some ⟨g, 0, none⟩) (RoO mp sb x) H] :
    Fx Tryz.prog 73 [.pointer (some ⟨g, 0, none⟩)] L (fun v L' => L' = pt (some ⟨mp, 0, none⟩) (MemO (zeroRt x (fillM x.spare m) x.sl)) :: F) := by
  obtain ⟨b1, b2, b3, b4, b5, b6, b7⟩ := show MayC (x.w : Int) x.c x.wd x.sl x.ca x.ba from hx
  have hsz : x.root + x.sl ≤ x.len := by unfold Cn.root Cn.len; omega
  refine Fx.mk Tryz.func73 k73 (Nat.le_of_ble_eq_true rfl) ?_
  dsimp only [c73, envOf, Nat.reduceAdd]
  refine Cx.ent (Ent.trans (Ent.of t.out) (Ent.cons (Ent.trans (Ent.of s.out) (Ent.cons (Ent.of c.out))))) ?_
  refine Cx.pure (memKey (b := mp) (m := m)) fun hm => ?_
  refine go ?_
  refine Sx.ca rfl (stackFill (sb := sb) (mp := mp) (k := x.spare) (m := m) (hx.spare hl hm.2)) ?_
  rintro v L' rfl
  refine go ?_
  refine Cx.lp (α := {i : Nat // i ≤ x.sl}) (fun i => [(0, .pointer (some ⟨g, 0, none⟩)), (12, .int .i64 (x.sl : Nat)), (13, .int .i64 i.1)])
    (fun i => pt (some ⟨mp, 0, none⟩) (MemO (zeroRt x (fillM x.spare m) i.1)) :: pt (some ⟨sb, 0, none⟩) (SkO mp x.spare) :: pt (some ⟨g, 0, none⟩) (RoO mp sb x) :: H) (fun i => x.sl - i.1) ⟨0, by omega⟩ (sub.cons rfl (sub.cons rfl (sub.cons rfl sub.nil))) (Ent.refl _) ?_
  rintro ⟨i, hi⟩
  have hzl := zeroRt_len x (fillM x.spare m) i
  rw [fillM_len] at hzl
  dsimp only
  refine go ?_
  refine Cx.ifp rfl (fun h => ?_) (fun h => ?_)
  · refine go ?_
    refine Cx.orde rfl (by kernel_rfl) ?_
    refine ge ?_
    refine Ev.cakH (by kernel_rfl) rfl rfl (layRootN hx i (by omega)) ?_
    refine ge ?_
    refine Ev.caH (by kernel_rfl) rfl rfl (cellsLay (b := mp) (m := zeroRt x (fillM x.spare m) i) (x.root + i) 0 (by omega) (by omega)) (Pres.deps (by kernel_rfl)) ?_
    rintro v L' ⟨rfl, rfl⟩
    refine ge ?_
    refine go ?_
    rw [w64 (n := (i : Int) + 1) (by omega) (by omega)]
    exact Klp.nm ⟨i + 1, by omega⟩ (sub.cons rfl (sub.cons rfl (sub.cons rfl sub.nil))) (Ent.refl _) (by dsimp only; omega)
  · obtain rfl : i = x.sl := by omega
    refine go ?_
    exact Kr.none (.inl rfl) (Ent.cons (Ent.trans (Ent.cons (Ent.of c.back)) (Ent.of s.back))) rfl
/-- Grants over the configuration's cells. -/
abbrev GrO (mp : Nat) (x : Cn) : Option Addr → As := Blk 146 (.pointer (some ⟨mp, 0, none⟩) :: x.l)
theorem grantNew {mp : Nat} {m : Mm} {x : Cn} (hx : x.ok) (hl : x.len ≤ m.ws.length) [t : Take L (some ⟨mp, 0, none⟩) (MemO m) F] :
    Fx Tryz.prog 18 [.pointer (some ⟨mp, 0, none⟩), x.v] L (fun v L' => ∃ g, v = .tuple #[.pointer (some ⟨g, 0, none⟩), .int .i64 0] ∧ L' = pt (some ⟨g, 0, none⟩) (GrO mp x) :: L) := by
  refine Fx.mk Tryz.func18 k18 (Nat.le_of_ble_eq_true rfl) ?_
  dsimp only [c18, envOf, Nat.reduceAdd]
  refine Cx.sq ?_
  refine Cx.rg ?_
  refine Sx.bx rfl rfl fun g => ?_
  refine go ?_
  refine Sx.ca rfl (rootsNew (mp := mp) (m := m) hx hl) ?_
  rintro v L' ⟨r, sb, rfl, rfl⟩
  refine go ?_
  refine Sx.bx rfl rfl fun q => ?_
  refine go ?_
  exact Kr.two (.inr rfl) rfl rfl (Ent.cons (Ent.trans Ent.drop (Ent.trans Ent.drop Ent.drop))) ⟨q, rfl, rfl⟩
end
end Go.Proofs.YtflalhdofhobmaaGreat

/-
  Roots: a Create, one access at a time.
-/
set_option linter.unusedVariables false
set_option linter.unusedSimpArgs false
namespace Go.Proofs.YtflalhdofhobmaaGreat
open Go
attribute [local irreducible] Sx Cx Rx Fx Krg Ksq Kbl Klp Kr
section
variable {L F G : St}
theorem Sx.re {P : Program} {N : Nat} {l : List Go.Proofs.YtflalhdofhobmaaGreat.G} {e : En} {K : En → St → Prop} {b : Option Addr} {T : TypeId} {vs : List Value} {L : St} (vs' : List Value) (h : vs = vs') (k : Sx P N l e K (pt b (Blk T vs') :: L)) : Sx P N l e K (pt b (Blk T vs) :: L) := h ▸ k
theorem cntW {n : Nat} (h : n ≤ 1000000) : IntKind.i64.wrap ((n : Int) + 1) = ((n + 1 : Nat) : Int) := by rw [w64 (by omega) (by omega)]; push_cast; rfl
theorem rootsLoad {g mp sb : Nat} {x : Cn} {m : Mm} {F1 : St} (n : Nat) (hn : n < x.sl) (hx : x.ok) (hm : m.ok) (hl : x.len ≤ m.ws.length) [t : Take L (some ⟨mp, 0, none⟩) (MemO m) F1] [c : Take F1 (some ⟨g, 0, none⟩) (RoO mp sb x) G] :
    Fx Tryz.prog 174 [.pointer (some ⟨g, 0, none⟩), .int .i64 n] L (fun v L' => v = .tuple #[wd (m.at_ (x.root + n)), rtV (rtOf (m.at_ (x.root + n)))] ∧ L' = pt (some ⟨mp, 0, none⟩) (MemO m.tick) :: F1) := by
  have hsz : x.root + x.sl ≤ x.len := by unfold Cn.root Cn.len; omega
  refine Fx.mk Tryz.func174 k174 (Nat.le_of_ble_eq_true rfl) ?_
  dsimp only [c174, envOf, Nat.reduceAdd]
  refine Cx.ent (Ent.trans (Ent.of t.out) (Ent.cons (Ent.of c.out))) ?_
  refine go ?_
  refine Sx.al fun q => ?_
  refine go ?_
  refine Cx.ordc rfl (by kernel_rfl) ?_
  refine ge ?_
  refine Ev.cakH (by kernel_rfl) rfl rfl (layRootN hx n hn) ?_
  refine ge ?_
  refine Ev.caH (by kernel_rfl) rfl rfl (cellsLoad (b := mp) (m := m) (x.root + n) (by omega)) (Pres.deps (by kernel_rfl)) ?_
  rintro v L' ⟨rfl, rfl⟩
  refine ge ?_
  refine go ?_
  refine Sx.ca rfl (getRoot (m.at_ (x.root + n)) (Mm.at_lt hm _)) ?_
  rintro v L' ⟨rfl, rfl⟩
  refine go ?_
  refine Sx.st (b := q) rfl rfl rfl rfl rfl rfl ?_
  dsimp only [lay]
  refine go ?_
  refine Kr_tc (b := q) (.inr rfl) rfl rfl rfl ?_ ⟨rfl, rfl⟩
  exact Ent.trans Ent.drop (Ent.cons (Ent.of c.back))
/-! A Create. -/
def CreS.rt (cl : Nat) (c : CreS) : Rt := if c.at_ = 2 then nextRt cl c.was else ⟨0, 0, 0, 0⟩
abbrev crB (b r : Nat) (nx n1 n2 n3 pp : Value) (cl : Nat) (cnt slot : Int) (point : Nat) (rt : Rt) (code : Nat) : As :=
  pt (some ⟨b, 0, none⟩) (Blk 232 [nx, n1, n2, n3, .int .i64 cnt, .pointer (some ⟨r, 0, none⟩), .int .i64 cl, pp, .int .i64 slot, .int .i64 (point : Nat), .int .i64 (rt.gen : Nat), .int .i64 (rt.mrk : Nat), .int .i64 (rt.cl : Nat), .int .i64 (rt.off : Nat), .int .i64 (code : Nat)])
def crPL (T : TypeId) (r sp : Nat) (k : Sk) (cl : Nat) (c : CreS) (a : Option Addr) (y : Nat) : St :=
  [pt a (Blk T [.func (.func 232) #[.pointer a] #[], mth 163 y, mth 164 y, .func (.func 165) #[.pointer a] #[], .int .i64 (c.cnt : Nat), .pointer (some ⟨r, 0, none⟩), .int .i64 cl, .pointer (some ⟨y, 0, none⟩), .int .i64 c.slot, .int .i64 (c.point : Nat), .int .i64 ((c.rt cl).gen : Nat), .int .i64 ((c.rt cl).mrk : Nat), .int .i64 ((c.rt cl).cl : Nat), .int .i64 ((c.rt cl).off : Nat), .int .i64 (c.code : Nat)]),
   pt (some ⟨y, 0, none⟩) (PopO sp k c.q)]
def crSL (nx : Value) (T : TypeId) (r : Nat) (cl : Nat) (c : CreS) (a : Option Addr) (y : Value × Value × Value × Value) : St :=
  [pt a (Blk T [nx, y.1, y.2.1, y.2.2.1, .int .i64 (c.cnt : Nat), .pointer (some ⟨r, 0, none⟩), .int .i64 cl, y.2.2.2, .int .i64 c.slot, .int .i64 (c.point : Nat), .int .i64 ((c.rt cl).gen : Nat), .int .i64 ((c.rt cl).mrk : Nat), .int .i64 ((c.rt cl).cl : Nat), .int .i64 ((c.rt cl).off : Nat), .int .i64 (c.code : Nat)])]
def CreT (T : TypeId) (r sp : Nat) (k : Sk) (cl : Nat) (c : CreS) (a : Option Addr) : As := bif c.done then exs (crSL .nilFunc T r cl c a) else match c.at_ with
  | 0 => exs (crPL T r sp k cl c a) | 1 => exs (crSL (.func (.func 224) #[.pointer a] #[]) T r cl c a) | _ => exs (crSL (.func (.func 252) #[.pointer a] #[]) T r cl c a)
abbrev CreO := CreT 232
theorem CreO.p {T : TypeId} {r sp : Nat} {k : Sk} {cl : Nat} {c : CreS} {a : Option Addr} (h : c.done = false) (h0 : c.at_ = 0) : CreT T r sp k cl c a = exs (crPL T r sp k cl c a) := by unfold CreT; rw [h, h0]; rfl
theorem CreO.l {T : TypeId} {r sp : Nat} {k : Sk} {cl : Nat} {c : CreS} {a : Option Addr} (h : c.done = false) (h0 : c.at_ = 1) : CreT T r sp k cl c a = exs (crSL (.func (.func 224) #[.pointer a] #[]) T r cl c a) := by unfold CreT; rw [h, h0]; rfl
theorem CreO.s {T : TypeId} {r sp : Nat} {k : Sk} {cl : Nat} {c : CreS} {a : Option Addr} (h : c.done = false) (h0 : c.at_ = 2) : CreT T r sp k cl c a = exs (crSL (.func (.func 252) #[.pointer a] #[]) T r cl c a) := by unfold CreT; rw [h, h0]; rfl
theorem CreO.d {T : TypeId} {r sp : Nat} {k : Sk} {cl : Nat} {c : CreS} {a : Option Addr} (h : c.done = true) : CreT T r sp k cl c a = exs (crSL .nilFunc T r cl c a) := by unfold CreT; rw [h]; rfl
theorem CreO.closeP {b r sp p : Nat} {k : Sk} {cl : Nat} (c : CreS) (h : c.done = false) (h0 : c.at_ = 0) {cnt slot : Int} {point code : Nat} {rt : Rt} {q : PopS} (e1 : cnt = (c.cnt : Nat)) (e2 : slot = c.slot) (e3 : point = c.point) (e4 : rt = c.rt cl) (e5 : code = c.code) (e6 : q = c.q) :
    Ent (crB b r (mth 232 b) (mth 163 p) (mth 164 p) (mth 165 b) (.pointer (some ⟨p, 0, none⟩)) cl cnt slot point rt code :: pt (some ⟨p, 0, none⟩) (PopO sp k q) :: G) (pt (some ⟨b, 0, none⟩) (CreO r sp k cl c) :: G) := by
  subst e1 e2 e3 e4 e5 e6
  exact Ent.close (f := crPL 232 r sp k cl c (some ⟨b, 0, none⟩)) (CreO.p h h0) p
theorem CreO.closeL {b r sp : Nat} {k : Sk} {cl : Nat} {n1 n2 n3 pp : Value} (c : CreS) (h : c.done = false) (h0 : c.at_ = 1) {cnt slot : Int} {point code : Nat} {rt : Rt} (e1 : cnt = (c.cnt : Nat)) (e2 : slot = c.slot) (e3 : point = c.point) (e4 : rt = c.rt cl) (e5 : code = c.code) :
    Ent (crB b r (mth 224 b) n1 n2 n3 pp cl cnt slot point rt code :: G) (pt (some ⟨b, 0, none⟩) (CreO r sp k cl c) :: G) := by
  subst e1 e2 e3 e4 e5
  exact Ent.close (f := crSL (mth 224 b) 232 r cl c (some ⟨b, 0, none⟩)) (CreO.l h h0) (n1, n2, n3, pp)
theorem CreO.closeS {b r sp : Nat} {k : Sk} {cl : Nat} {n1 n2 n3 pp : Value} (c : CreS) (h : c.done = false) (h0 : c.at_ = 2) {cnt slot : Int} {point code : Nat} {rt : Rt} (e1 : cnt = (c.cnt : Nat)) (e2 : slot = c.slot) (e3 : point = c.point) (e4 : rt = c.rt cl) (e5 : code = c.code) :
    Ent (crB b r (mth 252 b) n1 n2 n3 pp cl cnt slot point rt code :: G) (pt (some ⟨b, 0, none⟩) (CreO r sp k cl c) :: G) := by
  subst e1 e2 e3 e4 e5
  exact Ent.close (f := crSL (mth 252 b) 232 r cl c (some ⟨b, 0, none⟩)) (CreO.s h h0) (n1, n2, n3, pp)
theorem CreO.closeD {b r sp : Nat} {k : Sk} {cl : Nat} {n1 n2 n3 pp : Value} (c : CreS) (h : c.done = true) {cnt slot : Int} {point code : Nat} {rt : Rt} (e1 : cnt = (c.cnt : Nat)) (e2 : slot = c.slot) (e3 : point = c.point) (e4 : rt = c.rt cl) (e5 : code = c.code) :
    Ent (crB b r .nilFunc n1 n2 n3 pp cl cnt slot point rt code :: G) (pt (some ⟨b, 0, none⟩) (CreO r sp k cl c) :: G) := by
  subst e1 e2 e3 e4 e5
  exact Ent.close (f := crSL .nilFunc 232 r cl c (some ⟨b, 0, none⟩)) (CreO.d h) (n1, n2, n3, pp)
set_option maxHeartbeats 2000000 in
theorem rootsCreate {g mp sb : Nat} {x : Cn} (cl : Nat) (hcl : cl ≤ 3) (hx : x.ok) [c : Take L (some ⟨g, 0, none⟩) (RoO mp sb x) F] {F2 : St} [s : Take F (some ⟨sb, 0, none⟩) (SkO mp x.spare) F2] :
    Fx Tryz.prog 84 [.pointer (some ⟨g, 0, none⟩), .int .i64 cl] L (fun v L' => ∃ b, v = .pointer (some ⟨b, 0, none⟩) ∧ L' = pt (some ⟨b, 0, none⟩) (CreO g sb x.spare cl CreS.init) :: L) := by
  obtain ⟨b1, b2, b3, b4, b5, b6, b7⟩ := show MayC (x.w : Int) x.c x.wd x.sl x.ca x.ba from hx
  refine Fx.mk Tryz.func84 k84 (Nat.le_of_ble_eq_true rfl) ?_
  dsimp only [c84, envOf, Nat.reduceAdd]
  refine Cx.ent (Ent.trans (Ent.of c.out) (Ent.cons (Ent.of s.out))) ?_
  refine go ?_
  have e1 : (bif true then (if (cl : Int) < 0 then (0 : Int) else (cl : Int)) else (if (0 : Int) < (cl : Int) then (0 : Int) else (cl : Int))) = cl := by
    rw [cond_true, if_neg (by omega)]
  have e2 : (bif false then (if (cl : Int) < 3 then (3 : Int) else (cl : Int)) else (if (3 : Int) < (cl : Int) then (3 : Int) else (cl : Int))) = cl := by
    rw [cond_false, if_neg (by omega)]
  rw [e1, e2]
  refine Sx.ca rfl (stackPop (sb := sb) (k := x.spare) 1 (by show 1 ≤ x.sl; omega)) ?_
  rintro v L' ⟨p, rfl, rfl⟩
  refine go ?_
  refine Sx.bx rfl rfl fun b => ?_
  refine Sx.re [.nilFunc, .nilFunc, .nilFunc, .nilFunc, .int .i64 0, .pointer (some ⟨g, 0, none⟩), .int .i64 cl, .pointer (some ⟨p, 0, none⟩), .int .i64 (-1), .int .i64 0, .int .i64 0, .int .i64 0, .int .i64 0, .int .i64 0, .int .i64 0] rfl ?_
  refine go ?_
  refine Cx.ordc rfl (by kernel_rfl) ?_
  refine ge ?_
  refine Ev.caH (by kernel_rfl) rfl rfl (machThrough (b := b) (machOnNo (b := b) (by kernel_rfl) (popDoneC (b := p) (sb := sb) (k := x.spare) (q := PopS.init 1)))) (Pres.deps (by kernel_rfl)) ?_
  rintro v L' ⟨rfl, w, rfl, rfl⟩
  refine ge ?_
  refine go ?_
  refine Kr.one (.inr rfl) rfl ?_ ⟨b, rfl, rfl⟩
  refine Ent.trans (CreO.closeP (b := b) (r := g) (sp := sb) (p := p) (k := x.spare) (cl := cl) (rt := ⟨0, 0, 0, 0⟩) CreS.init rfl rfl rfl rfl rfl rfl rfl rfl) (Ent.cons ?_)
  exact Ent.trans (Ent.cons (Ent.of s.back)) (Ent.of c.back)
theorem crNext {b r : Nat} {nx n1 n2 n3 pp : Value} {cl : Nat} {cnt slot : Int} {point code : Nat} {rt : Rt} (w : Rt) (hg : w.gen < 4294967296) [tk : Take L (some ⟨b, 0, none⟩) (Blk 232 [nx, n1, n2, n3, .int .i64 cnt, .pointer (some ⟨r, 0, none⟩), .int .i64 cl, pp, .int .i64 slot, .int .i64 (point : Nat), .int .i64 (rt.gen : Nat), .int .i64 (rt.mrk : Nat), .int .i64 (rt.cl : Nat), .int .i64 (rt.off : Nat), .int .i64 (code : Nat)]) F] :
    Fx Tryz.prog 251 [.pointer (some ⟨b, 0, none⟩), rtV w] L (fun v L' => v = rtV ⟨laterT w.gen, 1, cl, 0⟩ ∧ L = L') := by
  obtain ⟨gn, mk_, cw, ow⟩ := w
  dsimp only at hg ⊢
  refine Fx.mk Tryz.func251 k251 (Nat.le_of_ble_eq_true rfl) ?_
  dsimp only [c251, envOf, Nat.reduceAdd]
  refine Cx.sq ?_
  refine Cx.rg ?_
  refine Sx.bx rfl rfl fun q => ?_
  refine go ?_
  refine Sx.al fun o => ?_
  repeat' (first|refine Zo0 rfl ?_|refine Zo1 ?_|refine Zo2 ?_|refine Zo3 ?_|refine Zo4 ?_|refine Zo5 ?_|refine Zo6 ?_|refine Zo7 ?_|refine Zo8 rfl ?_|refine Zo9 rfl ?_|refine Zoa ?_|refine Zob ?_|refine Zoc ?_|refine Zod ?_|refine Zoe ?_|refine Zof ?_|refine Zog ?_|refine Zoh ?_|refine Zom rfl (by rfl) ?_|refine Zon rfl rfl ?_|refine Zoo rfl rfl rfl rfl (by rfl) (by rfl) ?_|refine Zop rfl trivial ?_|refine Zoq rfl rfl rfl ?_)
  refine Cx.ifp rfl (fun h => ?_) (fun h => ?_)
  · refine go ?_
    rw [w64 (n := (gn : Int) + 1) (by omega) (by omega)]
    refine Sx.st (b := o) rfl rfl rfl rfl rfl rfl ?_
    dsimp only [lay]
    refine go ?_
    refine Kr_cell (b := o) (.inr rfl) rfl rfl (L' := L) (Ent.trans Ent.drop Ent.drop) ⟨?_, rfl⟩
    dsimp only at h
    unfold laterT
    rw [if_pos (show gn < 4294967295 by omega)]
    rfl
  · refine go ?_
    refine Sx.st (b := o) rfl rfl rfl rfl rfl rfl ?_
    dsimp only [lay]
    refine go ?_
    refine Kr_cell (b := o) (.inr rfl) rfl rfl (L' := L) (Ent.trans Ent.drop Ent.drop) ⟨?_, rfl⟩
    dsimp only at h
    unfold laterT
    rw [if_neg (show ¬ gn < 4294967295 by omega)]
    rfl
end
end Go.Proofs.YtflalhdofhobmaaGreat

/-
  Roots: a Create's steps.
-/
set_option linter.unusedVariables false
set_option linter.unusedSimpArgs false
namespace Go.Proofs.YtflalhdofhobmaaGreat
open Go
attribute [local irreducible] Sx Cx Rx Fx Krg Ksq Kbl Klp Kr
section
variable {L F G : St}
/-- Its Pop is done. -/
theorem crPopped_ {b r sp p : Nat} {k : Sk} {cl : Nat} {c : CreS} {n1 n2 n3 : Value} {cnt : Int} (hcnt : cnt = ((c.cnt + 1 : Nat) : Int)) (h0 : c.at_ = 0) (hd : c.done = false) {q : PopS} (hq : q.done = true) (hl : q.got.length ≤ 8) :
    Fx Tryz.prog 165 [.pointer (some ⟨b, 0, none⟩)] (crB b r .nilFunc n1 n2 n3 (.pointer (some ⟨p, 0, none⟩)) cl cnt c.slot c.point (c.rt cl) c.code :: pt (some ⟨p, 0, none⟩) (PopO sp k q) :: G)
      (fun v L' => L' = pt (some ⟨b, 0, none⟩) (CreO r sp k cl (crPopped { c with cnt := c.cnt + 1, q := q })) :: G) := by
  subst hcnt
  refine Fx.mk Tryz.func165 k165 (Nat.le_of_ble_eq_true rfl) ?_
  dsimp only [c165, envOf, Nat.reduceAdd]
  refine go ?_
  refine Sx.ca rfl (machCount (b := b)) ?_
  rintro v L' ⟨rfl, rfl⟩
  refine go ?_
  refine Sx.ca rfl (popGot (b := p) (sb := sp) (k := k) (q := q) hq) ?_
  rintro v L' ⟨ro, co, rfl, rfl⟩
  refine go ?_
  cases hg : q.got with
  | nil =>
    have e : crPopped { c with cnt := c.cnt + 1, q := q } = { c with cnt := c.cnt + 1, q := q, point := c.cnt + 1, code := 7, done := true } := by unfold crPopped; rw [hg]
    rw [e]
    refine go ?_
    refine Kr.none (.inr rfl) ?_ rfl
    refine Ent.trans (Ent.take (a := some ⟨b, 0, none⟩)) ?_
    refine Ent.trans (CreO.closeD (b := b) (r := r) (sp := sp) (k := k) (cl := cl) (rt := c.rt cl) { c with cnt := c.cnt + 1, q := q, point := c.cnt + 1, code := 7, done := true } rfl rfl rfl rfl rfl rfl) (Ent.cons ?_)
    exact ent
  | cons y l =>
    have e : crPopped { c with cnt := c.cnt + 1, q := q } = { c with cnt := c.cnt + 1, q := q, point := c.cnt + 1, slot := y, at_ := 1 } := by unfold crPopped; rw [hg]
    rw [e]
    rw [hg] at hl
    simp only [List.length_cons] at hl ⊢
    refine Cx.cno rfl (decide_eq_false (by omega)) ?_
    refine Cx.rowkey (a := ro) fun hx0 hn0 hc0 hk0 => ?_
    obtain ⟨rg, rfl⟩ : ∃ g, ro = some ⟨g, 0, none⟩ := by
      rcases hk0 with h | h
      · omega
      · exact h
    refine go ?_
    refine Sx.pv rfl ⟨by omega, by omega⟩ ?_
    refine Sx.ldr (b := rg) rfl (v := .int .i64 y) rfl ?_
    refine go ?_
    refine Sx.ca rfl (machGo (b := b)) ?_
    rintro v L' ⟨rfl, rfl⟩
    refine go ?_
    refine Kr.none (.inl rfl) ?_ rfl
    refine Ent.trans (Ent.take (a := some ⟨b, 0, none⟩)) ?_
    refine Ent.trans (CreO.closeL (b := b) (r := r) (sp := sp) (k := k) (cl := cl) (rt := c.rt cl) { c with cnt := c.cnt + 1, q := q, point := c.cnt + 1, slot := y, at_ := 1 } hd rfl rfl rfl rfl ?_ rfl) (Ent.cons ?_)
    · unfold CreS.rt; dsimp only; rw [if_neg (by omega), if_neg (by omega)]
    · exact ent
theorem crLoad_ {b r mp sp : Nat} {x : Cn} {m : Mm} {cl : Nat} {c : CreS} {n1 n2 n3 pp : Value} {cnt : Int} (hcnt : cnt = ((c.cnt + 1 : Nat) : Int)) (h1 : c.at_ = 1) (hd : c.done = false) (hx : x.ok) (hm : m.ok) (hl : x.len ≤ m.ws.length) (hs : 0 ≤ c.slot ∧ c.slot < x.sl) :
    Fx Tryz.prog 224 [.pointer (some ⟨b, 0, none⟩)] (crB b r .nilFunc n1 n2 n3 pp cl cnt c.slot c.point (c.rt cl) c.code :: pt (some ⟨r, 0, none⟩) (RoO mp sp x) :: pt (some ⟨mp, 0, none⟩) (MemO m) :: G)
      (fun v L' => L' = pt (some ⟨b, 0, none⟩) (CreO r sp x.spare cl { c with cnt := c.cnt + 1, was := m.at_ (x.root + c.slot.toNat), at_ := 2 }) :: pt (some ⟨mp, 0, none⟩) (MemO m.tick) :: pt (some ⟨r, 0, none⟩) (RoO mp sp x) :: G) := by
  subst hcnt
  obtain ⟨s, hs1⟩ : ∃ s : Nat, c.slot = s := ⟨c.slot.toNat, by omega⟩
  rw [hs1, Int.toNat_natCast]
  refine Fx.mk Tryz.func224 k224 (Nat.le_of_ble_eq_true rfl) ?_
  dsimp only [c224, envOf, Nat.reduceAdd]
  refine Cx.sq ?_
  refine Cx.rd ?_
  refine Rx.pvs rfl ?_
  refine Rx.ldbK 0 rfl rfl rfl (by rfl) rfl rfl ?_
  refine Rx.pvs rfl ?_
  refine Rx.ldbK 0 rfl rfl rfl (by rfl) rfl rfl ?_
  refine Rx.pvs rfl ?_
  refine Rx.two rfl rfl rfl ?_ ?_
  · refine Sx.ca rfl (rootsLoad (g := r) (mp := mp) (sb := sp) (x := x) (m := m) s (by omega) hx hm hl) ?_
    rintro v L' ⟨rfl, rfl⟩
    refine Sx.nil ⟨⟨⟨trivial, Has.cell rfl⟩, Has.cell rfl⟩, ?_⟩
    refine Rx.pvs rfl ?_
    refine Rx.one rfl rfl rfl ?_
    refine Sx.al fun q => ?_
    refine Sx.nil ⟨⟨⟨trivial, Has.cell rfl⟩, Has.cell rfl⟩, ?_⟩
    refine Rx.pvs rfl ?_
    refine Rx.one rfl rfl rfl ?_
    refine Sx.st (b := q) rfl rfl rfl rfl rfl rfl ?_
    refine Sx.re (rtL (rtOf (m.at_ (x.root + s)))) rfl ?_
    refine Sx.nil ⟨⟨⟨trivial, Has.cell rfl⟩, Has.cell rfl⟩, ?_⟩
    refine Rx.nil ?_
    refine go ?_
    refine Sx.ca rfl (crNext (b := b) (r := r) (cl := cl) (rtOf (m.at_ (x.root + s))) (rtOf_gen (Mm.at_lt hm _))) ?_
    rintro v L' ⟨rfl, rfl⟩
    refine go ?_
    refine Sx.st (b := b) rfl rfl rfl rfl rfl rfl ?_
    refine Sx.re [.nilFunc, n1, n2, n3, .int .i64 ((c.cnt + 1 : Nat) : Int), .pointer (some ⟨r, 0, none⟩), .int .i64 cl, pp, .int .i64 (s : Nat), .int .i64 (c.point : Nat), .int .i64 ((nextRt cl (m.at_ (x.root + s))).gen : Nat), .int .i64 ((nextRt cl (m.at_ (x.root + s))).mrk : Nat), .int .i64 ((nextRt cl (m.at_ (x.root + s))).cl : Nat), .int .i64 ((nextRt cl (m.at_ (x.root + s))).off : Nat), .int .i64 (c.code : Nat)] rfl ?_
    refine go ?_
    refine Sx.ca rfl (machGo (b := b)) ?_
    rintro v L' ⟨rfl, rfl⟩
    refine go ?_
    refine Kr.none (.inl rfl) ?_ rfl
    refine Ent.trans (Ent.take (a := some ⟨b, 0, none⟩)) ?_
    refine Ent.trans (CreO.closeS (b := b) (r := r) (sp := sp) (k := x.spare) (cl := cl) (rt := nextRt cl (m.at_ (x.root + s))) { c with cnt := c.cnt + 1, slot := (s : Int), was := m.at_ (x.root + s), at_ := 2 } hd rfl rfl rfl rfl ?_ rfl) (Ent.cons ?_)
    · unfold CreS.rt; dsimp only; rw [if_pos rfl]
    · exact ent
  · refine Sx.al fun q => ?_
    refine Sx.nil ⟨⟨⟨trivial, Has.cell rfl⟩, Has.cell rfl⟩, ?_⟩
    refine Rx.pvs rfl ?_
    refine Rx.one rfl rfl rfl ?_
    refine Sx.ca rfl (rootsLoad (g := r) (mp := mp) (sb := sp) (x := x) (m := m) s (by omega) hx hm hl) ?_
    rintro v L' ⟨rfl, rfl⟩
    refine Sx.nil ⟨⟨⟨trivial, Has.cell rfl⟩, Has.cell rfl⟩, ?_⟩
    refine Rx.pvs rfl ?_
    refine Rx.one rfl rfl rfl ?_
    refine Sx.st (b := q) rfl rfl rfl rfl rfl rfl ?_
    refine Sx.re (rtL (rtOf (m.at_ (x.root + s)))) rfl ?_
    refine Sx.nil ⟨⟨⟨trivial, Has.cell rfl⟩, Has.cell rfl⟩, ?_⟩
    refine Rx.nil ?_
    refine go ?_
    refine Sx.ca rfl (crNext (b := b) (r := r) (cl := cl) (rtOf (m.at_ (x.root + s))) (rtOf_gen (Mm.at_lt hm _))) ?_
    rintro v L' ⟨rfl, rfl⟩
    refine go ?_
    refine Sx.st (b := b) rfl rfl rfl rfl rfl rfl ?_
    refine Sx.re [.nilFunc, n1, n2, n3, .int .i64 ((c.cnt + 1 : Nat) : Int), .pointer (some ⟨r, 0, none⟩), .int .i64 cl, pp, .int .i64 (s : Nat), .int .i64 (c.point : Nat), .int .i64 ((nextRt cl (m.at_ (x.root + s))).gen : Nat), .int .i64 ((nextRt cl (m.at_ (x.root + s))).mrk : Nat), .int .i64 ((nextRt cl (m.at_ (x.root + s))).cl : Nat), .int .i64 ((nextRt cl (m.at_ (x.root + s))).off : Nat), .int .i64 (c.code : Nat)] rfl ?_
    refine go ?_
    refine Sx.ca rfl (machGo (b := b)) ?_
    rintro v L' ⟨rfl, rfl⟩
    refine go ?_
    refine Kr.none (.inl rfl) ?_ rfl
    refine Ent.trans (Ent.take (a := some ⟨b, 0, none⟩)) ?_
    refine Ent.trans (CreO.closeS (b := b) (r := r) (sp := sp) (k := x.spare) (cl := cl) (rt := nextRt cl (m.at_ (x.root + s))) { c with cnt := c.cnt + 1, slot := (s : Int), was := m.at_ (x.root + s), at_ := 2 } hd rfl rfl rfl rfl ?_ rfl) (Ent.cons ?_)
    · unfold CreS.rt; dsimp only; rw [if_pos rfl]
    · exact ent
theorem crStore_ {b r mp sp : Nat} {x : Cn} {m : Mm} {cl : Nat} {c : CreS} {n1 n2 n3 pp : Value} {cnt : Int} (hcnt : cnt = ((c.cnt + 1 : Nat) : Int)) (h2 : c.at_ = 2) (hcl : cl ≤ 3) (hx : x.ok) (hw : c.was < 18446744073709551616) (hl : x.len ≤ m.ws.length) (hs : 0 ≤ c.slot ∧ c.slot < x.sl) :
    Fx Tryz.prog 252 [.pointer (some ⟨b, 0, none⟩)] (crB b r .nilFunc n1 n2 n3 pp cl cnt c.slot c.point (c.rt cl) c.code :: pt (some ⟨r, 0, none⟩) (RoO mp sp x) :: pt (some ⟨mp, 0, none⟩) (MemO m) :: G)
      (fun v L' => L' = pt (some ⟨b, 0, none⟩) (CreO r sp x.spare cl { c with cnt := c.cnt + 1, done := true }) :: pt (some ⟨mp, 0, none⟩) (MemO (m.put (x.root + c.slot.toNat) (nextRt cl c.was).w)) :: pt (some ⟨r, 0, none⟩) (RoO mp sp x) :: G) := by
  subst hcnt
  have hsz : x.root + x.sl ≤ x.len := by unfold Cn.root Cn.len; omega
  have hrt : c.rt cl = nextRt cl c.was := by unfold CreS.rt; rw [if_pos h2]
  have hnk := nextRt_ok hw hcl
  obtain ⟨s, hs1⟩ : ∃ s : Nat, c.slot = s := ⟨c.slot.toNat, by omega⟩
  rw [hs1, Int.toNat_natCast, hrt]
  obtain ⟨R, hR⟩ : ∃ R, nextRt cl c.was = R := ⟨_, rfl⟩
  rw [hR] at hnk ⊢
  refine Fx.mk Tryz.func252 k252 (Nat.le_of_ble_eq_true rfl) ?_
  dsimp only [c252, envOf, Nat.reduceAdd]
  refine go ?_
  refine Sx.ca rfl (putRoot R hnk) ?_
  rintro v L' ⟨rfl, rfl⟩
  refine go ?_
  refine Cx.orde rfl (by kernel_rfl) ?_
  refine ge ?_
  refine Ev.cakH (by kernel_rfl) rfl rfl (layRootN hx s (by omega)) ?_
  refine ge ?_
  refine Ev.caH (by kernel_rfl) rfl rfl (cellsStore (b := mp) (m := m) (x.root + s) R.w (by omega) (Rt.w_lt hnk)) (Pres.deps (by kernel_rfl)) ?_
  rintro v L' ⟨rfl, rfl⟩
  refine ge ?_
  refine Kr.none (.inl rfl) ?_ rfl
  refine Ent.trans (Ent.take (a := some ⟨b, 0, none⟩)) ?_
  refine Ent.trans (CreO.closeD (b := b) (r := r) (sp := sp) (k := x.spare) (cl := cl) (rt := R) { c with cnt := c.cnt + 1, slot := (s : Int), done := true } rfl rfl rfl rfl (by rw [← hR, ← hrt]; rfl) rfl) (Ent.cons ?_)
  exact ent
theorem cr_l {k : Sk} {m : Mm} {q : PopS} (h : q.ok k) {len : Nat} (hk : k.ok len) (hm : m.ok) : (popStep k m q).1.got.length ≤ 8 := (popStep_ok hk hm h).len
/-- One access of a Create. -/
theorem crStepC {b r mp sp : Nat} {x : Cn} {m : Mm} {cl : Nat} {c : CreS} {F1 F2 F3 : St} (hx : x.ok) (hl : x.len ≤ m.ws.length) (hcl : cl ≤ 3) (hc : c.ok x.spare)
    [t1 : Take L (some ⟨b, 0, none⟩) (CreO r sp x.spare cl c) F1] [t2 : Take F1 (some ⟨mp, 0, none⟩) (MemO m) F2] [t3 : Take F2 (some ⟨r, 0, none⟩) (RoO mp sp x) F3] [t4 : Take F3 (some ⟨sp, 0, none⟩) (SkO mp x.spare) G] :
    Fx Tryz.prog 86 [.pointer (some ⟨b, 0, none⟩)] L
      (fun v L' => v = .bool (!c.done) ∧ L' = pt (some ⟨b, 0, none⟩) (CreO r sp x.spare cl (crStep x.spare x.root cl m c).1) :: pt (some ⟨mp, 0, none⟩) (MemO (crStep x.spare x.root cl m c).2) :: F2) := by
  have hback : Ent (pt (some ⟨r, 0, none⟩) (RoO mp sp x) :: pt (some ⟨sp, 0, none⟩) (SkO mp x.spare) :: G) F2 := Ent.trans (Ent.cons (Ent.of t4.back)) (Ent.of t3.back)
  obtain ⟨ha, hq0, hw, hs, hn⟩ := hc
  refine Fx.mk Tryz.func86 k86 (Nat.le_of_ble_eq_true rfl) ?_
  dsimp only [c86, envOf, Nat.reduceAdd]
  refine Cx.ent (Ent.trans (Ent.of t1.out) (Ent.cons (Ent.trans (Ent.of t2.out) (Ent.cons (Ent.trans (Ent.of t3.out) (Ent.cons (Ent.of t4.out))))))) ?_
  refine Cx.pure (memKey (b := mp) (m := m)) fun hm => ?_
  have hk := hx.spare (n := m.ws.length) hl hm.2
  cases hd : c.done with
  | true =>
    have e1 : crStep x.spare x.root cl m c = (c, m) := by unfold crStep; rw [hd]; rfl
    rw [e1]
    refine Cx.openp (a := some ⟨b, 0, none⟩) (CreO.d hd) ?_
    rintro ⟨n1, n2, n3, pp⟩
    simp only [crSL, List.cons_append, List.nil_append]
    refine go ?_
    refine Sx.ca rfl (machStepDone (b := b)) ?_
    rintro v L' ⟨rfl, rfl⟩
    refine go ?_
    exact Kr.one (.inr rfl) rfl (Ent.trans (CreO.closeD c hd rfl rfl rfl rfl rfl) (Ent.cons (Ent.cons hback))) ⟨rfl, rfl⟩
  | false =>
    rcases (show c.at_ = 0 ∨ c.at_ = 1 ∨ c.at_ = 2 by omega) with h0 | h0 | h0
    · refine Cx.openp (a := some ⟨b, 0, none⟩) (CreO.p hd h0) ?_
      intro p
      simp only [crPL, List.cons_append, List.nil_append]
      have hlen := cr_l (m := m) hq0 hk hm.1
      cases hq : (popStep x.spare m c.q).1.done with
      | true =>
        have e1 : crStep x.spare x.root cl m c = (crPopped { c with cnt := c.cnt + 1, q := (popStep x.spare m c.q).1 }, (popStep x.spare m c.q).2) := by unfold crStep; rw [hd, h0]; simp only [Bool.false_eq_true, if_false, hq, if_true]
        rw [e1]
        refine go ?_
        refine Sx.ca rfl (machStep (b := b) (by kernel_rfl) (machGoes (b := b) (by kernel_rfl) (popStepC (b := p) (mp := mp) (sb := sp) (k := x.spare) (m := m) (q := c.q) hk)
          (R2 := fun v L' => v = .tuple #[] ∧ ∃ w : Value, L' = pt (some ⟨b, 0, none⟩) (CreO r sp x.spare cl (crPopped { c with cnt := c.cnt + 1, q := (popStep x.spare m c.q).1 })) :: pt (some ⟨mp, 0, none⟩) (MemO (popStep x.spare m c.q).2) :: pt (some ⟨r, 0, none⟩) (RoO mp sp x) :: pt (some ⟨sp, 0, none⟩) (SkO mp x.spare) :: G) ?_)) ?_
        · rintro v L1 ⟨rfl, rfl⟩
          have hon := machOnYes (b := b) (by kernel_rfl) (fd := 164) (ft := 165) (w := .pointer (some ⟨p, 0, none⟩)) (u := .pointer (some ⟨b, 0, none⟩))
            (L := pt (some ⟨p, 0, none⟩) (PopO sp x.spare (popStep x.spare m c.q).1) :: pt (some ⟨mp, 0, none⟩) (MemO (popStep x.spare m c.q).2) :: crB b r .nilFunc (mth 163 p) (mth 164 p) (mth 165 b) (.pointer (some ⟨p, 0, none⟩)) cl (IntKind.i64.wrap ((c.cnt : Int) + 1)) c.slot c.point (c.rt cl) c.code :: pt (some ⟨r, 0, none⟩) (RoO mp sp x) :: pt (some ⟨sp, 0, none⟩) (SkO mp x.spare) :: G)
            ((popDoneC (b := p) (sb := sp) (k := x.spare) (q := (popStep x.spare m c.q).1)).mono (by rintro v L' ⟨rfl, rfl⟩; exact ⟨by rw [hq], rfl⟩)) (by kernel_rfl)
            (Fx.ent (M := crB b r .nilFunc (mth 163 p) (mth 164 p) (mth 165 b) (.pointer (some ⟨p, 0, none⟩)) cl (IntKind.i64.wrap ((c.cnt : Int) + 1)) c.slot c.point (c.rt cl) c.code :: pt (some ⟨p, 0, none⟩) (PopO sp x.spare (popStep x.spare m c.q).1) :: pt (some ⟨mp, 0, none⟩) (MemO (popStep x.spare m c.q).2) :: pt (some ⟨r, 0, none⟩) (RoO mp sp x) :: pt (some ⟨sp, 0, none⟩) (SkO mp x.spare) :: G) (by exact ent)
              (crPopped_ (b := b) (r := r) (sp := sp) (p := p) (k := x.spare) (cl := cl) (c := c) (cntW hn) h0 hd hq hlen))
          refine hon.mono ?_
          rintro v L' ⟨rfl, w, rfl⟩
          exact ⟨rfl, .tuple #[], rfl⟩
        · rintro v L' ⟨rfl, w, _, w2, _, w3, rfl⟩
          refine go ?_
          exact Kr.one (.inr rfl) rfl (Ent.cons (Ent.cons hback)) ⟨rfl, rfl⟩
      | false =>
        have e1 : crStep x.spare x.root cl m c = ({ c with cnt := c.cnt + 1, q := (popStep x.spare m c.q).1 }, (popStep x.spare m c.q).2) := by unfold crStep; rw [hd, h0]; simp only [Bool.false_eq_true, if_false, hq]
        rw [e1]
        refine go ?_
        refine Sx.ca rfl (machStep (b := b) (by kernel_rfl) (machGoes (b := b) (by kernel_rfl) (popStepC (b := p) (mp := mp) (sb := sp) (k := x.spare) (m := m) (q := c.q) hk)
          (R2 := fun v L' => v = .tuple #[] ∧ L' = crB b r (mth 232 b) (mth 163 p) (mth 164 p) (mth 165 b) (.pointer (some ⟨p, 0, none⟩)) cl (IntKind.i64.wrap ((c.cnt : Int) + 1)) c.slot c.point (c.rt cl) c.code ::
            pt (some ⟨p, 0, none⟩) (PopO sp x.spare (popStep x.spare m c.q).1) :: pt (some ⟨mp, 0, none⟩) (MemO (popStep x.spare m c.q).2) :: pt (some ⟨r, 0, none⟩) (RoO mp sp x) :: pt (some ⟨sp, 0, none⟩) (SkO mp x.spare) :: G) ?_)) ?_
        · rintro v L1 ⟨rfl, rfl⟩
          refine (machOnNo (b := b) (by kernel_rfl) ((popDoneC (b := p) (sb := sp) (k := x.spare) (q := (popStep x.spare m c.q).1)).mono (by rintro v L' ⟨rfl, rfl⟩; exact ⟨by rw [hq], rfl⟩))).mono ?_
          rintro v L' ⟨rfl, rfl⟩
          exact ⟨rfl, rfl⟩
        · rintro v L' ⟨rfl, w, _, w2, _, rfl⟩
          refine go ?_
          refine Kr.one (.inr rfl) rfl ?_ ⟨rfl, rfl⟩
          refine Ent.trans (CreO.closeP (p := p) { c with cnt := c.cnt + 1, q := (popStep x.spare m c.q).1 } hd h0 (cntW hn) rfl rfl rfl rfl rfl) (Ent.cons ?_)
          exact Ent.cons hback
    · refine Cx.openp (a := some ⟨b, 0, none⟩) (CreO.l hd h0) ?_
      rintro ⟨n1, n2, n3, pp⟩
      simp only [crSL, List.cons_append, List.nil_append]
      have e1 : crStep x.spare x.root cl m c = ({ c with cnt := c.cnt + 1, was := m.at_ (x.root + c.slot.toNat), at_ := 2 }, m.tick) := by unfold crStep; rw [hd, h0]; rfl
      rw [e1]
      refine Cx.ent (M := crB b r (mth 224 b) n1 n2 n3 pp cl c.cnt c.slot c.point (c.rt cl) c.code :: pt (some ⟨r, 0, none⟩) (RoO mp sp x) :: pt (some ⟨mp, 0, none⟩) (MemO m) :: pt (some ⟨sp, 0, none⟩) (SkO mp x.spare) :: G) (by exact ent) ?_
      refine go ?_
      refine Sx.ca rfl (machStep (b := b) (by kernel_rfl) (crLoad_ (b := b) (r := r) (mp := mp) (sp := sp) (x := x) (m := m) (cl := cl) (c := c) (cntW hn) h0 hd hx hm.1 hl (hs (by omega)))) ?_
      rintro v L' ⟨rfl, w, rfl⟩
      refine go ?_
      exact Kr.one (.inr rfl) rfl (Ent.cons (Ent.cons hback)) ⟨rfl, rfl⟩
    · refine Cx.openp (a := some ⟨b, 0, none⟩) (CreO.s hd h0) ?_
      rintro ⟨n1, n2, n3, pp⟩
      simp only [crSL, List.cons_append, List.nil_append]
      have e1 : crStep x.spare x.root cl m c = ({ c with cnt := c.cnt + 1, done := true }, m.put (x.root + c.slot.toNat) (nextRt cl c.was).w) := by unfold crStep; rw [hd, h0]; rfl
      rw [e1]
      refine Cx.ent (M := crB b r (mth 252 b) n1 n2 n3 pp cl c.cnt c.slot c.point (c.rt cl) c.code :: pt (some ⟨r, 0, none⟩) (RoO mp sp x) :: pt (some ⟨mp, 0, none⟩) (MemO m) :: pt (some ⟨sp, 0, none⟩) (SkO mp x.spare) :: G) (by exact ent) ?_
      refine go ?_
      refine Sx.ca rfl (machStep (b := b) (by kernel_rfl) (crStore_ (b := b) (r := r) (mp := mp) (sp := sp) (x := x) (m := m) (cl := cl) (c := c) (cntW hn) h0 hcl hx hw hl (hs (by omega)))) ?_
      rintro v L' ⟨rfl, w, rfl⟩
      refine go ?_
      exact Kr.one (.inr rfl) rfl (Ent.cons (Ent.cons hback)) ⟨rfl, rfl⟩
theorem crDone {b r sp : Nat} {k : Sk} {cl : Nat} {c : CreS} {F1 : St} (hd : c.done = true) [t1 : Take L (some ⟨b, 0, none⟩) (CreO r sp k cl c) F1] : Fx Tryz.prog 89 [.pointer (some ⟨b, 0, none⟩)] L (fun v L' => v = .bool true ∧ L = L') := by
  refine Fx.kept (t := t1) ?_
  refine Fx.mk Tryz.func89 k89 (Nat.le_of_ble_eq_true rfl) ?_
  dsimp only [c89, envOf, Nat.reduceAdd]
  refine Cx.ent (Ent.of t1.out) ?_
  refine Cx.openp (a := some ⟨b, 0, none⟩) (CreO.d hd) ?_
  rintro ⟨n1, n2, n3, pp⟩
  simp only [crSL, List.cons_append, List.nil_append]
  refine go ?_
  refine Sx.ca rfl (machDoneYes (b := b)) ?_
  rintro v L' ⟨rfl, rfl⟩
  refine go ?_
  exact Kr.one (.inr rfl) rfl (CreO.closeD c hd rfl rfl rfl rfl rfl) ⟨rfl, rfl⟩
theorem crCode {b r sp : Nat} {k : Sk} {cl : Nat} {c : CreS} {F1 : St} (hd : c.done = true) [t1 : Take L (some ⟨b, 0, none⟩) (CreO r sp k cl c) F1] : Fx Tryz.prog 90 [.pointer (some ⟨b, 0, none⟩)] L (fun v L' => v = .int .i64 (c.code : Nat) ∧ L = L') := by
  refine Fx.kept (t := t1) ?_
  refine Fx.mk Tryz.func90 k90 (Nat.le_of_ble_eq_true rfl) ?_
  dsimp only [c90, envOf, Nat.reduceAdd]
  refine Cx.ent (Ent.of t1.out) ?_
  refine Cx.openp (a := some ⟨b, 0, none⟩) (CreO.d hd) ?_
  rintro ⟨n1, n2, n3, pp⟩
  simp only [crSL, List.cons_append, List.nil_append]
  refine go ?_
  exact Kr.one (.inr rfl) rfl (CreO.closeD c hd rfl rfl rfl rfl rfl) ⟨rfl, rfl⟩
/-- The region that was made. -/
theorem crRegion {b r sp : Nat} {k : Sk} {cl : Nat} {c : CreS} {F1 : St} (hd : c.done = true) (h2 : c.at_ = 2) (h0 : c.code = 0) [t1 : Take L (some ⟨b, 0, none⟩) (CreO r sp k cl c) F1] : Fx Tryz.prog 88 [.pointer (some ⟨b, 0, none⟩)] L
    (fun v L' => v = .tuple #[.int .i64 c.slot, .int .i64 (laterT (rtOf c.was).gen : Nat)] ∧ L = L') := by
  refine Fx.kept (t := t1) ?_
  have hrt : c.rt cl = nextRt cl c.was := by unfold CreS.rt; rw [if_pos h2]
  refine Fx.mk Tryz.func88 k88 (Nat.le_of_ble_eq_true rfl) ?_
  dsimp only [c88, envOf, Nat.reduceAdd]
  refine Cx.ent (Ent.of t1.out) ?_
  refine go ?_
  refine Sx.ca rfl (crDone (b := b) (r := r) (sp := sp) (k := k) (cl := cl) (c := c) hd) ?_
  rintro v L' ⟨rfl, rfl⟩
  refine Sx.openp (a := some ⟨b, 0, none⟩) (CreO.d hd) ?_
  rintro ⟨n1, n2, n3, pp⟩
  simp only [crSL, List.cons_append, List.nil_append]
  rw [h0]
  refine go ?_
  refine Cx.ordc rfl (by kernel_rfl) ?_
  refine ge ?_
  refine go ?_
  refine Kr.two (.inr rfl) rfl rfl (CreO.closeD c hd rfl rfl rfl rfl h0.symm) ⟨?_, rfl⟩
  rw [hrt]; rfl
end
end Go.Proofs.YtflalhdofhobmaaGreat

/-
  The limbo's contracts: New, Retire, Len, Bucket.
-/
set_option linter.unusedVariables false
set_option linter.unusedSimpArgs false
namespace Go.Proofs.YtflalhdofhobmaaGreat
open Go
attribute [local irreducible] Sx Cx Rx Fx Krg Ksq Kbl Klp Kr
section
variable {L F : St}
def LimboT (T : TypeId) (m : Lm) (a : Option Addr) : As :=
  exs fun (y : (Option Addr × Nat) × (Option Addr × Nat) × (Option Addr × Nat)) =>
    [pt a (Blk T [.int .i64 m.t0, .slice y.1.1 m.x0.length y.1.2, .int .i64 m.t1, .slice y.2.1.1 m.x1.length y.2.1.2, .int .i64 m.t2, .slice y.2.2.1 m.x2.length y.2.2.2, .int .i64 m.last]),
     pt y.1.1 (Row 3 1 m.x0.length y.1.2 (ints m.x0)), pt y.2.1.1 (Row 3 1 m.x1.length y.2.1.2 (ints m.x1)), pt y.2.2.1 (Row 3 1 m.x2.length y.2.2.2 (ints m.x2))]
abbrev LimboO := LimboT 255
theorem LimboO.close {T : TypeId} {a r0 r1 r2 : Option Addr} {c0 c1 c2 n0 n1 n2 : Nat} {v0 v1 v2 v3 : Value} {w0 w1 w2 : List Value} {F F0 F1 G : St} (m : Lm)
    [t : Take L a (Blk T [v0, .slice r0 n0 c0, v1, .slice r1 n1 c1, v2, .slice r2 n2 c2, v3]) F] [u0 : Take F r0 (Row 3 1 n0 c0 w0) F0] [u1 : Take F0 r1 (Row 3 1 n1 c1 w1) F1] [u2 : Take F1 r2 (Row 3 1 n2 c2 w2) G]
    (h0 : v0 = .int .i64 m.t0) (h1 : v1 = .int .i64 m.t1) (h2 : v2 = .int .i64 m.t2) (h3 : v3 = .int .i64 m.last) (e0 : n0 = m.x0.length) (e1 : n1 = m.x1.length) (e2 : n2 = m.x2.length)
    (g0 : w0 = ints m.x0) (g1 : w1 = ints m.x1) (g2 : w2 = ints m.x2) : Ent L (pt a (LimboT T m) :: G) := by
  subst h0; subst h1; subst h2; subst h3; subst e0; subst e1; subst e2; subst g0; subst g1; subst g2
  refine Ent.trans (Ent.take1 (t := t) (Ent.trans (Ent.of u0.out) (Ent.cons (Ent.trans (Ent.of u1.out) (Ent.cons (Ent.of u2.out)))))) ?_
  exact Ent.close (f := fun (y : (Option Addr × Nat) × (Option Addr × Nat) × (Option Addr × Nat)) =>
    [pt a (Blk T [.int .i64 m.t0, .slice y.1.1 m.x0.length y.1.2, .int .i64 m.t1, .slice y.2.1.1 m.x1.length y.2.1.2, .int .i64 m.t2, .slice y.2.2.1 m.x2.length y.2.2.2, .int .i64 m.last]),
     pt y.1.1 (Row 3 1 m.x0.length y.1.2 (ints m.x0)), pt y.2.1.1 (Row 3 1 m.x1.length y.2.1.2 (ints m.x1)), pt y.2.2.1 (Row 3 1 m.x2.length y.2.2.2 (ints m.x2))]) rfl ((r0, c0), (r1, c1), (r2, c2))
theorem limboNew : Fx Tryz.prog 148 [] L (fun v L' => ∃ g, v = .pointer (some ⟨g, 0, none⟩) ∧ L' = pt (some ⟨g, 0, none⟩) (LimboO Lm.nil) :: L) := by
  refine Fx.mk Tryz.func148 k148 (Nat.le_of_ble_eq_true rfl) ?_
  dsimp only [c148, envOf, Nat.reduceAdd]
  refine go ?_
  refine Sx.bx rfl rfl fun g => ?_
  refine go ?_
  refine Kr.one (.inr rfl) rfl ?_ ⟨g, rfl, rfl⟩
  refine Ent.trans (Ent.rownil 3 1) (Ent.trans (Ent.rownil 3 1) (Ent.trans (Ent.rownil 3 1) ?_))
  exact LimboO.close (a := some ⟨g, 0, none⟩) (r0 := none) (r1 := none) (r2 := none) Lm.nil rfl rfl rfl rfl rfl rfl rfl rfl rfl rfl
end
end Go.Proofs.YtflalhdofhobmaaGreat

/-
  The limbo's contracts: Len, Bucket.
-/
set_option linter.unusedVariables false
set_option linter.unusedSimpArgs false
namespace Go.Proofs.YtflalhdofhobmaaGreat
open Go
attribute [local irreducible] Sx Cx Rx Fx Krg Ksq Kbl Klp Kr
section
variable {L F : St}
theorem limboLen {b : Nat} {m : Lm} {F : St} [t : Take L (some ⟨b, 0, none⟩) (LimboO m) F] (hb : m.size ≤ 1000000000) :
    Fx Tryz.prog 217 [.pointer (some ⟨b, 0, none⟩)] L (fun v L' => v = .int .i64 m.size ∧ L' = pt (some ⟨b, 0, none⟩) (LimboO m) :: F) := by
  have hs : m.size = m.x0.length + m.x1.length + m.x2.length := rfl
  refine Fx.mk Tryz.func217 k217 (Nat.le_of_ble_eq_true rfl) ?_
  dsimp only [c217, envOf, Nat.reduceAdd]
  refine Cx.openp (t := t) rfl ?_
  rintro ⟨⟨r0, c0⟩, ⟨r1, c1⟩, ⟨r2, c2⟩⟩
  simp only [List.cons_append, List.nil_append]
  refine go ?_
  generalize hM : (pt (some ⟨b, 0, none⟩) (Blk 255 [.int .i64 m.t0, .slice r0 m.x0.length c0, .int .i64 m.t1, .slice r1 m.x1.length c1, .int .i64 m.t2, .slice r2 m.x2.length c2, .int .i64 m.last]) ::
    pt r0 (Row 3 1 m.x0.length c0 (ints m.x0)) :: pt r1 (Row 3 1 m.x1.length c1 (ints m.x1)) :: pt r2 (Row 3 1 m.x2.length c2 (ints m.x2)) :: F) = M
  refine Cx.lp (α := {i : Nat // i ≤ 3}) (fun i => [(3, .int .i64 (((List.range i.1).map fun k => (m.items k).length).sum : Nat)), (9, .agg #[.int .i64 m.t0, .slice r0 m.x0.length c0, .int .i64 m.t1, .slice r1 m.x1.length c1, .int .i64 m.t2, .slice r2 m.x2.length c2]), (10, .int .i64 i.1)])
    (fun _ => M) (fun i => 3 - i.1) ⟨0, by omega⟩ (sub.cons rfl (sub.cons rfl (sub.cons rfl sub.nil))) (Ent.refl _) ?_
  rintro ⟨i, hi⟩
  dsimp only
  rcases (show i = 0 ∨ i = 1 ∨ i = 2 ∨ i = 3 by omega) with rfl | rfl | rfl | rfl
  · refine go ?_
    refine Sx.pv rfl ⟨by omega, by omega⟩ ?_
    refine Sx.al fun g => ?_
    refine Sx.st (b := g) rfl rfl rfl rfl rfl rfl ?_
    dsimp only [lay]
    refine go ?_
    refine Klp.nm ⟨1, by omega⟩ (sub.cons ?_ (sub.cons rfl (sub.cons rfl sub.nil))) (Ent.drop) (by simp)
    simp only [List.range_succ, List.range_zero, List.nil_append, List.map_append, List.map_cons, List.map_nil, List.sum_append, List.sum_cons, List.sum_nil, Nat.zero_add, Nat.add_zero]
    refine congrArg (fun z => some (Value.int .i64 z)) ?_
    refine Eq.trans (w64 (by simp [Lm.items]) (by simp [Lm.items]; omega)) ?_
    simp [Lm.items]
  · refine go ?_
    refine Sx.pv rfl ⟨by omega, by omega⟩ ?_
    refine Sx.al fun g => ?_
    refine Sx.st (b := g) rfl rfl rfl rfl rfl rfl ?_
    dsimp only [lay]
    refine go ?_
    refine Klp.nm ⟨2, by omega⟩ (sub.cons ?_ (sub.cons rfl (sub.cons rfl sub.nil))) (Ent.drop) (by simp)
    simp only [List.range_succ, List.range_zero, List.nil_append, List.map_append, List.map_cons, List.map_nil, List.sum_append, List.sum_cons, List.sum_nil, Nat.zero_add, Nat.add_zero]
    refine congrArg (fun z => some (Value.int .i64 z)) ?_
    refine Eq.trans (w64 (by simp [Lm.items]; omega) (by simp [Lm.items]; omega)) ?_
    simp [Lm.items]
  · refine go ?_
    refine Sx.pv rfl ⟨by omega, by omega⟩ ?_
    refine Sx.al fun g => ?_
    refine Sx.st (b := g) rfl rfl rfl rfl rfl rfl ?_
    dsimp only [lay]
    refine go ?_
    refine Klp.nm ⟨3, by omega⟩ (sub.cons ?_ (sub.cons rfl (sub.cons rfl sub.nil))) (Ent.drop) (by simp)
    simp only [List.range_succ, List.range_zero, List.nil_append, List.map_append, List.map_cons, List.map_nil, List.sum_append, List.sum_cons, List.sum_nil, Nat.zero_add, Nat.add_zero]
    refine congrArg (fun z => some (Value.int .i64 z)) ?_
    refine Eq.trans (w64 (by simp [Lm.items]; omega) (by simp [Lm.items]; omega)) ?_
    simp [Lm.items]
  · refine go ?_
    subst hM
    refine Kr.one (.inr rfl) rfl (LimboO.close (a := some ⟨b, 0, none⟩) (r0 := r0) (r1 := r1) (r2 := r2) m rfl rfl rfl rfl rfl rfl rfl rfl rfl rfl) ⟨?_, rfl⟩
    simp [List.range_succ, Lm.items, hs]
    omega
end
end Go.Proofs.YtflalhdofhobmaaGreat

/-
  The limbo's contract: Ready.
-/
set_option linter.unusedVariables false
set_option linter.unusedSimpArgs false
namespace Go.Proofs.YtflalhdofhobmaaGreat
open Go
attribute [local irreducible] Sx Cx Rx Fx Krg Ksq Kbl Klp Kr
section
variable {L F : St}
theorem bucketOpen {b o n c : Nat} {now tag : Int} {r : Option Addr} {xs : List Int} (h0 : Has L b o [.int .i64 tag]) (h1 : Has L b (o + 1) [.slice r n c]) (hn : n = xs.length) (h2 : 2 ≤ now) (h3 : now ≤ 9223372036854775807) :
    Fx Tryz.prog 201 [.pointer (some ⟨b, o, none⟩), .int .i64 now] L (fun v L' => v = .bool (openM now tag xs) ∧ L = L') := by
  subst hn
  refine Fx.mk Tryz.func201 k201 (Nat.le_of_ble_eq_true rfl) ?_
  dsimp only [c201, envOf, Nat.reduceAdd]
  refine go ?_
  refine Sx.ld rfl h1 rfl ?_
  refine go ?_
  refine Sx.ifp rfl (fun h => ?_) (fun h => ?_)
  · refine go ?_
    refine Sx.ld rfl (by simpa using h0) rfl ?_
    refine go ?_
    rw [w64 (n := now - 2) (by omega) (by omega)]
    refine Kr.one (.inr rfl) rfl (Ent.refl _) ⟨?_, rfl⟩
    have h' : 0 < xs.length := by omega
    simp [pick, openM, h']
  · refine go ?_
    refine Kr.one (.inr rfl) rfl (Ent.refl _) ⟨?_, rfl⟩
    have h' : ¬ 0 < xs.length := by omega
    simp [pick, openM, h']
abbrev lptr (b : Nat) (o : Option Nat) : Value := .pointer (o.map fun j => ⟨b, 0 + j * 2, none⟩)
set_option maxHeartbeats 4000000 in
theorem limboReady {b : Nat} {m : Lm} {now : Int} {F : St} [t : Take L (some ⟨b, 0, none⟩) (LimboO m) F] (hb : m.size ≤ 100000000) (hnow : now ≤ 9223372036854775807) :
    Fx Tryz.prog 135 [.pointer (some ⟨b, 0, none⟩), .int .i64 now] L (fun v L' => ∃ ro co, v = .slice ro (readyAll now m).1.length co ∧
      L' = pt ro (Row 3 1 (readyAll now m).1.length co (ints (readyAll now m).1)) :: pt (some ⟨b, 0, none⟩) (LimboO (readyAll now m).2) :: F) := by
  refine Fx.mk Tryz.func135 k135 (Nat.le_of_ble_eq_true rfl) ?_
  dsimp only [c135, envOf, Nat.reduceAdd]
  refine Cx.ent (Ent.trans (Ent.of t.out) (Ent.rownil 3 1)) ?_
  refine go ?_
  refine Cx.lp (α := {p : (List Int × Lm) × (Option Addr × Nat) // p.1.1.length + p.1.2.size = m.size ∧ p.1.1 ++ (readyAll now p.1.2).1 = (readyAll now m).1 ∧ (readyAll now p.1.2).2 = (readyAll now m).2})
    (fun p => [(0, .pointer (some ⟨b, 0, none⟩)), (1, .int .i64 now), (5, .slice p.1.2.1 p.1.1.1.length p.1.2.2)])
    (fun p => pt p.1.2.1 (Row 3 1 p.1.1.1.length p.1.2.2 (ints p.1.1.1)) :: pt (some ⟨b, 0, none⟩) (LimboO p.1.1.2) :: F) (fun p => p.1.1.2.cnt) ⟨(([], m), (none, 0)), by simp, by simp, rfl⟩ (sub.cons rfl (sub.cons rfl (sub.cons rfl sub.nil))) (Ent.refl _) ?_
  rintro ⟨⟨⟨out, m'⟩, ⟨ro, co⟩⟩, hsz, he1, he2⟩
  dsimp only at hsz he1 he2 ⊢
  refine go ?_
  refine Cx.ifp rfl (fun h2 => ?_) (fun h2 => ?_)
  rotate_left
  · refine go ?_
    have hra : readyAll now m' = ([], m') := by unfold readyAll; rw [if_neg (by omega)]
    rw [hra] at he1 he2
    simp only [List.append_nil] at he1
    subst he1; subst he2
    exact Kr.one (.inr rfl) rfl (Ent.refl _) ⟨ro, co, rfl, rfl⟩
  refine Cx.openp (a := some ⟨b, 0, none⟩) rfl ?_
  rintro ⟨⟨r0, c0⟩, ⟨r1, c1⟩, ⟨r2, c2⟩⟩
  simp only [List.cons_append, List.nil_append]
  refine go ?_
  refine Cx.lp (α := {k : Nat // k ≤ 3}) (fun k => [(0, .pointer (some ⟨b, 0, none⟩)), (1, .int .i64 now), (5, .slice ro out.length co), (6, lptr b (leastUp now m' k.1)), (11, .int .i64 k.1)]) (fun _ => _) (fun k => 3 - k.1) ⟨0, by omega⟩
    (sub.cons rfl (sub.cons rfl (sub.cons rfl (sub.cons rfl (sub.cons rfl sub.nil))))) (Ent.refl _) ?_
  rintro ⟨k, hk⟩
  dsimp only
  rcases (show k = 0 ∨ k = 1 ∨ k = 2 ∨ k = 3 by omega) with rfl | rfl | rfl | rfl
  · refine go ?_
    refine Sx.pv rfl ⟨by omega, by omega⟩ ?_
    rcases hlu : leastUp now m' 0 with _ | j
    · refine go ?_
      refine Cx.calm (by kernel_rfl) ?_
      repeat' (first | (refine Cm.pvs rfl ?_) | (refine Cm.step rfl ?_) | (refine Cm.done ?_) | (refine Cm.ldb rfl rfl (by rfl) ?_) | (refine Cm.ldbs rfl rfl rfl ?_))
      refine Cm.ca rfl rfl (bucketOpen (tag := m'.t0) (xs := m'.x0) (Has.cell rfl) (Has.cell rfl) rfl h2 hnow) ?_
      cases hop : openM now m'.t0 m'.x0
      · repeat' (first | (refine Cm.pvs rfl ?_) | (refine Cm.step rfl ?_) | (refine Cm.done ?_) | (refine Cm.ldb rfl rfl (by rfl) ?_) | (refine Cm.ldbs rfl rfl rfl ?_))
        refine go ?_
        refine Klp.nm ⟨1, by omega⟩ (sub.cons rfl (sub.cons rfl (sub.cons rfl (sub.cons (Eq.trans ?_ (congrArg (fun o => some (lptr b o)) ((leastUp_no (k := 0) hop).trans hlu : leastUp now m' 1 = _).symm)) (sub.cons rfl sub.nil))))) (Ent.refl _) (by simp)
        rfl
      · repeat' (first | (refine Cm.pvs rfl ?_) | (refine Cm.step rfl ?_) | (refine Cm.done ?_) | (refine Cm.ldb rfl rfl (by rfl) ?_) | (refine Cm.ldbs rfl rfl rfl ?_))
        refine go ?_
        refine Klp.nm ⟨1, by omega⟩ (sub.cons rfl (sub.cons rfl (sub.cons rfl (sub.cons (Eq.trans ?_ (congrArg (fun o => some (lptr b o)) (leastUp_first (k := 0) hop hlu : leastUp now m' 1 = _).symm)) (sub.cons rfl sub.nil))))) (Ent.refl _) (by simp)
        rfl
    · exact absurd (leastUp_lt hlu).1 (by omega)
  · refine go ?_
    refine Sx.pv rfl ⟨by omega, by omega⟩ ?_
    rcases hlu : leastUp now m' 1 with _ | j
    · refine go ?_
      refine Cx.calm (by kernel_rfl) ?_
      repeat' (first | (refine Cm.pvs rfl ?_) | (refine Cm.step rfl ?_) | (refine Cm.done ?_) | (refine Cm.ldb rfl rfl (by rfl) ?_) | (refine Cm.ldbs rfl rfl rfl ?_))
      refine Cm.ca rfl rfl (bucketOpen (tag := m'.t1) (xs := m'.x1) (Has.cell rfl) (Has.cell rfl) rfl h2 hnow) ?_
      cases hop : openM now m'.t1 m'.x1
      · repeat' (first | (refine Cm.pvs rfl ?_) | (refine Cm.step rfl ?_) | (refine Cm.done ?_) | (refine Cm.ldb rfl rfl (by rfl) ?_) | (refine Cm.ldbs rfl rfl rfl ?_))
        refine go ?_
        refine Klp.nm ⟨2, by omega⟩ (sub.cons rfl (sub.cons rfl (sub.cons rfl (sub.cons (Eq.trans ?_ (congrArg (fun o => some (lptr b o)) ((leastUp_no (k := 1) hop).trans hlu : leastUp now m' 2 = _).symm)) (sub.cons rfl sub.nil))))) (Ent.refl _) (by simp)
        rfl
      · repeat' (first | (refine Cm.pvs rfl ?_) | (refine Cm.step rfl ?_) | (refine Cm.done ?_) | (refine Cm.ldb rfl rfl (by rfl) ?_) | (refine Cm.ldbs rfl rfl rfl ?_))
        refine go ?_
        refine Klp.nm ⟨2, by omega⟩ (sub.cons rfl (sub.cons rfl (sub.cons rfl (sub.cons (Eq.trans ?_ (congrArg (fun o => some (lptr b o)) (leastUp_first (k := 1) hop hlu : leastUp now m' 2 = _).symm)) (sub.cons rfl sub.nil))))) (Ent.refl _) (by simp)
        rfl
    · have hj := (leastUp_lt hlu).1
      rcases (show j = 0 by omega) with rfl
      · refine go ?_
        refine Cx.calm (by kernel_rfl) ?_
        repeat' (first | (refine Cm.pvs rfl ?_) | (refine Cm.step rfl ?_) | (refine Cm.done ?_) | (refine Cm.ldb rfl rfl (by rfl) ?_) | (refine Cm.ldbs rfl rfl rfl ?_))
        refine Cm.ca rfl rfl (bucketOpen (tag := m'.t1) (xs := m'.x1) (Has.cell rfl) (Has.cell rfl) rfl h2 hnow) ?_
        cases hop : openM now m'.t1 m'.x1
        · repeat' (first | (refine Cm.pvs rfl ?_) | (refine Cm.step rfl ?_) | (refine Cm.done ?_) | (refine Cm.ldb rfl rfl (by rfl) ?_) | (refine Cm.ldbs rfl rfl rfl ?_))
          refine go ?_
          refine Klp.nm ⟨2, by omega⟩ (sub.cons rfl (sub.cons rfl (sub.cons rfl (sub.cons (Eq.trans ?_ (congrArg (fun o => some (lptr b o)) ((leastUp_no (k := 1) hop).trans hlu : leastUp now m' 2 = _).symm)) (sub.cons rfl sub.nil))))) (Ent.refl _) (by simp)
          rfl
        · repeat' (first | (refine Cm.pvs rfl ?_) | (refine Cm.step rfl ?_) | (refine Cm.done ?_) | (refine Cm.ldb rfl rfl (by rfl) ?_) | (refine Cm.ldbs rfl rfl rfl ?_))
          refine Cx.ifp rfl (fun h3 => ?_) (fun h3 => ?_)
          · refine go ?_
            refine Klp.nm ⟨2, by omega⟩ (sub.cons rfl (sub.cons rfl (sub.cons rfl (sub.cons (Eq.trans ?_ (congrArg (fun o => some (lptr b o)) (leastUp_less (k := 1) hop hlu h3 : leastUp now m' 2 = _).symm)) (sub.cons rfl sub.nil))))) (Ent.refl _) (by simp)
            rfl
          · refine go ?_
            refine Klp.nm ⟨2, by omega⟩ (sub.cons rfl (sub.cons rfl (sub.cons rfl (sub.cons (Eq.trans ?_ (congrArg (fun o => some (lptr b o)) (leastUp_keep (k := 1) hop hlu h3 : leastUp now m' 2 = _).symm)) (sub.cons rfl sub.nil))))) (Ent.refl _) (by simp)
            rfl
  · refine go ?_
    refine Sx.pv rfl ⟨by omega, by omega⟩ ?_
    rcases hlu : leastUp now m' 2 with _ | j
    · refine go ?_
      refine Cx.calm (by kernel_rfl) ?_
      repeat' (first | (refine Cm.pvs rfl ?_) | (refine Cm.step rfl ?_) | (refine Cm.done ?_) | (refine Cm.ldb rfl rfl (by rfl) ?_) | (refine Cm.ldbs rfl rfl rfl ?_))
      refine Cm.ca rfl rfl (bucketOpen (tag := m'.t2) (xs := m'.x2) (Has.cell rfl) (Has.cell rfl) rfl h2 hnow) ?_
      cases hop : openM now m'.t2 m'.x2
      · repeat' (first | (refine Cm.pvs rfl ?_) | (refine Cm.step rfl ?_) | (refine Cm.done ?_) | (refine Cm.ldb rfl rfl (by rfl) ?_) | (refine Cm.ldbs rfl rfl rfl ?_))
        refine go ?_
        refine Klp.nm ⟨3, by omega⟩ (sub.cons rfl (sub.cons rfl (sub.cons rfl (sub.cons (Eq.trans ?_ (congrArg (fun o => some (lptr b o)) ((leastUp_no (k := 2) hop).trans hlu : leastUp now m' 3 = _).symm)) (sub.cons rfl sub.nil))))) (Ent.refl _) (by simp)
        rfl
      · repeat' (first | (refine Cm.pvs rfl ?_) | (refine Cm.step rfl ?_) | (refine Cm.done ?_) | (refine Cm.ldb rfl rfl (by rfl) ?_) | (refine Cm.ldbs rfl rfl rfl ?_))
        refine go ?_
        refine Klp.nm ⟨3, by omega⟩ (sub.cons rfl (sub.cons rfl (sub.cons rfl (sub.cons (Eq.trans ?_ (congrArg (fun o => some (lptr b o)) (leastUp_first (k := 2) hop hlu : leastUp now m' 3 = _).symm)) (sub.cons rfl sub.nil))))) (Ent.refl _) (by simp)
        rfl
    · have hj := (leastUp_lt hlu).1
      rcases (show j = 0 ∨ j = 1 by omega) with rfl | rfl
      · refine go ?_
        refine Cx.calm (by kernel_rfl) ?_
        repeat' (first | (refine Cm.pvs rfl ?_) | (refine Cm.step rfl ?_) | (refine Cm.done ?_) | (refine Cm.ldb rfl rfl (by rfl) ?_) | (refine Cm.ldbs rfl rfl rfl ?_))
        refine Cm.ca rfl rfl (bucketOpen (tag := m'.t2) (xs := m'.x2) (Has.cell rfl) (Has.cell rfl) rfl h2 hnow) ?_
        cases hop : openM now m'.t2 m'.x2
        · repeat' (first | (refine Cm.pvs rfl ?_) | (refine Cm.step rfl ?_) | (refine Cm.done ?_) | (refine Cm.ldb rfl rfl (by rfl) ?_) | (refine Cm.ldbs rfl rfl rfl ?_))
          refine go ?_
          refine Klp.nm ⟨3, by omega⟩ (sub.cons rfl (sub.cons rfl (sub.cons rfl (sub.cons (Eq.trans ?_ (congrArg (fun o => some (lptr b o)) ((leastUp_no (k := 2) hop).trans hlu : leastUp now m' 3 = _).symm)) (sub.cons rfl sub.nil))))) (Ent.refl _) (by simp)
          rfl
        · repeat' (first | (refine Cm.pvs rfl ?_) | (refine Cm.step rfl ?_) | (refine Cm.done ?_) | (refine Cm.ldb rfl rfl (by rfl) ?_) | (refine Cm.ldbs rfl rfl rfl ?_))
          refine Cx.ifp rfl (fun h3 => ?_) (fun h3 => ?_)
          · refine go ?_
            refine Klp.nm ⟨3, by omega⟩ (sub.cons rfl (sub.cons rfl (sub.cons rfl (sub.cons (Eq.trans ?_ (congrArg (fun o => some (lptr b o)) (leastUp_less (k := 2) hop hlu h3 : leastUp now m' 3 = _).symm)) (sub.cons rfl sub.nil))))) (Ent.refl _) (by simp)
            rfl
          · refine go ?_
            refine Klp.nm ⟨3, by omega⟩ (sub.cons rfl (sub.cons rfl (sub.cons rfl (sub.cons (Eq.trans ?_ (congrArg (fun o => some (lptr b o)) (leastUp_keep (k := 2) hop hlu h3 : leastUp now m' 3 = _).symm)) (sub.cons rfl sub.nil))))) (Ent.refl _) (by simp)
            rfl
      · refine go ?_
        refine Cx.calm (by kernel_rfl) ?_
        repeat' (first | (refine Cm.pvs rfl ?_) | (refine Cm.step rfl ?_) | (refine Cm.done ?_) | (refine Cm.ldb rfl rfl (by rfl) ?_) | (refine Cm.ldbs rfl rfl rfl ?_))
        refine Cm.ca rfl rfl (bucketOpen (tag := m'.t2) (xs := m'.x2) (Has.cell rfl) (Has.cell rfl) rfl h2 hnow) ?_
        cases hop : openM now m'.t2 m'.x2
        · repeat' (first | (refine Cm.pvs rfl ?_) | (refine Cm.step rfl ?_) | (refine Cm.done ?_) | (refine Cm.ldb rfl rfl (by rfl) ?_) | (refine Cm.ldbs rfl rfl rfl ?_))
          refine go ?_
          refine Klp.nm ⟨3, by omega⟩ (sub.cons rfl (sub.cons rfl (sub.cons rfl (sub.cons (Eq.trans ?_ (congrArg (fun o => some (lptr b o)) ((leastUp_no (k := 2) hop).trans hlu : leastUp now m' 3 = _).symm)) (sub.cons rfl sub.nil))))) (Ent.refl _) (by simp)
          rfl
        · repeat' (first | (refine Cm.pvs rfl ?_) | (refine Cm.step rfl ?_) | (refine Cm.done ?_) | (refine Cm.ldb rfl rfl (by rfl) ?_) | (refine Cm.ldbs rfl rfl rfl ?_))
          refine Cx.ifp rfl (fun h3 => ?_) (fun h3 => ?_)
          · refine go ?_
            refine Klp.nm ⟨3, by omega⟩ (sub.cons rfl (sub.cons rfl (sub.cons rfl (sub.cons (Eq.trans ?_ (congrArg (fun o => some (lptr b o)) (leastUp_less (k := 2) hop hlu h3 : leastUp now m' 3 = _).symm)) (sub.cons rfl sub.nil))))) (Ent.refl _) (by simp)
            rfl
          · refine go ?_
            refine Klp.nm ⟨3, by omega⟩ (sub.cons rfl (sub.cons rfl (sub.cons rfl (sub.cons (Eq.trans ?_ (congrArg (fun o => some (lptr b o)) (leastUp_keep (k := 2) hop hlu h3 : leastUp now m' 3 = _).symm)) (sub.cons rfl sub.nil))))) (Ent.refl _) (by simp)
            rfl
  · refine go ?_
    have hall : ∀ o, leastUp now m' 3 = o → readyAll now m' = match o with
        | none => ([], m')
        | some j => (m'.items j ++ (readyAll now (m'.put j 0 [])).1, (readyAll now (m'.put j 0 [])).2) := by
      intro o ho
      unfold readyAll
      simp only [if_pos h2]
      cases o with
      | none =>
        cases hc : m'.cnt with
        | zero => rfl
        | succ c => simp [readyM, ho]
      | some j =>
        rw [cnt_put (leastUp_lt ho).1 (open_ne (leastUp_lt ho).2)]
        simp [readyM, ho]
    rcases hlu : leastUp now m' 3 with _ | j
    · have hra := hall _ hlu
      dsimp only at hra
      rw [hra] at he1 he2
      simp only [List.append_nil] at he1
      subst he1; subst he2
      refine go ?_
      refine Kr.one (.inr rfl) rfl ?_ ⟨ro, co, rfl, rfl⟩
      refine Ent.trans (LimboO.close (a := some ⟨b, 0, none⟩) (r0 := r0) (r1 := r1) (r2 := r2) _ rfl rfl rfl rfl rfl rfl rfl rfl rfl rfl) ?_
      exact ent
    · have hra := hall _ hlu
      have hj := (leastUp_lt hlu).1
      have hne := open_ne (leastUp_lt hlu).2
      have hsp := size_put (m := m') hj
      have hcp := cnt_put hj hne
      dsimp only at hra
      rw [hra, ← List.append_assoc] at he1
      rw [hra] at he2
      have hm1 : out.length + (m'.x0.length + m'.x1.length + m'.x2.length) = m.size := hsz
      rcases (show j = 0 ∨ j = 1 ∨ j = 2 by omega) with rfl | rfl | rfl
      · refine go ?_
        refine Sx.rowkey (a := r0) fun hxj hnj _ hkj => ?_
        refine Sx.ap (ra := ro) rfl rfl (Rd.any (a := r0) hxj (hkj.imp (fun h => h.2.1) id)) (ones_ints _) (by simp [maxLen]; omega) (by omega) fun ra ca hc => ?_
        refine go ?_
        refine Sx.st (b := b) rfl rfl rfl rfl rfl rfl ?_
        dsimp only [lay]
        refine go ?_
        refine Klp.nm ⟨((out ++ m'.items 0, m'.put 0 0 []), (ra, ca)), by dsimp only; rw [List.length_append]; omega, he1, he2⟩ (sub.cons rfl (sub.cons rfl (sub.cons ?_ sub.nil))) ?_ (by dsimp only; omega)
        · show _ = some (Value.slice ra (out ++ m'.items 0).length ca)
          rw [show (out ++ m'.items 0).length = out.length + m'.x0.length by simp [Lm.items]]
          rfl
        · dsimp only
          refine Ent.trans (Ent.rownil 3 1) ?_
          refine Ent.trans (LimboO.close (a := some ⟨b, 0, none⟩) (r0 := none) (r1 := r1) (r2 := r2) (m'.put 0 0 []) rfl rfl rfl rfl rfl rfl rfl rfl rfl rfl) ?_
          rw [show (out ++ m'.items 0).length = out.length + m'.x0.length by simp [Lm.items], show ints (out ++ m'.items 0) = ints out ++ ints m'.x0 by rw [ints_append]; rfl]
          exact ent
      · refine go ?_
        refine Sx.rowkey (a := r1) fun hxj hnj _ hkj => ?_
        refine Sx.ap (ra := ro) rfl rfl (Rd.any (a := r1) hxj (hkj.imp (fun h => h.2.1) id)) (ones_ints _) (by simp [maxLen]; omega) (by omega) fun ra ca hc => ?_
        refine go ?_
        refine Sx.st (b := b) rfl rfl rfl rfl rfl rfl ?_
        dsimp only [lay]
        refine go ?_
        refine Klp.nm ⟨((out ++ m'.items 1, m'.put 1 0 []), (ra, ca)), by dsimp only; rw [List.length_append]; omega, he1, he2⟩ (sub.cons rfl (sub.cons rfl (sub.cons ?_ sub.nil))) ?_ (by dsimp only; omega)
        · show _ = some (Value.slice ra (out ++ m'.items 1).length ca)
          rw [show (out ++ m'.items 1).length = out.length + m'.x1.length by simp [Lm.items]]
          rfl
        · dsimp only
          refine Ent.trans (Ent.rownil 3 1) ?_
          refine Ent.trans (LimboO.close (a := some ⟨b, 0, none⟩) (r0 := r0) (r1 := none) (r2 := r2) (m'.put 1 0 []) rfl rfl rfl rfl rfl rfl rfl rfl rfl rfl) ?_
          rw [show (out ++ m'.items 1).length = out.length + m'.x1.length by simp [Lm.items], show ints (out ++ m'.items 1) = ints out ++ ints m'.x1 by rw [ints_append]; rfl]
          exact ent
      · refine go ?_
        refine Sx.rowkey (a := r2) fun hxj hnj _ hkj => ?_
        refine Sx.ap (ra := ro) rfl rfl (Rd.any (a := r2) hxj (hkj.imp (fun h => h.2.1) id)) (ones_ints _) (by simp [maxLen]; omega) (by omega) fun ra ca hc => ?_
        refine go ?_
        refine Sx.st (b := b) rfl rfl rfl rfl rfl rfl ?_
        dsimp only [lay]
        refine go ?_
        refine Klp.nm ⟨((out ++ m'.items 2, m'.put 2 0 []), (ra, ca)), by dsimp only; rw [List.length_append]; omega, he1, he2⟩ (sub.cons rfl (sub.cons rfl (sub.cons ?_ sub.nil))) ?_ (by dsimp only; omega)
        · show _ = some (Value.slice ra (out ++ m'.items 2).length ca)
          rw [show (out ++ m'.items 2).length = out.length + m'.x2.length by simp [Lm.items]]
          rfl
        · dsimp only
          refine Ent.trans (Ent.rownil 3 1) ?_
          refine Ent.trans (LimboO.close (a := some ⟨b, 0, none⟩) (r0 := r0) (r1 := r1) (r2 := none) (m'.put 2 0 []) rfl rfl rfl rfl rfl rfl rfl rfl rfl rfl) ?_
          rw [show (out ++ m'.items 2).length = out.length + m'.x2.length by simp [Lm.items], show ints (out ++ m'.items 2) = ints out ++ ints m'.x2 by rw [ints_append]; rfl]
          exact ent
end
end Go.Proofs.YtflalhdofhobmaaGreat

/-
  The limbo's contract: Open.
-/
set_option linter.unusedVariables false
set_option linter.unusedSimpArgs false
namespace Go.Proofs.YtflalhdofhobmaaGreat
open Go
attribute [local irreducible] Sx Cx Rx Fx Krg Ksq Kbl Klp Kr
section
variable {L F : St}
end
end Go.Proofs.YtflalhdofhobmaaGreat

/-
  What a limbo's Ready hands out, in plain words: the items of the open buckets, once each; the other buckets stay.
-/
set_option linter.unusedVariables false
set_option linter.unusedSimpArgs false
namespace Go.Proofs.YtflalhdofhobmaaGreat
open Go
end Go.Proofs.YtflalhdofhobmaaGreat

/-
  The document's limbo: its contracts, told of the program's limbo: what is in an empty bucket's tag does not count.
-/
set_option linter.unusedVariables false
set_option linter.unusedSimpArgs false
namespace Go.Proofs.YtflalhdofhobmaaGreat
open Go
attribute [local irreducible] Sx Cx Rx Fx Krg Ksq Kbl Klp Kr
/-- Tags of full buckets are what they are; the last tag. -/
structure RTag (m : Lm) (u0 u1 u2 l : Int) : Prop where
  h0 : m.x0 ≠ [] → u0 = m.t0
  h1 : m.x1 ≠ [] → u1 = m.t1
  h2 : m.x2 ≠ [] → u2 = m.t2
  hl : l = m.last ∨ (l = -1 ∧ m.last = 0)
section
variable {L F : St}
def refL (T : TypeId) (m : Lm) (a : Option Addr) (y : ((Option Addr × Nat) × (Option Addr × Nat) × (Option Addr × Nat)) × (Int × Int × Int × Int)) : St :=
    [lift (RTag m y.2.1 y.2.2.1 y.2.2.2.1 y.2.2.2.2), pt a (Blk T [.int .i64 y.2.1, .int .i64 y.2.2.1, .int .i64 y.2.2.2.1, .slice y.1.1.1 m.x0.length y.1.1.2, .slice y.1.2.1.1 m.x1.length y.1.2.1.2, .slice y.1.2.2.1 m.x2.length y.1.2.2.2, .int .i64 y.2.2.2.2]),
     pt y.1.1.1 (Row 3 1 m.x0.length y.1.1.2 (ints m.x0)), pt y.1.2.1.1 (Row 3 1 m.x1.length y.1.2.1.2 (ints m.x1)), pt y.1.2.2.1 (Row 3 1 m.x2.length y.1.2.2.2 (ints m.x2))]
def RLimboT (T : TypeId) (m : Lm) (a : Option Addr) : As := exs (refL T m a)
abbrev RLimboO := RLimboT 263
theorem RLimboO.close {T : TypeId} {a r0 r1 r2 : Option Addr} {c0 c1 c2 n0 n1 n2 : Nat} {u0 u1 u2 l : Int} {v0 v1 v2 v3 : Value} {w0 w1 w2 : List Value} {F F0 F1 G : St} (m : Lm) (hT : RTag m u0 u1 u2 l)
    [t : Take L a (Blk T [v0, v1, v2, .slice r0 n0 c0, .slice r1 n1 c1, .slice r2 n2 c2, v3]) F] [q0 : Take F r0 (Row 3 1 n0 c0 w0) F0] [q1 : Take F0 r1 (Row 3 1 n1 c1 w1) F1] [q2 : Take F1 r2 (Row 3 1 n2 c2 w2) G]
    (h0 : v0 = .int .i64 u0) (h1 : v1 = .int .i64 u1) (h2 : v2 = .int .i64 u2) (h3 : v3 = .int .i64 l) (e0 : n0 = m.x0.length) (e1 : n1 = m.x1.length) (e2 : n2 = m.x2.length)
    (g0 : w0 = ints m.x0) (g1 : w1 = ints m.x1) (g2 : w2 = ints m.x2) : Ent L (pt a (RLimboT T m) :: G) := by
  subst h0; subst h1; subst h2; subst h3; subst e0; subst e1; subst e2; subst g0; subst g1; subst g2
  refine Ent.trans (Ent.take1 (t := t) (Ent.trans (Ent.of q0.out) (Ent.cons (Ent.trans (Ent.of q1.out) (Ent.cons (Ent.of q2.out)))))) ?_
  refine Ent.trans (Ent.lift hT (Ent.refl _)) ?_
  exact Ent.close (f := refL T m a) rfl (((r0, c0), (r1, c1), (r2, c2)), (u0, u1, u2, l))
theorem RTag.nil : RTag Lm.nil 0 0 0 (-1) := ⟨fun h => absurd rfl h, fun h => absurd rfl h, fun h => absurd rfl h, .inr ⟨rfl, rfl⟩⟩
theorem refLimboNew : Fx Tryz.prog 150 [] L (fun v L' => ∃ g, v = .pointer (some ⟨g, 0, none⟩) ∧ L' = pt (some ⟨g, 0, none⟩) (RLimboO Lm.nil) :: L) := by
  refine Fx.mk Tryz.func150 k150 (Nat.le_of_ble_eq_true rfl) ?_
  dsimp only [c150, envOf, Nat.reduceAdd]
  refine go ?_
  refine Sx.bx rfl rfl fun g => ?_
  refine go ?_
  refine Kr.one (.inr rfl) rfl ?_ ⟨g, rfl, rfl⟩
  refine Ent.trans (Ent.rownil 3 1) (Ent.trans (Ent.rownil 3 1) (Ent.trans (Ent.rownil 3 1) ?_))
  exact RLimboO.close (a := some ⟨g, 0, none⟩) (r0 := none) (r1 := none) (r2 := none) Lm.nil RTag.nil rfl rfl rfl rfl rfl rfl rfl rfl rfl rfl
end
end Go.Proofs.YtflalhdofhobmaaGreat

/-
  The document's memory and its stacks: New, Fill; its places.
-/
set_option linter.unusedVariables false
set_option linter.unusedSimpArgs false
namespace Go.Proofs.YtflalhdofhobmaaGreat
open Go
attribute [local irreducible] Sx Cx Rx Fx Krg Ksq Kbl Klp Kr
theorem mm_ext {a b : Mm} (hl : a.ws.length = b.ws.length) (hn : a.n = b.n) (h : ∀ i, a.at_ i = b.at_ i) : a = b := by
  obtain ⟨aw, an⟩ := a
  obtain ⟨bw, bn⟩ := b
  simp only at hl hn
  subst hn
  congr 1
  refine List.ext_getElem hl fun i h1 h2 => ?_
  have := h i
  simp only [Mm.at_, List.getD_eq_getElem?_getD, List.getElem?_eq_getElem h1, List.getElem?_eq_getElem h2, Option.getD_some] at this
  exact this
/-- As the document fills it. -/
def rUp (k : Sk) (m : Mm) : Nat → Mm
  | 0 => m.lay k.head 1
  | i + 1 => if i + 1 = k.n then ((rUp k m i).lay (k.links + i) ((i + 2) % (k.n + 1))).lay (k.links + i) 0 else (rUp k m i).lay (k.links + i) ((i + 2) % (k.n + 1))
theorem rUp_len (k : Sk) (m : Mm) : ∀ i, (rUp k m i).ws.length = m.ws.length
  | 0 => Mm.len_lay
  | i + 1 => by
    unfold rUp
    split <;> simp only [Mm.len_lay] <;> exact rUp_len k m i
theorem rUp_n (k : Sk) (m : Mm) : ∀ i, (rUp k m i).n = m.n
  | 0 => rfl
  | i + 1 => by
    unfold rUp
    split <;> exact rUp_n k m i
theorem rUp_at {k : Sk} {m : Mm} {len : Nat} (hk : k.ok len) (hl : m.ws.length = len) : ∀ i, i ≤ k.n → ∀ a, (rUp k m i).at_ a = if k.head = a then 1 else if k.links ≤ a ∧ a < k.links + i then (if a - k.links + 1 = k.n then 0 else a - k.links + 2) else m.at_ a
  | 0, _, a => by
    have := hk.h
    unfold rUp
    rw [Mm.at_lay _ (by omega)]
    split
    · rfl
    · rw [if_neg (by omega)]
  | i + 1, hi, a => by
    have ih := rUp_at hk hl i (by omega)
    have hll := rUp_len k m i
    have h1 := hk.l; have h2 := hk.a
    unfold rUp
    split
    · rename_i he
      rw [Mm.at_lay _ (by rw [Mm.len_lay]; omega), Mm.at_lay _ (by omega), ih]
      by_cases e : k.links + i = a
      · rw [if_pos e, if_neg (by omega), if_pos (by omega), if_pos (by omega)]
      · rw [if_neg e, if_neg e]
        by_cases hh : k.head = a
        · rw [if_pos hh, if_pos hh]
        · rw [if_neg hh, if_neg hh]
          by_cases hr : k.links ≤ a ∧ a < k.links + i
          · rw [if_pos hr, if_pos (show k.links ≤ a ∧ a < k.links + (i + 1) by omega)]
          · rw [if_neg hr, if_neg (show ¬ (k.links ≤ a ∧ a < k.links + (i + 1)) by omega)]
    · rename_i he
      rw [Mm.at_lay _ (by omega), ih]
      by_cases e : k.links + i = a
      · rw [if_pos e, if_neg (by omega), if_pos (by omega), if_neg (by omega), Nat.mod_eq_of_lt (by omega)]; omega
      · rw [if_neg e]
        by_cases hh : k.head = a
        · rw [if_pos hh, if_pos hh]
        · rw [if_neg hh, if_neg hh]
          by_cases hr : k.links ≤ a ∧ a < k.links + i
          · rw [if_pos hr, if_pos (show k.links ≤ a ∧ a < k.links + (i + 1) by omega)]
          · rw [if_neg hr, if_neg (show ¬ (k.links ≤ a ∧ a < k.links + (i + 1)) by omega)]
theorem rUp_fill {k : Sk} {m : Mm} {len : Nat} (hk : k.ok len) (hl : m.ws.length = len) : rUp k m k.n = fillM k m := by
  have k1 := hk.n1; have k3 := hk.h; have k4 := hk.l; have k5 := hk.a
  have hu := fillUp_at (k := k) (m := m) (i := k.n) (by omega)
  have hul := fillUp_len k m k.n
  refine mm_ext ?_ ?_ fun a => ?_
  · rw [rUp_len, fillM_len]
  · rw [rUp_n, fillM_n]
  · rw [rUp_at hk hl k.n (Nat.le_refl _)]
    unfold fillM
    rw [Mm.at_lay _ (by rw [Mm.len_lay]; omega), Mm.at_lay _ (by omega)]
    by_cases hh : k.head = a
    · rw [if_pos hh, if_pos hh]
    · rw [if_neg hh, if_neg hh]
      by_cases hr : k.links ≤ a ∧ a < k.links + k.n
      · rw [if_pos hr]
        by_cases e : k.links + k.n - 1 = a
        · rw [if_pos e, if_pos (by omega)]
        · rw [if_neg e, if_neg (by omega)]
          have := hu.1 (a - k.links) (by omega)
          rw [show k.links + (a - k.links) = a by omega] at this
          exact this.symm
      · rw [if_neg hr, if_neg (by omega)]
        exact (hu.2 a (fun j hj => by omega)).symm
section
variable {L F G : St}
def rmemL (T : TypeId) (m : Mm) (a : Option Addr) (y : Option Addr × Nat) : St :=
  [lift (m.ok ∧ m.ws.length ≤ 8388608), pt a (Blk T [.slice y.1 m.ws.length y.2, .int .i64 (IntKind.i64.wrap (m.n : Int))]), pt y.1 (Row 56 1 m.ws.length y.2 (us m.ws))]
def RMemT (T : TypeId) (m : Mm) (a : Option Addr) : As := exs (rmemL T m a)
abbrev RMemO := RMemT 110
theorem RMemO.close {T : TypeId} {a r : Option Addr} {c n : Nat} {v : Value} {w : List Value} {F G : St} (m : Mm) (hm : m.ok ∧ m.ws.length ≤ 8388608) [t : Take L a (Blk T [.slice r n c, v]) F] [u : Take F r (Row 56 1 n c w) G]
    (hv : v = .int .i64 (IntKind.i64.wrap (m.n : Int))) (hn : n = m.ws.length) (hw : w = us m.ws) : Ent L (pt a (RMemT T m) :: G) := by
  subst hv; subst hn; subst hw
  refine Ent.trans (Ent.take1 (t := t) (Ent.of u.out)) ?_
  refine Ent.trans (Ent.lift hm (Ent.refl _)) ?_
  exact Ent.close (f := rmemL T m a) rfl (r, c)
theorem rmemNew (n : Nat) (h2 : n ≤ 8388608) : Fx Tryz.prog 142 [.int .i64 n] L (fun v L' => ∃ g, v = .pointer (some ⟨g, 0, none⟩) ∧ L' = pt (some ⟨g, 0, none⟩) (RMemO ⟨List.replicate n 0, 0⟩) :: L) := by
  refine Fx.mk Tryz.func142 k142 (Nat.le_of_ble_eq_true rfl) ?_
  dsimp only [c142, envOf, Nat.reduceAdd]
  refine go ?_
  refine Sx.mk rfl rfl (by omega) (by omega) (by omega) (by omega) fun g => ?_
  refine go ?_
  refine Sx.bx rfl rfl fun q => ?_
  refine go ?_
  refine Kr.one (.inr rfl) rfl ?_ ⟨q, rfl, rfl⟩
  have hu : us (List.replicate n 0) = List.replicate n (.int .u64 0) := by simp [us, wd]
  refine RMemO.close (a := some ⟨q, 0, none⟩) (r := some ⟨g, 0, none⟩) ⟨List.replicate n 0, 0⟩ ⟨fun w hw => ?_, ?_⟩ rfl (by simp) ?_
  · rw [List.eq_of_mem_replicate hw]; omega
  · simpa using h2
  · rw [hu, made_one]; simp
theorem refAt {x : Cn} (hx : x.ok) (fr : Int) (many i : Nat) (hi : i < many) (hf : 0 ≤ fr ∧ fr + i ≤ 1000000000) (hm : many ≤ 1000000000) : Fx Tryz.prog 172 [x.v, .int .i64 fr, .int .i64 many, .int .i64 i] L (fun v L' => v = .int .i64 (fr + i) ∧ L = L') := by
  refine Fx.mk Tryz.func172 k172 (Nat.le_of_ble_eq_true rfl) ?_
  dsimp only [c172, envOf, Nat.reduceAdd]
  refine Cx.sq ?_
  refine Cx.rg ?_
  refine Sx.bx rfl rfl fun g => ?_
  refine go ?_
  refine Sx.ca rfl (refMay_ (x.w : Int) x.c x.wd x.sl x.ca x.ba) ?_
  rintro v L' ⟨rfl, rfl⟩
  rw [decide_eq_true (show MayC (x.w : Int) x.c x.wd x.sl x.ca x.ba from hx)]
  refine go ?_
  iterate 2 (try (refine Sx.gyes rfl (decide_eq_false (by omega)) ?_; refine go ?_))
  refine Cx.cno rfl (decide_eq_false (by omega)) ?_
  refine go ?_
  rw [w64 (n := fr + i) (by omega) (by omega)]
  exact Kr.one (.inr rfl) rfl Ent.drop ⟨rfl, rfl⟩
end
end Go.Proofs.YtflalhdofhobmaaGreat

/-
  More rules of regions that draw: a store into a row.
-/
set_option linter.unusedVariables false
set_option linter.unusedSimpArgs false
namespace Go.Proofs.YtflalhdofhobmaaGreat
open Go
theorem lay1 {cs : List Value} {off : Nat} {u : Value} (h : off < cs.length) : lay cs off [u] = cs.set off u := by
  have := lay_cons cs off u [] (by simp; omega)
  rw [← this, lay_nil]
section
variable {P : Program} {N : Nat} {L F : St} {Kf : En → St → Prop} {e : En} {r : List It} {ms : List (Nat × (St → Prop))} {i ds sz : Nat} {rs : List Nat} {d : Option Nat} {g : Option (Nat × Bool)}
/-- A store of one cell into a row. -/
theorem Ev.strH {x v : X} {b off E n cap : Nat} {xs ys : List Value} {u : Value} [t : Take L (some ⟨b, 0, none⟩) (Row E sz n cap xs) F] (hd : lastly i r = true) (hg : gon (e.only rs) g = true)
    (hx : x.get (e.only rs) = some (.pointer (some ⟨b, off, none⟩))) (hv : v.get (e.only rs) = some u) (hu : cellsOf u = some [u]) (h1 : u.oneCell' = true) (hl : off < xs.length) (hy : xs.set off u = ys)
    (hp : Pres ds (fun v L' => v = undef ∧ L' = pt (some ⟨b, 0, none⟩) (Row E sz n cap ys) :: F) ms)
    (k : Ev P N Kf r ms (e.put d undef) (pt (some ⟨b, 0, none⟩) (Row E sz n cap ys) :: F)) : Ev P N Kf (⟨i, ds, rs, ⟨d, g, .st x v 1⟩⟩ :: r) ms e L :=
  .genH hd hp hg (fun e' hs K kk => Sx.str (t := t) (X.get_sub hx hs) (X.get_sub hv hs) hu rfl (by simp [ones, h1]) hl (by rw [lay1 hl, hy]) (Sx.nil (kk _ _ ⟨rfl, rfl⟩)))
    (fun v L' ⟨e1, e2⟩ => by subst e1; subst e2; exact k)
/-- The same, by one access. -/
theorem Sx.str1 {l : List G} {K : En → St → Prop} {x v : X} {b off E n cap : Nat} {xs ys : List Value} {u : Value} [t : Take L (some ⟨b, 0, none⟩) (Row E sz n cap xs) F] (hx : x.get e = some (.pointer (some ⟨b, off, none⟩))) (hv : v.get e = some u)
    (hu : cellsOf u = some [u]) (h1 : u.oneCell' = true) (hl : off < xs.length) (hy : xs.set off u = ys) (k : Sx P N l (e.put d undef) K (pt (some ⟨b, 0, none⟩) (Row E sz n cap ys) :: F)) :
    Sx P N (⟨d, none, .st x v 1⟩ :: l) e K L := Sx.str hx hv hu rfl (by simp [ones, h1]) hl (by rw [lay1 hl, hy]) k
end
end Go.Proofs.YtflalhdofhobmaaGreat

/-
  The document's stacks: Fill; its places.
-/
set_option linter.unusedVariables false
set_option linter.unusedSimpArgs false
namespace Go.Proofs.YtflalhdofhobmaaGreat
open Go
attribute [local irreducible] Sx Cx Rx Fx Krg Ksq Kbl Klp Kr
theorem natTmod (a b : Nat) : ((a : Int)).tmod (b : Int) = ((a % b : Nat) : Int) := by
  rw [Int.tmod_eq_emod_of_nonneg (Int.natCast_nonneg a)]
  exact (Int.natCast_emod a b).symm
section
variable {L F G : St}
abbrev RSkO (mp : Nat) (k : Sk) : Option Addr → As := Blk 210 (skV mp k)
theorem refPutHead (i : Int) (t : Nat) (h1 : -1 ≤ i) (h2 : i < 4294967295) (ht : t < 4294967296) : Fx Tryz.prog 204 [hdV i t] L (fun v L' => v = .tuple #[wd (t * 4294967296 + (i + 1).toNat), .bool true] ∧ L = L') := by
  refine Fx.mk Tryz.func204 k204 (Nat.le_of_ble_eq_true rfl) ?_
  dsimp only [c204, envOf, Nat.reduceAdd]
  refine Cx.sq ?_
  refine Cx.rg ?_
  refine Sx.bx rfl rfl fun g => ?_
  refine go ?_
  iterate 3 (try (refine Sx.gyes rfl (decide_eq_false (by omega)) ?_; refine go ?_))
  refine Cx.cno rfl (decide_eq_false (by omega)) ?_
  refine go ?_
  rw [wrap64 (n := t) (by omega), w64 (n := i + 1) (by omega) (by omega), show i + 1 = (((i + 1).toNat : Nat) : Int) by omega, wrap64 (n := (i + 1).toNat) (by omega), show (t : Int) * 4294967296 = ((t * 4294967296 : Nat) : Int) by omega, wrap64 (n := t * 4294967296) (by omega),
    show ((t * 4294967296 : Nat) : Int) + ((i + 1).toNat : Nat) = ((t * 4294967296 + (i + 1).toNat : Nat) : Int) by omega, wrap64 (n := t * 4294967296 + (i + 1).toNat) (by omega)]
  exact Kr.two (.inr rfl) rfl rfl Ent.drop ⟨rfl, rfl⟩
theorem Cn.ok.b {x : Cn} (hx : x.ok) : x.w ≤ 64 ∧ x.c ≤ 4096 ∧ x.wd ≤ 1024 ∧ x.sl ≤ 4096 ∧ x.ca ≤ 64 ∧ x.ba ≤ 8 ∧ 1 ≤ x.w ∧ 1 ≤ x.c ∧ 8 ≤ x.wd ∧ 1 ≤ x.sl ∧ 1 ≤ x.ba := by
  obtain ⟨h1, h2, h3, h4, h5, h6, h7⟩ := hx
  omega
theorem refLen {x : Cn} (hx : x.ok) : Fx Tryz.prog 143 [x.v] L (fun v L' => v = .int .i64 (x.len : Int) ∧ L = L') := by
  obtain ⟨b1, b2, b3, b4, b5, b6, b7⟩ := hx.b
  have hmul : x.c * x.wd ≤ 4194304 := by have := Nat.mul_le_mul b2 b3; omega
  refine Fx.mk Tryz.func143 k143 (Nat.le_of_ble_eq_true rfl) ?_
  dsimp only [c143, envOf, Nat.reduceAdd]
  refine Cx.sq ?_
  refine Cx.rg ?_
  refine Sx.bx rfl rfl fun g => ?_
  refine go ?_
  refine Sx.ca rfl (refMay_ (x.w : Int) x.c x.wd x.sl x.ca x.ba) ?_
  rintro v L' ⟨rfl, rfl⟩
  rw [decide_eq_true (show MayC (x.w : Int) x.c x.wd x.sl x.ca x.ba from hx)]
  refine go ?_
  rw [show (x.c : Int) * x.wd = ((x.c * x.wd : Nat) : Int) by push_cast; rfl, w64 (n := (3 : Int) + x.w) (by omega) (by omega), w64 (n := (2 : Int) * x.sl) (by omega) (by omega), w64 (n := (3 : Int) + x.w + 2 * x.sl) (by omega) (by omega), w64 (n := (3 : Int) + x.w + 2 * x.sl + x.c) (by omega) (by omega),
    w64 (n := ((x.c * x.wd : Nat) : Int)) (by omega) (by omega), w64 (n := (3 : Int) + x.w + 2 * x.sl + x.c + ((x.c * x.wd : Nat) : Int)) (by omega) (by omega)]
  refine Kr.one (.inr rfl) rfl Ent.drop ⟨congrArg (Value.int .i64) ?_, rfl⟩
  unfold Cn.len; omega
theorem refLink {x : Cn} (hx : x.ok) (i : Nat) (hi : i < x.c) : Fx Tryz.prog 112 [x.v, .int .i64 i] L (fun v L' => v = .int .i64 ((x.link + i : Nat) : Int) ∧ L = L') := by
  obtain ⟨b1, b2, b3, b4, b5, b6, b7⟩ := hx.b
  refine Fx.mk Tryz.func112 k112 (Nat.le_of_ble_eq_true rfl) ?_
  dsimp only [c112, envOf, Nat.reduceAdd]
  refine Cx.sq ?_
  refine Cx.rg ?_
  refine Sx.bx rfl rfl fun g => ?_
  refine go ?_
  rw [w64 (n := (3 : Int) + x.w) (by omega) (by omega), w64 (n := (2 : Int) * x.sl) (by omega) (by omega), w64 (n := (3 : Int) + x.w + 2 * x.sl) (by omega) (by omega)]
  refine Sx.ca rfl (refAt hx ((3 : Int) + x.w + 2 * x.sl) x.c i hi (by omega) (by omega)) ?_
  rintro v L' ⟨rfl, rfl⟩
  refine go ?_
  refine Kr.one (.inr rfl) rfl Ent.drop ⟨congrArg (Value.int .i64) ?_, rfl⟩
  unfold Cn.link; omega
theorem refSlot {x : Cn} (hx : x.ok) (i : Nat) (hi : i < x.sl) : Fx Tryz.prog 144 [x.v, .int .i64 i] L (fun v L' => v = .int .i64 ((x.slot + i : Nat) : Int) ∧ L = L') := by
  obtain ⟨b1, b2, b3, b4, b5, b6, b7⟩ := hx.b
  refine Fx.mk Tryz.func144 k144 (Nat.le_of_ble_eq_true rfl) ?_
  dsimp only [c144, envOf, Nat.reduceAdd]
  refine Cx.sq ?_
  refine Cx.rg ?_
  refine Sx.bx rfl rfl fun g => ?_
  refine go ?_
  rw [w64 (n := (3 : Int) + x.w) (by omega) (by omega), w64 (n := (3 : Int) + x.w + x.sl) (by omega) (by omega)]
  refine Sx.ca rfl (refAt hx ((3 : Int) + x.w + x.sl) x.sl i hi (by omega) (by omega)) ?_
  rintro v L' ⟨rfl, rfl⟩
  refine go ?_
  refine Kr.one (.inr rfl) rfl Ent.drop ⟨congrArg (Value.int .i64) ?_, rfl⟩
  unfold Cn.slot; omega
theorem refPin {x : Cn} (hx : x.ok) (i : Nat) (hi : i < x.w) : Fx Tryz.prog 145 [x.v, .int .i64 i] L (fun v L' => v = .int .i64 ((3 + i : Nat) : Int) ∧ L = L') := by
  obtain ⟨b1, b2, b3, b4, b5, b6, b7⟩ := hx.b
  refine Fx.mk Tryz.func145 k145 (Nat.le_of_ble_eq_true rfl) ?_
  dsimp only [c145, envOf, Nat.reduceAdd]
  refine Cx.sq ?_
  refine Cx.rg ?_
  refine Sx.bx rfl rfl fun g => ?_
  refine go ?_
  refine Sx.ca rfl (refAt hx (3 : Int) x.w i hi (by omega) (by omega)) ?_
  rintro v L' ⟨rfl, rfl⟩
  refine go ?_
  refine Kr.one (.inr rfl) rfl Ent.drop ⟨congrArg (Value.int .i64) ?_, rfl⟩
  omega
set_option maxHeartbeats 2000000 in
theorem refFill {sb mp : Nat} {k : Sk} {m : Mm} (hk : k.ok m.ws.length) [t : Take L (some ⟨mp, 0, none⟩) (RMemO m) F] [s : Take F (some ⟨sb, 0, none⟩) (RSkO mp k) G] :
    Fx Tryz.prog 146 [.pointer (some ⟨sb, 0, none⟩)] L (fun v L' => L' = pt (some ⟨mp, 0, none⟩) (RMemO (fillM k m)) :: F) := by
  have hfill := rUp_fill hk rfl
  have hk0 := hk
  obtain ⟨k1, k2, k3, k4, k5, k6⟩ := hk
  refine Fx.mk Tryz.func146 k146 (Nat.le_of_ble_eq_true rfl) ?_
  dsimp only [c146, envOf, Nat.reduceAdd]
  refine Cx.ent (Ent.trans (Ent.of t.out) (Ent.cons (Ent.of s.out))) ?_
  refine Cx.openp (a := some ⟨mp, 0, none⟩) rfl ?_
  rintro ⟨r, c⟩
  simp only [rmemL, List.cons_append, List.nil_append]
  refine Cx.liftp fun hm => ?_
  refine Cx.rowkey (a := r) fun hx0 hn0 _ hk1 => ?_
  obtain ⟨rg, rfl⟩ : ∃ g, r = some ⟨g, 0, none⟩ := by
    rcases hk1 with h | h
    · omega
    · exact h
  refine go ?_
  refine Sx.ca rfl (refPutHead 0 0 (by omega) (by omega) (by omega)) ?_
  rintro v L' ⟨rfl, rfl⟩
  refine go ?_
  refine Cx.ordc rfl (by kernel_rfl) ?_
  refine ge ?_
  refine Ev.strH (b := rg) (by kernel_rfl) rfl rfl rfl rfl rfl (by rw [length_us]; simp; omega) rfl (Pres.deps (by kernel_rfl)) ?_
  refine ge ?_
  refine go ?_
  have hset : (us m.ws).set (0 + (k.head : Int).toNat * 1) (wd (0 * 4294967296 + (0 + 1 : Int).toNat)) = us (rUp k m 0).ws := by
    rw [show 0 + (k.head : Int).toNat * 1 = k.head by simp]
    exact us_set m.ws k.head 1
  refine Cx.lp (α := {i : Nat // i ≤ k.n}) (fun i => [(0, .pointer (some ⟨sb, 0, none⟩)), (4, .int .i64 i.1)])
    (fun i => pt (some ⟨rg, 0, none⟩) (Row 56 1 m.ws.length c (us (rUp k m i.1).ws)) :: pt (some ⟨mp, 0, none⟩) (Blk 110 [.slice (some ⟨rg, 0, none⟩) m.ws.length c, .int .i64 (IntKind.i64.wrap (m.n : Int))]) :: pt (some ⟨sb, 0, none⟩) (RSkO mp k) :: G)
    (fun i => k.n - i.1) ⟨0, by omega⟩ (sub.cons rfl (sub.cons rfl sub.nil)) (by rw [← hset]; exact Ent.refl _) ?_
  rintro ⟨i, hi⟩
  dsimp only
  have hil := rUp_len k m i
  have hul : (us (rUp k m i).ws).length = m.ws.length := by rw [length_us, hil]
  refine go ?_
  refine Cx.ifp rfl (fun h => ?_) (fun h => ?_)
  · refine go ?_
    refine Cx.ordc rfl (by kernel_rfl) ?_
    refine ge ?_
    rw [w64 (n := (k.links : Int) + i) (by omega) (by omega), w64 (n := (i : Int) + 2) (by omega) (by omega), w64 (n := (k.n : Int) + 1) (by omega) (by omega)]
    refine Ev.pvH (by kernel_rfl) rfl rfl (by omega) ?_
    have hmlt : (i + 2) % (k.n + 1) < k.n + 1 := Nat.mod_lt _ (by omega)
    rw [show (i : Int) + 2 = ((i + 2 : Nat) : Int) by omega, show (k.n : Int) + 1 = ((k.n + 1 : Nat) : Int) by omega, natTmod]
    refine ge ?_
    rw [wrap64 (n := (i + 2) % (k.n + 1)) (by omega)]
    refine Ev.strH (b := rg) (by kernel_rfl) rfl rfl rfl rfl rfl (by rw [hul]; simp; omega) rfl (Pres.deps (by kernel_rfl)) ?_
    refine ge ?_
    rw [show (us (rUp k m i).ws).set (0 + ((k.links : Int) + i).toNat * 1) (.int .u64 (((i + 2) % (k.n + 1) : Nat) : Int)) = us ((rUp k m i).lay (k.links + i) ((i + 2) % (k.n + 1))).ws by
      rw [show 0 + ((k.links : Int) + i).toNat * 1 = k.links + i by omega]
      exact us_set _ _ _]
    have hul2 : (us ((rUp k m i).lay (k.links + i) ((i + 2) % (k.n + 1))).ws).length = m.ws.length := by rw [length_us, Mm.len_lay, hil]
    refine go ?_
    rw [w64 (n := (k.n : Int) - 1) (by omega) (by omega)]
    refine Cx.ifp rfl (fun h2 => ?_) (fun h2 => ?_)
    · have e : rUp k m (i + 1) = ((rUp k m i).lay (k.links + i) ((i + 2) % (k.n + 1))).lay (k.links + i) 0 := by rw [rUp.eq_def]; simp only; rw [if_pos (by omega)]
      refine go ?_
      refine Cx.orde rfl (by kernel_rfl) ?_
      refine ge ?_
      rw [w64 (n := (k.links : Int) + i) (by omega) (by omega)]
      refine ge ?_
      refine Ev.strH (b := rg) (by kernel_rfl) rfl rfl rfl rfl rfl (by rw [hul2]; simp; omega) rfl (Pres.deps (by kernel_rfl)) ?_
      refine ge ?_
      rw [show (us ((rUp k m i).lay (k.links + i) ((i + 2) % (k.n + 1))).ws).set (0 + ((k.links : Int) + i).toNat * 1) (.int .u64 0) = us (rUp k m (i + 1)).ws by
        rw [show 0 + ((k.links : Int) + i).toNat * 1 = k.links + i by omega, e]
        exact us_set _ _ 0]
      refine go ?_
      rw [w64 (n := (i : Int) + 1) (by omega) (by omega)]
      exact Klp.nm ⟨i + 1, by omega⟩ (sub.cons rfl (sub.cons rfl sub.nil)) (Ent.refl _) (by dsimp only; omega)
    · have e : rUp k m (i + 1) = (rUp k m i).lay (k.links + i) ((i + 2) % (k.n + 1)) := by rw [rUp.eq_def]; simp only; rw [if_neg (by omega)]
      rw [← e]
      refine go ?_
      rw [w64 (n := (i : Int) + 1) (by omega) (by omega)]
      exact Klp.nm ⟨i + 1, by omega⟩ (sub.cons rfl (sub.cons rfl sub.nil)) (Ent.refl _) (by dsimp only; omega)
  · have hin : i = k.n := by omega
    subst hin
    refine go ?_
    refine Kr.none (.inl rfl) ?_ rfl
    have hl2 : (fillM k m).ws.length = m.ws.length := fillM_len k m
    refine Ent.trans ?_ (Ent.cons (Ent.of s.back))
    refine RMemO.close (a := some ⟨mp, 0, none⟩) (r := some ⟨rg, 0, none⟩) (fillM k m) ⟨fillM_ok hm.1 k2, by rw [hl2]; exact hm.2⟩ ?_ hl2.symm ?_
    · rw [fillM_n]
    · rw [hfill]
end
end Go.Proofs.YtflalhdofhobmaaGreat

/-
  The document's memory by a configuration; its supplies.
-/
set_option linter.unusedVariables false
set_option linter.unusedSimpArgs false
namespace Go.Proofs.YtflalhdofhobmaaGreat
open Go
attribute [local irreducible] Sx Cx Rx Fx Krg Ksq Kbl Klp Kr
section
variable {L F G : St}
abbrev RWO (x : Cn) (rm rp rs re : Nat) : Option Addr → As := Blk 115 (x.l ++ [.pointer (some ⟨rm, 0, none⟩), .pointer (some ⟨rp, 0, none⟩), .pointer (some ⟨rs, 0, none⟩), .pointer (some ⟨re, 0, none⟩)])
abbrev REpO (x : Cn) (rm : Nat) : Option Addr → As := Blk 218 [.pointer (some ⟨rm, 0, none⟩), .int .i64 2, .int .i64 3, .int .i64 x.w]
def zeroM (x : Cn) : Mm := ⟨List.replicate x.len 0, 0⟩
theorem zeroM_len (x : Cn) : (zeroM x).ws.length = x.len := by simp [zeroM]
set_option maxHeartbeats 2000000 in
theorem refWNew {x : Cn} (hx : x.ok) : Fx Tryz.prog 74 [x.v] L (fun v L' => ∃ w rm rp rs re, v = .pointer (some ⟨w, 0, none⟩) ∧
    L' = pt (some ⟨w, 0, none⟩) (RWO x rm rp rs re) :: pt (some ⟨rm, 0, none⟩) (RMemO (fillM x.spare (fillM x.pool (zeroM x)))) :: pt (some ⟨rp, 0, none⟩) (RSkO rm x.pool) :: pt (some ⟨rs, 0, none⟩) (RSkO rm x.spare) :: pt (some ⟨re, 0, none⟩) (REpO x rm) :: L) := by
  obtain ⟨b1, b2, b3, b4, b5, b6, b7⟩ := hx.b
  have hlen := hx.len_le
  refine Fx.mk Tryz.func74 k74 (Nat.le_of_ble_eq_true rfl) ?_
  dsimp only [c74, envOf, Nat.reduceAdd]
  refine Cx.sq ?_
  refine Cx.rg ?_
  refine Sx.bx rfl rfl fun g => ?_
  refine go ?_
  refine Sx.ca rfl (refLen hx) ?_
  rintro v L' ⟨rfl, rfl⟩
  refine go ?_
  refine Sx.ca rfl (rmemNew x.len hlen) ?_
  rintro v L' ⟨rm, rfl, rfl⟩
  refine go ?_
  refine Sx.bx rfl rfl fun w => ?_
  refine go ?_
  refine Cx.ordc rfl (by kernel_rfl) ?_
  refine ge ?_
  refine Ev.cakH (by kernel_rfl) rfl rfl (refLink hx 0 (by omega)) ?_
  refine ge ?_
  refine Ev.bxH (by kernel_rfl) rfl rfl rfl (Pres.deps (by kernel_rfl)) fun rp => ?_
  refine ge ?_
  refine Ev.stbH (b := w) (by kernel_rfl) rfl rfl rfl rfl rfl (by rfl) rfl (Pres.deps (by kernel_rfl)) ?_
  refine ge ?_
  refine go ?_
  refine Cx.ordc rfl (by kernel_rfl) ?_
  refine ge ?_
  refine Ev.cakH (by kernel_rfl) rfl rfl (refSlot hx 0 (by omega)) ?_
  refine ge ?_
  refine Ev.bxH (by kernel_rfl) rfl rfl rfl (Pres.deps (by kernel_rfl)) fun rs => ?_
  refine ge ?_
  refine Ev.stbH (b := w) (by kernel_rfl) rfl rfl rfl rfl rfl (by rfl) rfl (Pres.deps (by kernel_rfl)) ?_
  refine ge ?_
  refine go ?_
  refine Cx.ordc rfl (by kernel_rfl) ?_
  refine ge ?_
  refine Ev.cakH (by kernel_rfl) rfl rfl (refPin hx 0 (by omega)) ?_
  refine ge ?_
  refine Ev.bxH (by kernel_rfl) rfl rfl rfl (Pres.deps (by kernel_rfl)) fun re => ?_
  refine ge ?_
  refine Ev.stbH (b := w) (by kernel_rfl) rfl rfl rfl rfl rfl (by rfl) rfl (Pres.deps (by kernel_rfl)) ?_
  refine ge ?_
  refine go ?_
  refine Sx.ca rfl (refFill (sb := rp) (mp := rm) (k := x.pool) (m := zeroM x) (hx.pool (by rw [zeroM_len]; exact Nat.le_refl _) (by rw [zeroM_len]; exact hlen))) ?_
  rintro v L' rfl
  refine go ?_
  refine Sx.ca rfl (refFill (sb := rs) (mp := rm) (k := x.spare) (m := fillM x.pool (zeroM x)) (hx.spare (by rw [fillM_len, zeroM_len]; exact Nat.le_refl _) (by rw [fillM_len, zeroM_len]; exact hlen))) ?_
  rintro v L' rfl
  refine go ?_
  refine Kr.one (.inr rfl) rfl ?_ ⟨w, rm, rp, rs, re, rfl, rfl⟩
  exact ent
theorem refSupply {w rm rp rs re : Nat} {x : Cn} [t : Take L (some ⟨w, 0, none⟩) (RWO x rm rp rs re) F] : Fx Tryz.prog 76 [.pointer (some ⟨w, 0, none⟩)] L (fun v L' => ∃ s st lm, v = .pointer (some ⟨s, 0, none⟩) ∧
    L' = pt (some ⟨s, 0, none⟩) (Blk 183 [.pointer (some ⟨w, 0, none⟩), .pointer (some ⟨st, 0, none⟩), .pointer (some ⟨lm, 0, none⟩)]) :: pt (some ⟨lm, 0, none⟩) (RLimboO Lm.nil) :: pt (some ⟨st, 0, none⟩) (RefO (min (max (x.ca : Int) 0) 64) []) :: L) := by
  refine Fx.mk Tryz.func76 k76 (Nat.le_of_ble_eq_true rfl) ?_
  dsimp only [c76, envOf, Nat.reduceAdd]
  refine go ?_
  refine Sx.ca rfl (refNew (x.ca : Int)) ?_
  rintro v L' ⟨st, rfl, rfl⟩
  refine go ?_
  refine Sx.ca rfl refLimboNew ?_
  rintro v L' ⟨lm, rfl, rfl⟩
  refine go ?_
  refine Sx.bx rfl rfl fun s => ?_
  refine go ?_
  exact Kr.one (.inr rfl) rfl (Ent.refl _) ⟨s, st, lm, rfl, rfl⟩
end
end Go.Proofs.YtflalhdofhobmaaGreat

/-
  Epochs: an Advance, a Collect, one access at a time; alone.
-/
set_option linter.unusedVariables false
set_option linter.unusedSimpArgs false
namespace Go.Proofs.YtflalhdofhobmaaGreat
/-- What a worker's cell announces. -/
def pinI (w : Nat) : Int := ((w / 2 : Nat) : Int)
/-- Whether it hinders. -/
def behind (e w : Nat) : Prop := w % 2 = 1 ∧ pinI w ≠ cutE e
instance (e w : Nat) : Decidable (behind e w) := by unfold behind; infer_instance
/-- An Advance: at: 0: the Load, 1: a worker's cell, 2: the Cas. -/
structure AdvS where
  was : Nat
  worker : Nat
  won : Bool
  at_ : Nat
  done : Bool
def AdvS.init : AdvS := ⟨0, 0, false, 0, false⟩
end Go.Proofs.YtflalhdofhobmaaGreat

/-
  The document's memory and words: Load, Store, Cas; heads, links, pins, epochs.
-/
set_option linter.unusedVariables false
set_option linter.unusedSimpArgs false
namespace Go.Proofs.YtflalhdofhobmaaGreat
open Go
attribute [local irreducible] Sx Cx Rx Fx Krg Ksq Kbl Klp Kr
section
variable {L F G : St}
theorem row_some {n cap : Nat} {r : Option Addr} {i : Nat} (hi : i < n) (h : (r = none ∧ n = 0 ∧ cap = 0) ∨ ∃ g, r = some ⟨g, 0, none⟩) : ∃ g, r = some ⟨g, 0, none⟩ := by
  rcases h with h | h
  · omega
  · exact h
theorem rmemKey {rm : Nat} {m : Mm} {F : St} [t : Take L (some ⟨rm, 0, none⟩) (RMemO m) F] : ∀ h, holds L h → m.ok ∧ m.ws.length ≤ 8388608 := by
  intro h hh
  obtain ⟨y, hy⟩ := holds_ex.1 (t.out h hh)
  exact (holds_lift.1 hy).1
theorem refLoad {rm : Nat} {m : Mm} (i : Nat) (hi : i < m.ws.length) [t : Take L (some ⟨rm, 0, none⟩) (RMemO m) F] :
    Fx Tryz.prog 98 [.pointer (some ⟨rm, 0, none⟩), .int .i64 i] L (fun v L' => v = wd (m.at_ i) ∧ L' = pt (some ⟨rm, 0, none⟩) (RMemO m.tick) :: F) := by
  refine Fx.mk Tryz.func98 k98 (Nat.le_of_ble_eq_true rfl) ?_
  dsimp only [c98, envOf, Nat.reduceAdd]
  refine Cx.openp (t := t) rfl ?_
  rintro ⟨r, c⟩
  simp only [rmemL, List.cons_append, List.nil_append]
  refine Cx.liftp fun hm => ?_
  refine Cx.rowkey (a := r) fun hx0 hn0 _ hk1 => ?_
  obtain ⟨rg, rfl⟩ := row_some hi (hk1.imp (fun h => ⟨h.1, h.2.1, h.2.2⟩) id)
  refine gg ?_
  refine Sx.ldr (b := rg) rfl (v := wd (m.at_ i)) (by rw [show 0 + (i : Int).toNat * 1 = i by omega]; exact us_get (Mm.get hi)) ?_
  refine go ?_
  refine Kr.one (.inr rfl) rfl ?_ ⟨rfl, rfl⟩
  exact RMemO.close (a := some ⟨rm, 0, none⟩) (r := some ⟨rg, 0, none⟩) m.tick hm (by rw [wrap_succ]; rfl) rfl rfl
theorem refStore {rm : Nat} {m : Mm} (i v : Nat) (hi : i < m.ws.length) (hv : v < 18446744073709551616) [t : Take L (some ⟨rm, 0, none⟩) (RMemO m) F] :
    Fx Tryz.prog 110 [.pointer (some ⟨rm, 0, none⟩), .int .i64 i, wd v] L (fun u L' => u = .tuple #[] ∧ L' = pt (some ⟨rm, 0, none⟩) (RMemO (m.put i v)) :: F) := by
  refine Fx.mk Tryz.func110 k110 (Nat.le_of_ble_eq_true rfl) ?_
  dsimp only [c110, envOf, Nat.reduceAdd]
  refine Cx.openp (t := t) rfl ?_
  rintro ⟨r, c⟩
  simp only [rmemL, List.cons_append, List.nil_append]
  refine Cx.liftp fun hm => ?_
  refine Cx.rowkey (a := r) fun hx0 hn0 _ hk1 => ?_
  obtain ⟨rg, rfl⟩ := row_some hi (hk1.imp (fun h => ⟨h.1, h.2.1, h.2.2⟩) id)
  refine gg ?_
  refine Sx.str1 (b := rg) rfl rfl rfl rfl (by rw [length_us]; simp; omega) rfl ?_
  refine go ?_
  refine Kr.none (.inl rfl) ?_ ⟨rfl, rfl⟩
  refine RMemO.close (a := some ⟨rm, 0, none⟩) (r := some ⟨rg, 0, none⟩) (m.put i v) ⟨Mm.ok_put hm.1 hv, by rw [Mm.len_put]; exact hm.2⟩ (by rw [wrap_succ]; rfl) Mm.len_put.symm ?_
  rw [show 0 + (i : Int).toNat * 1 = i by omega]
  exact us_set _ _ _
theorem refCas {rm : Nat} {m : Mm} (i o v : Nat) (hi : i < m.ws.length) (ho : o < 18446744073709551616) (hv : v < 18446744073709551616) [t : Take L (some ⟨rm, 0, none⟩) (RMemO m) F] :
    Fx Tryz.prog 102 [.pointer (some ⟨rm, 0, none⟩), .int .i64 i, wd o, wd v] L (fun u L' => u = .bool (decide (m.at_ i = o)) ∧ L' = pt (some ⟨rm, 0, none⟩) (RMemO (m.cas i o v)) :: F) := by
  refine Fx.mk Tryz.func102 k102 (Nat.le_of_ble_eq_true rfl) ?_
  dsimp only [c102, envOf, Nat.reduceAdd]
  refine Cx.openp (t := t) rfl ?_
  rintro ⟨r, c⟩
  simp only [rmemL, List.cons_append, List.nil_append]
  refine Cx.liftp fun hm => ?_
  refine Cx.rowkey (a := r) fun hx0 hn0 _ hk1 => ?_
  obtain ⟨rg, rfl⟩ := row_some hi (hk1.imp (fun h => ⟨h.1, h.2.1, h.2.2⟩) id)
  refine gg ?_
  refine Sx.ldr (b := rg) rfl (v := wd (m.at_ i)) (by rw [show 0 + (i : Int).toNat * 1 = i by omega]; exact us_get (Mm.get hi)) ?_
  refine go ?_
  refine Cx.ifn rfl (fun h => ?_) (fun h => ?_)
  · have hne : m.at_ i ≠ o := fun e => h (by rw [e])
    refine go ?_
    refine Kr.one (.inr rfl) rfl ?_ ⟨by rw [decide_eq_false hne], rfl⟩
    rw [show m.cas i o v = m.tick by unfold Mm.cas; rw [if_neg hne]]
    exact RMemO.close (a := some ⟨rm, 0, none⟩) (r := some ⟨rg, 0, none⟩) m.tick hm (by rw [wrap_succ]; rfl) rfl rfl
  · have he : m.at_ i = o := by omega
    refine gg ?_
    refine Sx.str1 (b := rg) rfl rfl rfl rfl (by rw [length_us]; simp; omega) rfl ?_
    refine go ?_
    refine Kr.one (.inr rfl) rfl ?_ ⟨by rw [decide_eq_true he], rfl⟩
    rw [show m.cas i o v = m.put i v by unfold Mm.cas; rw [if_pos he]]
    refine RMemO.close (a := some ⟨rm, 0, none⟩) (r := some ⟨rg, 0, none⟩) (m.put i v) ⟨Mm.ok_put hm.1 hv, by rw [Mm.len_put]; exact hm.2⟩ (by rw [wrap_succ]; rfl) Mm.len_put.symm ?_
    rw [show 0 + (i : Int).toNat * 1 = i by omega]
    exact us_set _ _ _
theorem refGetHead (w : Nat) (hw : w < 18446744073709551616) : Fx Tryz.prog 200 [wd w] L (fun v L' => v = hdV (hdI w) (hdT w) ∧ L = L') := by
  refine Fx.mk Tryz.func200 k200 (Nat.le_of_ble_eq_true rfl) ?_
  dsimp only [c200, envOf, Nat.reduceAdd]
  refine Cx.sq ?_
  refine Cx.rg ?_
  refine Sx.al fun g => ?_
  refine gg ?_
  have hm : (w : Int).tmod 4294967296 = ((w % 4294967296 : Nat) : Int) := natTmod w 4294967296
  have hdv : (w : Int).tdiv 4294967296 = (hdT w : Int) := (Int.ofNat_tdiv w 4294967296).symm
  have h3 := hdT_lt hw
  rw [hm, hdv, w64 (n := ((w % 4294967296 : Nat) : Int)) (by omega) (by omega), w64 (n := ((w % 4294967296 : Nat) : Int) - 1) (by omega) (by omega), wu64 (n := (hdT w : Int)) (by omega) (by omega), w64 (n := (hdT w : Int)) (by omega) (by omega)]
  refine Sx.st (b := g) rfl rfl rfl rfl rfl rfl ?_
  dsimp only [lay]
  refine go ?_
  exact Kr_cell (b := g) (.inr rfl) rfl rfl (L' := L) Ent.drop ⟨rfl, rfl⟩
theorem refTop {sb rm : Nat} {k : Sk} (w : Nat) (hw : w < 18446744073709551616) [t : Take L (some ⟨sb, 0, none⟩) (RSkO rm k) F] :
    Fx Tryz.prog 133 [.pointer (some ⟨sb, 0, none⟩), wd w] L (fun v L' => v = .int .i64 (k.top w) ∧ L = L') := by
  refine Fx.mk Tryz.func133 k133 (Nat.le_of_ble_eq_true rfl) ?_
  dsimp only [c133, envOf, Nat.reduceAdd]
  refine go ?_
  refine Sx.ca rfl (refGetHead w hw) ?_
  rintro v L' ⟨rfl, rfl⟩
  refine go ?_
  refine Cx.ifp rfl (fun h => ?_) (fun h => ?_)
  · refine go ?_
    exact Kr.one (.inr rfl) rfl (Ent.refl _) ⟨by unfold Sk.top; rw [if_neg (by omega)], rfl⟩
  · refine go ?_
    exact Kr.one (.inr rfl) rfl (Ent.refl _) ⟨by unfold Sk.top; rw [if_pos (by omega)], rfl⟩
theorem refBelow {sb rm : Nat} {k : Sk} (w : Nat) (hw : w < 18446744073709551616) (hk : k.n ≤ 4096) [t : Take L (some ⟨sb, 0, none⟩) (RSkO rm k) F] :
    Fx Tryz.prog 134 [.pointer (some ⟨sb, 0, none⟩), wd w] L (fun v L' => v = .int .i64 (k.below w) ∧ L = L') := by
  refine Fx.mk Tryz.func134 k134 (Nat.le_of_ble_eq_true rfl) ?_
  dsimp only [c134, envOf, Nat.reduceAdd]
  refine go ?_
  rw [wu64 (n := (k.n : Int)) (by omega) (by omega)]
  refine Cx.ifp rfl (fun h => ?_) (fun h => ?_)
  · refine go ?_
    exact Kr.one (.inr rfl) rfl (Ent.refl _) ⟨by unfold Sk.below; rw [if_pos (by omega)], rfl⟩
  · refine go ?_
    rw [w64 (n := (w : Int)) (by omega) (by omega), w64 (n := (w : Int) - 1) (by omega) (by omega)]
    exact Kr.one (.inr rfl) rfl (Ent.refl _) ⟨by unfold Sk.below; rw [if_neg (by omega)], rfl⟩
theorem refNextHead (i : Int) (t : Nat) (j : Int) (ht : t < 4294967296) : Fx Tryz.prog 242 [hdV i t, .int .i64 j] L (fun v L' => v = hdV j (laterT t) ∧ L = L') := by
  refine Fx.mk Tryz.func242 k242 (Nat.le_of_ble_eq_true rfl) ?_
  dsimp only [c242, envOf, Nat.reduceAdd]
  refine Cx.sq ?_
  refine Cx.rg ?_
  refine Sx.bx rfl rfl fun q => ?_
  refine Sx.al fun g => ?_
  refine go ?_
  refine Cx.ifp rfl (fun h => ?_) (fun h => ?_)
  · refine go ?_
    refine Sx.st (b := g) rfl rfl rfl rfl rfl rfl ?_
    dsimp only [lay]
    refine go ?_
    refine Kr_cell (b := g) (.inr rfl) rfl rfl (L' := L) (Ent.trans Ent.drop Ent.drop) ⟨?_, rfl⟩
    rw [show laterT t = 0 by unfold laterT; rw [if_neg (by omega)]]
    rfl
  · refine go ?_
    rw [w64 (n := (t : Int) + 1) (by omega) (by omega)]
    refine Sx.st (b := g) rfl rfl rfl rfl rfl rfl ?_
    dsimp only [lay]
    refine go ?_
    refine Kr_cell (b := g) (.inr rfl) rfl rfl (L' := L) (Ent.trans Ent.drop Ent.drop) ⟨?_, rfl⟩
    rw [show laterT t = t + 1 by unfold laterT; rw [if_pos (by omega)]]
    rfl
theorem refNextW (w : Nat) (i : Int) (hw : w < 18446744073709551616) (h1 : -1 ≤ i) (h2 : i < 4294967295) : Fx Tryz.prog 195 [wd w, .int .i64 i] L (fun v L' => v = wd (nextW w i) ∧ L = L') := by
  refine Fx.mk Tryz.func195 k195 (Nat.le_of_ble_eq_true rfl) ?_
  dsimp only [c195, envOf, Nat.reduceAdd]
  refine go ?_
  refine Sx.ca rfl (refGetHead w hw) ?_
  rintro v L' ⟨rfl, rfl⟩
  refine go ?_
  refine Sx.ca rfl (refNextHead _ _ i (hdT_lt hw)) ?_
  rintro v L' ⟨rfl, rfl⟩
  refine go ?_
  refine Sx.ca rfl (refPutHead i (laterT (hdT w)) h1 h2 (laterT_lt (hdT_lt hw))) ?_
  rintro v L' ⟨rfl, rfl⟩
  refine go ?_
  exact Kr.one (.inr rfl) rfl (Ent.refl _) ⟨rfl, rfl⟩
end
end Go.Proofs.YtflalhdofhobmaaGreat

/-
  The document's Pop, one access at a time.
-/
set_option linter.unusedVariables false
set_option linter.unusedSimpArgs false
namespace Go.Proofs.YtflalhdofhobmaaGreat
open Go
attribute [local irreducible] Sx Cx Rx Fx Krg Ksq Kbl Klp Kr
theorem ints_last {l : List Int} (h : l ≠ []) : (ints l)[l.length - 1]? = some (.int .i64 (lastI l)) := by
  unfold ints lastI
  rw [List.getElem?_map, List.getLastD_eq_getLast?, ← List.getLast?_eq_getElem?, List.getLast?_eq_some_getLast h]
  rfl
section
variable {L F G : St}
def rpopL (T : TypeId) (sb : Nat) (q : PopS) (a : Option Addr) (y : Option Addr × Nat) : St :=
  [pt a (Blk T [.pointer (some ⟨sb, 0, none⟩), .int .i64 q.most, .int .i64 (q.at_ : Nat), .int .i64 q.under, wd q.was, .slice y.1 q.got.length y.2, .bool q.done]), pt y.1 (Row 3 1 q.got.length y.2 (ints q.got))]
def RPopT (T : TypeId) (sb : Nat) (q : PopS) (a : Option Addr) : As := exs (rpopL T sb q a)
abbrev RPopO := RPopT 235
theorem RPopO.close {T : TypeId} {sb : Nat} {a r : Option Addr} {c n : Nat} {v0 v1 v2 v3 v4 v6 : Value} {w : List Value} {F G : St} (q : PopS) [t : Take L a (Blk T [v0, v1, v2, v3, v4, .slice r n c, v6]) F] [u : Take F r (Row 3 1 n c w) G]
    (h0 : v0 = .pointer (some ⟨sb, 0, none⟩)) (h1 : v1 = .int .i64 q.most) (h2 : v2 = .int .i64 (q.at_ : Nat)) (h3 : v3 = .int .i64 q.under) (h4 : v4 = wd q.was) (h5 : n = q.got.length) (h6 : v6 = .bool q.done) (hw : w = ints q.got) : Ent L (pt a (RPopT T sb q) :: G) := by
  subst h0 h1 h2 h3 h4 h5 h6 hw
  refine Ent.trans (Ent.take1 (t := t) (Ent.of u.out)) ?_
  exact Ent.close (f := rpopL T sb q a) rfl (r, c)
theorem refPopNew {sb rm : Nat} {k : Sk} (most : Int) [t : Take L (some ⟨sb, 0, none⟩) (RSkO rm k) F] :
    Fx Tryz.prog 166 [.pointer (some ⟨sb, 0, none⟩), .int .i64 most] L (fun v L' => ∃ b, v = .pointer (some ⟨b, 0, none⟩) ∧ L' = pt (some ⟨b, 0, none⟩) (RPopO sb (PopS.init most)) :: L) := by
  refine Fx.mk Tryz.func166 k166 (Nat.le_of_ble_eq_true rfl) ?_
  dsimp only [c166, envOf, Nat.reduceAdd]
  refine go ?_
  refine Sx.bx rfl rfl fun b => ?_
  refine go ?_
  refine Kr.one (.inr rfl) rfl ?_ ⟨b, rfl, rfl⟩
  refine Ent.trans (Ent.rownil 3 1) ?_
  refine RPopO.close (a := some ⟨b, 0, none⟩) (r := none) (PopS.init most) rfl (congrArg (Value.int .i64) ?_) rfl rfl rfl rfl rfl rfl
  simp only [PopS.init, cond_true, cond_false]
  (repeat' split) <;> omega
set_option maxHeartbeats 1000000 in
theorem refPopStep {b sb rm : Nat} {k : Sk} {m : Mm} {q : PopS} {F1 F2 : St} (hk : k.ok m.ws.length) (hq : q.ok k) [t1 : Take L (some ⟨b, 0, none⟩) (RPopO sb q) F1] [t2 : Take F1 (some ⟨rm, 0, none⟩) (RMemO m) F2] [t3 : Take F2 (some ⟨sb, 0, none⟩) (RSkO rm k) G] :
    Fx Tryz.prog 167 [.pointer (some ⟨b, 0, none⟩)] L (fun v L' => v = .bool (!q.done) ∧ L' = pt (some ⟨b, 0, none⟩) (RPopO sb (popStep k m q).1) :: pt (some ⟨rm, 0, none⟩) (RMemO (popStep k m q).2) :: F2) := by
  obtain ⟨k1, k2, k3, k4, k5, k6⟩ := hk
  refine Fx.mk Tryz.func167 k167 (Nat.le_of_ble_eq_true rfl) ?_
  dsimp only [c167, envOf, Nat.reduceAdd]
  refine Cx.ent (Ent.trans (Ent.of t1.out) (Ent.cons (Ent.trans (Ent.of t2.out) (Ent.cons (Ent.of t3.out))))) ?_
  refine Cx.pure (rmemKey (rm := rm) (m := m)) fun hm => ?_
  refine Cx.openp (a := some ⟨b, 0, none⟩) rfl ?_
  rintro ⟨r, c⟩
  simp only [rpopL, List.cons_append, List.nil_append]
  cases hd : q.done with
  | true =>
    have e1 : popStep k m q = (q, m) := by unfold popStep; rw [hd]; rfl
    rw [e1]
    refine go ?_
    refine Kr.one (.inr rfl) rfl (Ent.trans (RPopO.close (sb := sb) (a := some ⟨b, 0, none⟩) (r := r) q rfl rfl rfl rfl rfl rfl (by rw [hd]) rfl) (Ent.cons (Ent.cons (Ent.of t3.back)))) ⟨rfl, rfl⟩
  | false =>
    have ha := hq.a
    rcases (show q.at_ = 0 ∨ q.at_ = 1 ∨ q.at_ = 2 by omega) with h0 | h0 | h0
    · have hwl := Mm.at_lt hm.1 k.head
      rw [h0]
      refine go ?_
      refine Cx.ordc rfl (by kernel_rfl) ?_
      refine ge ?_
      refine Ev.caH (by kernel_rfl) rfl rfl (refLoad (rm := rm) (m := m) k.head k3) (Pres.deps (by kernel_rfl)) ?_
      rintro v L' ⟨rfl, rfl⟩
      refine ge ?_
      refine Ev.stbH (b := b) (by kernel_rfl) rfl rfl rfl rfl rfl (by rfl) rfl (Pres.deps (by kernel_rfl)) ?_
      refine ge ?_
      refine go ?_
      refine Sx.ca rfl (refTop (sb := sb) (rm := rm) (k := k) (m.at_ k.head) hwl) ?_
      rintro v L' ⟨rfl, rfl⟩
      refine go ?_
      refine Cx.ifp rfl (fun h => ?_) (fun h => ?_)
      · have e1 : popStep k m q = ({ q with was := m.at_ k.head, got := [], done := true }, m.tick) := by unfold popStep; rw [hd, h0]; simp only [Bool.false_eq_true, if_false]; rw [if_neg (by omega)]
        rw [e1]
        refine go ?_
        refine Kr.one (.inr rfl) rfl ?_ ⟨rfl, rfl⟩
        refine Ent.trans (Ent.rownil 3 1) ?_
        refine Ent.trans (RPopO.close (sb := sb) (a := some ⟨b, 0, none⟩) (r := none) { q with was := m.at_ k.head, got := [], done := true } rfl rfl (by rw [h0]) rfl rfl rfl rfl rfl) ?_
        refine Ent.cons ?_
        refine Ent.trans ?_ (Ent.cons (Ent.of t3.back))
        exact ent
      · have e1 : popStep k m q = ({ q with was := m.at_ k.head, got := [k.top (m.at_ k.head)], at_ := 1 }, m.tick) := by unfold popStep; rw [hd, h0]; simp only [Bool.false_eq_true, if_false]; rw [if_pos (by omega)]
        rw [e1]
        refine go ?_
        refine Sx.bs (sz := 1) rfl rfl fun g => ?_
        refine go ?_
        refine Sx.apn rfl rfl (Rd.row (b := g) (E := 3) (cap := 1) rfl) rfl (by simp [maxLen]) (by omega) fun r' c' hc => ?_
        refine go ?_
        refine Kr.one (.inr rfl) rfl ?_ ⟨rfl, rfl⟩
        refine Ent.trans (RPopO.close (sb := sb) (a := some ⟨b, 0, none⟩) (r := r') { q with was := m.at_ k.head, got := [k.top (m.at_ k.head)], at_ := 1 } rfl rfl rfl rfl rfl rfl (by rw [hd]) rfl) ?_
        refine Ent.cons ?_
        refine Ent.trans ?_ (Ent.cons (Ent.of t3.back))
        exact ent
    · have hne := hq.ne hd (by omega)
      have hlp := List.length_pos_iff.2 hne
      have hlen8 := hq.len
      have hlast := hq.g _ (lastI_mem hne)
      have hm8 := hq.m2
      have hwl := Mm.at_lt hm.1 (k.links + (lastI q.got).toNat)
      obtain ⟨bl, hbl⟩ : ∃ bl, k.below (m.at_ (k.links + (lastI q.got).toNat)) = bl := ⟨_, rfl⟩
      have hbl1 : -1 ≤ bl := hbl ▸ k.below_ge _
      have hbl2 : bl < k.n := hbl ▸ k.below_lt _
      refine Cx.rowkey (a := r) fun hx0 hn0 hc0 hk1 => ?_
      obtain ⟨rg, rfl⟩ := row_some hlp (hk1.imp (fun h => ⟨h.1, h.2.1, h.2.2⟩) id)
      rw [h0]
      refine go ?_
      refine Cx.ordc rfl (by kernel_rfl) ?_
      refine ge ?_
      rw [w64 (n := (q.got.length : Int) - 1) (by omega) (by omega)]
      refine ge ?_
      refine Ev.ldrH (b := rg) (v := .int .i64 (lastI q.got)) (by kernel_rfl) rfl rfl (by rw [show 0 + ((q.got.length : Int) - 1).toNat * 1 = q.got.length - 1 by omega]; exact ints_last hne) ?_
      refine ge ?_
      rw [w64 (n := (k.links : Int) + lastI q.got) (by omega) (by omega), show (k.links : Int) + lastI q.got = ((k.links + (lastI q.got).toNat : Nat) : Int) by omega]
      refine Ev.caH (by kernel_rfl) rfl rfl (refLoad (rm := rm) (m := m) (k.links + (lastI q.got).toNat) (by omega)) (Pres.deps (by kernel_rfl)) ?_
      rintro v L' ⟨rfl, rfl⟩
      refine ge ?_
      refine Ev.cakH (by kernel_rfl) rfl rfl (refBelow (sb := sb) (rm := rm) (k := k) _ hwl k2) ?_
      rw [hbl]
      refine ge ?_
      refine Ev.stbH (b := b) (by kernel_rfl) rfl rfl rfl rfl rfl (by rfl) rfl (Pres.deps (by kernel_rfl)) ?_
      refine ge ?_
      refine Cx.sq ?_
      refine Cx.ordc rfl (by kernel_rfl) ?_
      refine ge ?_
      by_cases hb0 : 0 ≤ bl
      · refine Ev.yes 120 rfl (decide_eq_true hb0) ?_
        refine ge ?_
        refine Cx.ifp rfl (fun h => ?_) (fun h => ?_)
        · have e1 : popStep k m q = ({ q with under := bl, got := q.got ++ [bl] }, m.tick) := by unfold popStep; rw [hd, h0]; simp only [Bool.false_eq_true, if_false, hbl]; rw [if_pos ⟨hb0, h⟩]
          rw [e1]
          refine go ?_
          refine Cx.orde rfl (by kernel_rfl) ?_
          refine ge ?_
          refine Ev.bsH (sz := 1) (by kernel_rfl) rfl rfl rfl (.dep rfl (.keep (fun v L' ⟨_, _, e⟩ => by subst e; exact Has.cell rfl) .nil)) fun g => ?_
          refine ge ?_
          refine Ev.apH (ra := some ⟨rg, 0, none⟩) (by kernel_rfl) rfl rfl rfl (Rd.row (b := g) (E := 3) (cap := 1) rfl) rfl (by simp [maxLen]; omega) (by omega) (Pres.deps (by kernel_rfl)) fun r' c' hc hk2 => ?_
          refine ge ?_
          refine Ev.stbH (b := b) (by kernel_rfl) rfl rfl rfl rfl rfl (by rfl) rfl (Pres.deps (by kernel_rfl)) ?_
          refine ge ?_
          refine go ?_
          refine Kr.one (.inr rfl) rfl ?_ ⟨rfl, rfl⟩
          refine Ent.trans (RPopO.close (sb := sb) (a := some ⟨b, 0, none⟩) (r := r') { q with under := bl, got := q.got ++ [bl] } rfl rfl (by rw [h0]) rfl rfl (by simp) (by rw [hd]) (by simp [ints, lay])) ?_
          refine Ent.cons ?_
          refine Ent.trans ?_ (Ent.cons (Ent.of t3.back))
          exact ent
        · have e1 : popStep k m q = ({ q with under := bl, at_ := 2 }, m.tick) := by unfold popStep; rw [hd, h0]; simp only [Bool.false_eq_true, if_false, hbl]; rw [if_neg (fun hh => h hh.2)]
          rw [e1]
          refine go ?_
          refine Kr.one (.inr rfl) rfl ?_ ⟨rfl, rfl⟩
          refine Ent.trans (RPopO.close (sb := sb) (a := some ⟨b, 0, none⟩) (r := some ⟨rg, 0, none⟩) { q with under := bl, at_ := 2 } rfl rfl rfl rfl rfl rfl (by rw [hd]) rfl) ?_
          refine Ent.cons ?_
          refine Ent.trans ?_ (Ent.cons (Ent.of t3.back))
          exact ent
      · refine Ev.no 120 rfl (decide_eq_false hb0) ?_
        have e1 : popStep k m q = ({ q with under := bl, at_ := 2 }, m.tick) := by unfold popStep; rw [hd, h0]; simp only [Bool.false_eq_true, if_false, hbl]; rw [if_neg (fun hh => hb0 hh.1)]
        rw [e1]
        refine ge ?_
        refine go ?_
        refine Kr.one (.inr rfl) rfl ?_ ⟨rfl, rfl⟩
        refine Ent.trans (RPopO.close (sb := sb) (a := some ⟨b, 0, none⟩) (r := some ⟨rg, 0, none⟩) { q with under := bl, at_ := 2 } rfl rfl rfl rfl rfl rfl (by rw [hd]) rfl) ?_
        refine Ent.cons ?_
        refine Ent.trans ?_ (Ent.cons (Ent.of t3.back))
        exact ent
    · have hu1 := hq.u1
      have hu2 := hq.u2
      have hw := hq.w
      have hnw := nextW_lt (i := q.under) hw (by omega)
      have e1 : popStep k m q = ({ q with at_ := 0, done := decide (m.at_ k.head = q.was) }, m.cas k.head q.was (nextW q.was q.under)) := by unfold popStep; rw [hd, h0]; rfl
      rw [e1, h0]
      refine go ?_
      refine Cx.ordc rfl (by kernel_rfl) ?_
      refine ge ?_
      refine Ev.cakH (by kernel_rfl) rfl rfl (refNextW q.was q.under hw hu1 (by omega)) ?_
      refine ge ?_
      refine Ev.caH (by kernel_rfl) rfl rfl (refCas (rm := rm) (m := m) k.head q.was (nextW q.was q.under) k3 hw hnw) (Pres.deps (by kernel_rfl)) ?_
      rintro v L' ⟨rfl, rfl⟩
      refine ge ?_
      refine Ev.stbH (b := b) (by kernel_rfl) rfl rfl rfl rfl rfl (by rfl) rfl (Pres.deps (by kernel_rfl)) ?_
      refine ge ?_
      refine go ?_
      refine Kr.one (.inr rfl) rfl ?_ ⟨rfl, rfl⟩
      refine Ent.trans (RPopO.close (sb := sb) (a := some ⟨b, 0, none⟩) (r := r) { q with at_ := 0, done := decide (m.at_ k.head = q.was) } rfl rfl rfl rfl rfl rfl rfl rfl) ?_
      refine Ent.cons ?_
      refine Ent.trans ?_ (Ent.cons (Ent.of t3.back))
      exact ent
theorem refPopGot {b sb rm : Nat} {k : Sk} {q : PopS} {F1 : St} (hd : q.done = true) (hb : q.got.length ≤ 8) [t1 : Take L (some ⟨b, 0, none⟩) (RPopO sb q) F1] :
    Fx Tryz.prog 168 [.pointer (some ⟨b, 0, none⟩)] L (fun v L' => ∃ r c, v = .slice r q.got.length c ∧ L' = pt r (Row 3 1 q.got.length c (ints q.got)) :: pt (some ⟨b, 0, none⟩) (RPopO sb q) :: F1) := by
  refine Fx.mk Tryz.func168 k168 (Nat.le_of_ble_eq_true rfl) ?_
  dsimp only [c168, envOf, Nat.reduceAdd]
  refine Cx.openp (t := t1) rfl ?_
  rintro ⟨r, c⟩
  simp only [rpopL, List.cons_append, List.nil_append]
  rw [hd]
  refine Cx.rowkey (a := r) fun hx0 hn0 hc0 hk1 => ?_
  refine go ?_
  refine Sx.apn rfl rfl (Rd.any (a := r) hx0 (hk1.imp (fun h => h.2.1) id)) (ones_ints _) (by simp [maxLen]; omega) (by omega) fun r' c' hc => ?_
  refine go ?_
  refine Kr.one (.inr rfl) rfl (Ent.cons ?_) ⟨r', c', rfl, rfl⟩
  exact RPopO.close (sb := sb) (a := some ⟨b, 0, none⟩) (r := r) q rfl rfl rfl rfl rfl rfl (by rw [hd]) rfl
end
end Go.Proofs.YtflalhdofhobmaaGreat
