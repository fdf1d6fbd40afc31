/-
  Parts of the proof, merged: what the statement leans on.
-/
import Derived.Test.YtggnbdeokmdjbaaGreatProg
import Derived.KernelRfl
import Derived.Test.YtggnbdeokmdjbaaGreatZIaA
set_option linter.unusedVariables false
set_option linter.unusedSimpArgs false

namespace Go.Proofs.YtggnbdeokmdjbaaGreat
open Go
def En.only (e : En) : List Nat → En
 | [] => []
 | t :: r => match e.get t with | some v => (t, v) :: En.only e r | none => En.only e r
theorem only_get {e : En} : ∀ {rs : List Nat} {t : Nat} {u : Value}, (e.only rs).get t = some u → t ∈ rs ∧ e.get t = some u
 | [], t, u, h => by simp [En.only, En.get] at h
 | a :: r, t, u, h => by
   unfold En.only at h
   split at h
   ·rename_i v hv
    simp only [En.get] at h
    cases hb : Nat.beq a t with
    | true =>
      rw [hb, cond_true] at h
      have := Nat.eq_of_beq_eq_true hb
      subst this
      cases h
      exact ⟨by simp, hv⟩
    | false =>
      rw [hb, cond_false] at h
      have := only_get h
      exact ⟨by simp [this.1], this.2⟩
   ·have := only_get h
    exact ⟨by simp [this.1], this.2⟩
theorem put_ne {e : En} {d : Option Nat} {v : Value} {t : Nat} (h : d ≠ some t) : (e.put d v).get t = e.get t := by
 cases d with
 | none => rfl
 | some i =>
   have hit : Nat.beq i t = false := by
    cases hb : Nat.beq i t with
    | false => rfl
    | true => exact absurd (by rw [Nat.eq_of_beq_eq_true hb]) h
   simp [En.put, En.get, hit]
theorem put_eq {e : En} {d : Nat} {v : Value} : (e.put (some d) v).get d = some v := by simp [En.put, En.get]
section
variable {P : Program} {N : Nat} {L F : St}
def Sc (P : Program) (N : Nat) (g : G) (e : En) (v : Value) (L : St) : Prop := ∀ K : En → St → Prop, K (e.put g.d v) L → Sx P N [g] e K L
def Calm (P : Program) (N : Nat) (L : St) : List It → En → En → Prop
 | [], e, fin => fin = e
 | x :: r, e, fin => ∃ v, (∀ e', sub (e.only x.rs) e' → Sc P N x.g e' v L) ∧ Calm P N L r (e.put x.g.d v) fin
def dOK (d : Option Nat) (rs : List Nat) : Bool := match d with | none => true | some d => !(rs.any (Nat.beq d))
def okL : List It → Bool
 | [] => true
 | x :: r => (dOK x.g.d x.rs && r.all (fun y => dOK y.g.d x.rs && dOK y.g.d (match x.g.d with | some d => [d] | none => []))) && okL r
def okD (l : List It) : Bool := l.all fun x => l.all fun y => dOK y.g.d x.rs || bit x.ds y.i
def okI : Nat → List It → Bool
 | _, [] => true
 | n, x :: r => Nat.beq x.i n && okI (n + 1) r
def chk (l : List It) : Bool := okL l && (okD l && okI 0 l)
theorem dOK_iff {d : Option Nat} {rs : List Nat} (h : dOK d rs = true) : ∀ t, d = some t → t ∉ rs := by
 rintro t rfl ht
 simp only [dOK, Bool.not_eq_true', List.any_eq_false] at h
 exact h t ht (by simp)
theorem okI_inj : ∀ {l : List It} {n : Nat}, okI n l = true → ∀ x ∈ l, n ≤ x.i ∧ ∀ y ∈ l, x.i = y.i → x = y
 | [], _, _, x, hx => by cases hx
 | a :: r, n, h, x, hx => by
   simp only [okI, Bool.and_eq_true] at h
   have ha := Nat.eq_of_beq_eq_true h.1
   have ih := okI_inj h.2
   rcases List.mem_cons.1 hx with rfl | hxr
   ·refine ⟨by omega, fun y hy he => ?_⟩
    rcases List.mem_cons.1 hy with rfl | hyr
    ·rfl
    ·have := (ih y hyr).1; omega
   ·have h1 := ih x hxr
    refine ⟨by omega, fun y hy he => ?_⟩
    rcases List.mem_cons.1 hy with rfl | hyr
    ·omega
    ·exact h1.2 y hyr he
theorem calm_far : ∀ {l : List It} {e fin : En}, Calm P N L l e fin → ∀ t, (∀ y ∈ l, y.g.d ≠ some t) → fin.get t = e.get t
 | [], _, _, h, t, _ => by rw [show _ = _ from h]
 | x :: r, e, fin, ⟨v, _, hr⟩, t, ht => by
   rw [calm_far hr t (fun y hy => ht y (by simp [hy])), put_ne (ht x (by simp))]
theorem calm_each : ∀ {l : List It} {e fin : En}, okL l = true → Calm P N L l e fin → ∀ x ∈ l, ∃ v, (∀ d, x.g.d = some d → fin.get d = some v) ∧
  ∀ e' : En, (∀ t ∈ x.rs, ∀ u, fin.get t = some u → e'.get t = some u) → Sc P N x.g e' v L
 | [], _, _, _, _, x, hx => by cases hx
 | a :: r, e, fin, ho, ⟨v, ha, hr⟩, x, hx => by
   simp only [okL, Bool.and_eq_true, List.all_eq_true] at ho
   obtain ⟨⟨h1, h2⟩, h3⟩ := ho
   rcases List.mem_cons.1 hx with rfl | hxr
   ·refine ⟨v, fun d hd => ?_, fun e' he => ha e' fun t u ht => ?_⟩
    ·rw [calm_far hr d (fun y hy hyd => by
      have := dOK_iff (h2 y hy).2 d hyd
      rw [hd] at this
      simp at this)]
     rw [hd]; exact put_eq
    ·obtain ⟨htr, hu⟩ := only_get ht
     refine he t htr u ?_
     rw [calm_far hr t (fun y hy hyd => dOK_iff (h2 y hy).1 t hyd htr), put_ne (fun hd => dOK_iff h1 t hd htr)]
     exact hu
   ·exact calm_each h3 hr x hxr
theorem without_lt {rem : List It} {x : It} (hx : x ∈ rem) : (without rem x.i).length < rem.length := by
 unfold without
 exact List.length_filter_lt_length_iff_exists.2 ⟨x, hx, by simp⟩
theorem calm_run {l : List It} {fin : En} {K : En → St → Prop} (hi : okI 0 l = true) (hd : okD l = true)
  (hH : ∀ x ∈ l, ∃ v, (∀ d, x.g.d = some d → fin.get d = some v) ∧ ∀ e' : En, (∀ t ∈ x.rs, ∀ u, fin.get t = some u → e'.get t = some u) → Sc P N x.g e' v L) (hK : ∀ e', sub fin e' → K e' L) :
  ∀ (n : Nat) (rem : List It), rem.length = n → (∀ x ∈ rem, x ∈ l) → ∀ e', (∀ t u, fin.get t = some u → (∀ y ∈ rem, y.g.d ≠ some t) → e'.get t = some u) → Rx P N rem [] (fun _ => True) e' K L := by
 intro n
 induction n using Nat.strongRecOn with
 | _ n ih =>
   intro rem hn hsub e' he
   refine Rx.all (fun h0 => hK e' fun t u ht => he t u ht (by rw [h0]; simp)) fun x hx => ⟨by simp, ?_⟩
   have hx1 : x ∈ rem ∧ ready x rem = true := by simpa [readies] using hx
   have hrd : ∀ y ∈ rem, bit x.ds y.i = false := by
    have := hx1.2
    simpa [ready] using this
   obtain ⟨v, hv, hS⟩ := hH x (hsub x hx1.1)
   refine hS e' (fun t ht u hu => he t u hu fun y hy hyd => ?_) _ ⟨trivial, ?_⟩
   ·simp only [okD, List.all_eq_true, Bool.or_eq_true] at hd
    rcases hd x (hsub x hx1.1) y (hsub y hy) with h | h
    ·exact dOK_iff h t hyd ht
    ·rw [hrd y hy] at h; cases h
   ·refine ih _ (by rw [← hn]; exact without_lt hx1.1) (without rem x.i) rfl (fun y hy => hsub y (mem_without.1 hy).1) _ fun t u ht hw => ?_
    by_cases hxt : x.g.d = some t
    ·have h1 := hv t hxt
     rw [ht] at h1
     rw [hxt, put_eq, ← h1]
    ·rw [put_ne hxt]
     refine he t u ht fun y hy hyd => ?_
     by_cases hyx : y.i = x.i
     ·have := (okI_inj hi y (hsub y hy)).2 x (hsub x hx1.1) hyx
      subst this
      exact hxt hyd
     ·exact hw y (mem_without.2 ⟨hy, hyx⟩) hyd
def Cm (P : Program) (N : Nat) (L : St) (l : List It) (e : En) (Kf : En → Prop) : Prop := ∃ fin, Calm P N L l e fin ∧ Kf fin
theorem Cx.calm {l : List It} {e : En} {d : C} {K : Kx} (hc : chk l = true) (h : Cm P N L l e fun fin => Cx P N d fin K L) : Cx P N (.rd l) e (Ksq P N d K) L := by
 obtain ⟨fin, hl, hk⟩ := h
 simp only [chk, Bool.and_eq_true] at hc
 refine Cx.rd (calm_run hc.2.2 hc.2.1 (calm_each hc.1 hl) (fun e' hs => ?_) _ l rfl (fun _ h => h) e fun t u ht hw => ?_)
 ·exact Cx.less hs hk
 ·rw [← calm_far hl t hw]; exact ht
theorem Cx.calmK {l : List It} {e : En} {K : Kx} (hm : ∀ e e', sub e e' → K .nm e L → K .nm e' L) (hc : chk l = true) (h : Cm P N L l e fun fin => K .nm fin L) : Cx P N (.rd l) e K L := by
 obtain ⟨fin, hl, hk⟩ := h
 simp only [chk, Bool.and_eq_true] at hc
 refine Cx.rd (calm_run hc.2.2 hc.2.1 (calm_each hc.1 hl) (fun e' hs => ?_) _ l rfl (fun _ h => h) e fun t u ht hw => ?_)
 ·exact hm _ _ hs hk
 ·rw [← calm_far hl t hw]; exact ht
theorem Kjn.mono {β : Type _} {K : Kx} {T : β → En} {S : β → St} : ∀ e e', sub e e' → Kjn K T S .nm e L → Kjn K T S .nm e' L :=
 fun e e' hs ⟨y, h1, h2⟩ => ⟨y, fun i v h => hs i v (h1 i v h), h2⟩
theorem Klp.mono {α : Type _} {K : Kx} {T : α → En} {S : α → St} {μ : α → Nat} {x : α} : ∀ e e', sub e e' → Klp K T S μ x .nm e L → Klp K T S μ x .nm e' L :=
 fun e e' hs ⟨y, h1, h2, h3⟩ => ⟨y, fun i v h => hs i v (h1 i v h), h2, h3⟩
section
variable {Kf : En → Prop} {e : En} {r : List It} {i ds : Nat} {rs : List Nat} {d : Option Nat} {g : Option (Nat × Bool)}
theorem Cm.nil (h : Kf e) : Cm P N L [] e Kf := ⟨e, rfl, h⟩
theorem Cm.done {c : C} {K : Kx} (h : Cx P N c e K L) : Cm P N L [] e (fun fin => Cx P N c fin K L) := .nil h
theorem Cm.cons {x : It} (v : Value) (h : ∀ e', sub (e.only x.rs) e' → Sc P N x.g e' v L) (k : Cm P N L r (e.put x.g.d v) Kf) : Cm P N L (x :: r) e Kf := by
 obtain ⟨fin, h1, h2⟩ := k
 exact ⟨fin, ⟨v, h, h1⟩, h2⟩
def gon (e : En) (g : Option (Nat × Bool)) : Bool := match g with
 | none => true
 | some (t, b) => match e.get t with | some (.bool c) => c == b | _ => false
theorem Sc.gon {T e' : En} {s : S} {v : Value} (hg : gon T g = true) (hs : sub T e') (h : Sc P N ⟨d, none, s⟩ e' v L) : Sc P N ⟨d, g, s⟩ e' v L := by
 unfold Proofs.YtggnbdeokmdjbaaGreat.gon at hg
 split at hg
 ·exact h
 ·rename_i t b
  split at hg
  ·rename_i c hc
   have hcb : c = b := by simpa using hg
   subst hcb
   exact fun K k => Sx.on (hs _ _ hc) (h K k)
  ·cases hg
theorem Sc.pv {T e' : En} {s : S} {φ : Prop} {v : Value} (hp : Proofs.YtggnbdeokmdjbaaGreat.pv T s = some (φ, v)) (hφ : φ) (hs : sub T e') : Sc P N ⟨d, none, s⟩ e' v L :=
 fun K k => Sx.step fun o a w0 w hc ok st => ⟨v, w, L, .inl ((ok.sub hs).runs hc hp hφ w), st, Sx.nil k⟩
theorem Cm.pv {s : S} {φ : Prop} {v : Value} (hg : gon (e.only rs) g = true) (hp : Proofs.YtggnbdeokmdjbaaGreat.pv (e.only rs) s = some (φ, v)) (hφ : φ) (k : Cm P N L r (e.put d v) Kf) : Cm P N L (⟨i, ds, rs, ⟨d, g, s⟩⟩ :: r) e Kf :=
 .cons v (fun e' hs => .gon hg hs (.pv hp hφ hs)) k
theorem Cm.off {t : Nat} {b : Bool} {s : S} (hb : offs (e.only rs) t b = true) (k : Cm P N L r (e.put d undef) Kf) : Cm P N L (⟨i, ds, rs, ⟨d, some (t, b), s⟩⟩ :: r) e Kf :=
 .cons undef (fun e' hs K k => Sx.off (by
  unfold offs at hb ⊢
  cases h1 : (e.only rs).get t with
  | none => rw [h1] at hb; simp at hb
  | some u => rw [hs _ _ h1]; rw [h1] at hb; exact hb) (Sx.nil k)) k
theorem X.get_sub {T e' : En} {x : X} {v : Value} (h : x.get T = some v) (hs : sub T e') : x.get e' = some v := by
 cases x with
 | t i => exact hs _ _ h
 | c u => exact h
theorem gets_sub {T e' : En} (hs : sub T e') : ∀ {xs : List X} {vs : List Value}, gets T xs = some vs → gets e' xs = some vs
 | [], _, h => h
 | x :: l, vs, h => by
   simp only [gets] at h ⊢
   split at h
   ·rename_i v hv
    split at h
    ·rename_i us hus
     rw [X.get_sub hv hs]
     simp only
     rw [gets_sub hs hus]
     exact h
    ·cases h
   ·cases h
theorem Cm.pk {c x y : X} {p q z : Bool} (hg : gon (e.only rs) g = true) (hc : c.get (e.only rs) = some (.bool p)) (hx : x.get (e.only rs) = some (.bool q)) (hy : y.get (e.only rs) = some (.bool z))
  (k : Cm P N L r (e.put d (.bool (pick p q z))) Kf) : Cm P N L (⟨i, ds, rs, ⟨d, g, .pk c x y⟩⟩ :: r) e Kf :=
 .cons _ (fun e' hs => .gon hg hs fun K k => Sx.pk (X.get_sub hc hs) (X.get_sub hx hs) (X.get_sub hy hs) (Sx.nil k)) k
theorem Cm.ld {x : X} {n b off : Nat} {ag : Bool} {vs : List Value} {v : Value} (hg : gon (e.only rs) g = true) (hx : x.get (e.only rs) = some (.pointer (some ⟨b, off, none⟩))) (hh : Has L b off vs) (hv : ldv n ag vs = some v)
  (k : Cm P N L r (e.put d v) Kf) : Cm P N L (⟨i, ds, rs, ⟨d, g, .ld x n ag⟩⟩ :: r) e Kf :=
 .cons v (fun e' hs => .gon hg hs fun K k => Sx.ld (X.get_sub hx hs) hh hv (Sx.nil k)) k
theorem Cm.ldb {x : X} {b off : Nat} {T : TypeId} {cs : List Value} {v : Value} [t : Take L (some ⟨b, 0, none⟩) (Blk T cs) F] (hg : gon (e.only rs) g = true) (hx : x.get (e.only rs) = some (.pointer (some ⟨b, off, none⟩))) (hv : cs[off]? = some v)
  (k : Cm P N L r (e.put d v) Kf) : Cm P N L (⟨i, ds, rs, ⟨d, g, .ld x 1 false⟩⟩ :: r) e Kf :=
 .ld hg hx ((Has.blk (T := T) (cs := cs) (n := 1)).one (take_one hv)) rfl k
theorem Cm.ldbs {x : X} {b off n : Nat} {T : TypeId} {cs : List Value} [t : Take L (some ⟨b, 0, none⟩) (Blk T cs) F] (hg : gon (e.only rs) g = true) (hx : x.get (e.only rs) = some (.pointer (some ⟨b, off, none⟩))) (hn : Nat.ble (off + n) cs.length = true)
  (k : Cm P N L r (e.put d (.agg ((cs.drop off).take n).toArray)) Kf) : Cm P N L (⟨i, ds, rs, ⟨d, g, .ld x n true⟩⟩ :: r) e Kf :=
 .cons _ (fun e' hs => .gon hg hs fun K k => Sx.ldbs (X.get_sub hx hs) hn (Sx.nil k)) k
theorem Cm.ca {f : FuncId} {xs : List X} {vs : List Value} {v : Value} (hg : gon (e.only rs) g = true) (hx : gets (e.only rs) xs = some vs) (hf : Fx P f vs L (fun v' L' => v' = v ∧ L = L')) (k : Cm P N L r (e.put d v) Kf) :
  Cm P N L (⟨i, ds, rs, ⟨d, g, .ca f xs⟩⟩ :: r) e Kf :=
 .cons v (fun e' hs => .gon hg hs fun K k => Sx.ca (gets_sub hs hx) hf fun v' L' h => by
  obtain ⟨rfl, rfl⟩ := h
  exact Sx.nil k) k
def isPk : S → Bool
 | .pk _ _ _ => true
 | _ => false
def plainP (s : S) : Bool := isPk s || plain s
theorem isPk_pv {s : S} (h : isPk s = true) {φ : Prop} {v : Value} (hp : Proofs.YtggnbdeokmdjbaaGreat.pv e s = some (φ, v)) : φ := by
 obtain ⟨c, a, b, rfl⟩ : ∃ c a b, s = .pk c a b := by cases s <;> first | exact ⟨_, _, _, rfl⟩ | cases h
 simp only [Proofs.YtggnbdeokmdjbaaGreat.pv] at hp
 repeat' split at hp
 all_goals first | (cases hp; trivial) | cases hp
theorem plainP_pv {s : S} (h : plainP s = true) {φ : Prop} {v : Value} (hp : Proofs.YtggnbdeokmdjbaaGreat.pv e s = some (φ, v)) : φ := by
 rcases (Bool.or_eq_true _ _).mp h with h | h
 ·exact isPk_pv h hp
 ·exact plain_pv h hp
def stepM (x : It) (e : En) : Option Value :=
 bif gon (e.only x.rs) x.g.g then
  (bif plainP x.g.s then (match Proofs.YtggnbdeokmdjbaaGreat.pv (e.only x.rs) x.g.s with | some (_, v) => some v | none => none) else none)
 else (match x.g.g with | some (t, b) => (bif offs (e.only x.rs) t b then some undef else none) | none => none)
def eagM : List It → En → Option (List It × En)
 | x :: r, e => match stepM x e with
   | some v => match eagM r (e.put x.g.d v) with
     | some q => some q
     | none => some (r, e.put x.g.d v)
   | none => none
 | [], _ => none
theorem Cm.step {x : It} {v : Value} (h : stepM x e = some v) (k : Cm P N L r (e.put x.g.d v) Kf) : Cm P N L (x :: r) e Kf := by
 obtain ⟨i, ds, rs, d, g, s⟩ := x
 unfold stepM at h
 simp only at h
 cases hg : gon (e.only rs) g with
 | true =>
   rw [hg, cond_true] at h
   cases hp : plainP s with
   | false => rw [hp] at h; cases h
   | true =>
     rw [hp, cond_true] at h
     split at h
     ·rename_i φ u hu
      cases h
      exact Cm.pv hg hu (plainP_pv hp hu) k
     ·cases h
 | false =>
   rw [hg, cond_false] at h
   split at h
   ·rename_i t b
    cases hb : offs (e.only rs) t b with
    | true => rw [hb, cond_true] at h; cases h; exact Cm.off hb k
    | false => rw [hb] at h; cases h
   ·cases h
theorem Cm.pvs : ∀ {l l' : List It} {e e' : En}, eagM l e = some (l', e') → Cm P N L l' e' Kf → Cm P N L l e Kf
 | [], _, _, _, h, _ => by cases h
 | x :: r, l', e, e', h, k => by
   simp only [eagM] at h
   split at h
   ·rename_i v hv
    split at h
    ·rename_i q hq
     cases h
     exact Cm.step hv (Cm.pvs hq k)
    ·cases h
     exact Cm.step hv k
   ·cases h
end
end
end Go.Proofs.YtggnbdeokmdjbaaGreat


namespace Go.Proofs.YtggnbdeokmdjbaaGreat
open Go
section
variable {P : Program} {N : Nat} {e : En} {L F : St}
theorem cRs_cell {rs : List ResultVar} {t n : Nat} {g : Bool} (h : cRs P rs = some [.c t n g]) : ∃ ty, rs = [.cell t ty] ∧ szT P ty = some n ∧ isAggT P ty = some g := by
 match rs with
 | [] => simp [cRs] at h
 | [.tmp i] => simp [cRs, cR] at h
 | [.cell a ty] =>
   simp only [cRs, cR] at h
   cases h1 : szT P ty with
   | none => simp [h1] at h
   | some m =>
     cases h2 : isAggT P ty with
     | none => simp [h1, h2] at h
     | some q =>
       simp only [h1, h2, Option.some.injEq, List.cons.injEq, RV.c.injEq, and_true] at h
       obtain ⟨rfl, rfl, rfl⟩ := h
       exact ⟨ty, rfl, h1, h2⟩
 | r :: r' :: l =>
   simp only [cRs] at h
   split at h
   ·split at h
    ·rename_i _ _ us hus
     split at hus
     ·split at hus
      ·cases hus; simp at h
      ·cases hus
     ·cases hus
    ·cases h
   ·cases h
theorem Rv_cell {t n b off : Nat} {g : Bool} {vs : List Value} {v : Value} (h : e.get t = some (.pointer (some ⟨b, off, none⟩))) (hh : Has L b off vs) (hv : ldv n g vs = some v) : Rv P N [.c t n g] e L v := by
 intro fn a w0 w hr ok s
 obtain ⟨ty, hres, hs, hg⟩ := cRs_cell hr
 have hr2 : fn.results = #[.cell t ty] := by apply Array.ext'; simpa using hres
 have ht := ok.get _ _ h
 have hx : a.tmps.getD t undef = .pointer (some ⟨b, off, none⟩) := by simp [ht]
 have hc := hh w0 w s
 cases g
 ·unfold ldv at hv
  split at hv
  ·contradiction
  ·cases hv
   have h0 := hc 0 v rfl
   simp only [Nat.add_zero] at h0
   simp [results, hr2, ht, loadVar, isAggT_eq hg, h0, asAddr]
  ·cases hv
 ·simp only [ldv] at hv
  cases hb : Nat.beq vs.length n with
  | false => rw [hb] at hv; cases hv
  | true =>
    rw [hb] at hv; cases hv
    have hn := Nat.eq_of_beq_eq_true hb
    have hl := run_loadCells_list (P := P) w ⟨b, off, none⟩ vs (fun j v hj => by rw [partPlace]; exact hc j v hj)
    rw [hn] at hl
    simp [results, hr2, ht, loadVar, isAggT_eq hg, szT_eq hs, hl, asAddr]
theorem Kr_cell {R : Value → St → Prop} {t n b : Nat} {T : TypeId} {cs : List Value} {x : Ex} [i : Take L (some ⟨b, 0, none⟩) (Blk T cs) F] (hx : x = .nm ∨ x = .rt) (h : e.get t = some (.pointer (some ⟨b, 0, none⟩))) (hn : Nat.beq cs.length n = true)
  {L' : St} (hL : Ent L L') (hR : R (.agg cs.toArray) L') : Kr P N [.c t n true] R x e L := by
 have hn' := Nat.eq_of_beq_eq_true hn
 refine ⟨hx, _, L', Rv_cell h (Has.blk (T := T) (cs := cs) (n := n) (off := 0)) ?_, hL, hR⟩
 simp [ldv, ← hn']
end
end Go.Proofs.YtggnbdeokmdjbaaGreat


namespace Go.Proofs.YtggnbdeokmdjbaaGreat
open Go
section
variable {P : Program} {N : Nat} {L F : St}
def Se (P : Program) (N : Nat) (g : G) (e : En) (L : St) (R : Value → St → Prop) : Prop := ∀ K : En → St → Prop, (∀ v L', R v L' → K (e.put g.d v) L') → Sx P N [g] e K L
inductive Ev (P : Program) (N : Nat) (Kf : En → St → Prop) : List It → List (Nat × (St → Prop)) → En → St → Prop
 | nil {ms : List (Nat × (St → Prop))} {e : En} {L : St} (h : Kf e L) : Ev P N Kf [] ms e L
 | free {rem : List It} {ms : List (Nat × (St → Prop))} {e : En} {L : St} (x : It) (hx : x ∈ rem) (v : Value) (h : ∀ L e', sub (e.only x.rs) e' → Sc P N x.g e' v L) (k : Ev P N Kf (without rem x.i) ms (e.put x.g.d v) L) : Ev P N Kf rem ms e L
 | looks {rem : List It} {ms : List (Nat × (St → Prop))} {e : En} {L : St} (x : It) (hx : x ∈ rem) (v : Value) (Φ : St → Prop) (hΦ : Φ L) (h : ∀ M, Φ M → ∀ e', sub (e.only x.rs) e' → Sc P N x.g e' v M) (k : Ev P N Kf (without rem x.i) ((x.i, Φ) :: ms) (e.put x.g.d v) L) : Ev P N Kf rem ms e L
 | turns {rem : List It} {ms : List (Nat × (St → Prop))} {e : En} {L : St} (x : It) (hx : x ∈ rem) (R : Value → St → Prop) (h1 : (without rem x.i).all (fun y => bit y.ds x.i) = true) (h2 : ∀ q ∈ ms, bit x.ds q.1 = true ∨ ∀ v L', R v L' → q.2 L')
   (h : ∀ e', sub (e.only x.rs) e' → Se P N x.g e' L R) (k : ∀ v L', R v L' → Ev P N Kf (without rem x.i) ms (e.put x.g.d v) L') : Ev P N Kf rem ms e L
structure Told (P : Program) (N : Nat) (ms : List (Nat × (St → Prop))) (e : En) (L : St) (p : It × Value) : Prop where
 hv : ∀ d, p.1.g.d = some d → e.get d = some p.2
 hs : (∀ L e', (∀ t ∈ p.1.rs, ∀ u, e.get t = some u → e'.get t = some u) → Sc P N p.1.g e' p.2 L) ∨
  ∃ Φ, (p.1.i, Φ) ∈ ms ∧ Φ L ∧ ∀ M, Φ M → ∀ e', (∀ t ∈ p.1.rs, ∀ u, e.get t = some u → e'.get t = some u) → Sc P N p.1.g e' p.2 M
def okN : List It → Bool
 | [] => true
 | x :: r => r.all (fun y => dOK y.g.d (match x.g.d with | some d => [d] | none => [])) && okN r
theorem okN_iff : ∀ {l : List It}, okN l = true → ∀ x ∈ l, ∀ y ∈ l, ∀ d, x.g.d = some d → y.g.d = some d → x = y
 | [], _, x, hx => by cases hx
 | a :: r, h, x, hx => by
   simp only [okN, Bool.and_eq_true, List.all_eq_true] at h
   intro y hy d hdx hdy
   rcases List.mem_cons.1 hx with rfl | hxr <;> rcases List.mem_cons.1 hy with rfl | hyr
   ·rfl
   ·have := dOK_iff (h.1 y hyr) d hdy
    rw [hdx] at this; simp at this
   ·have := dOK_iff (h.1 x hxr) d hdx
    rw [hdy] at this; simp at this
   ·exact okN_iff h.2 x hxr y hyr d hdx hdy
theorem without_app (U tl : List It) (i : Nat) (h : ∀ y ∈ tl, y.i ≠ i) : without (U ++ tl) i = without U i ++ tl := by
 unfold without
 rw [List.filter_append]
 congr 1
 rw [List.filter_eq_self]
 intro y hy
 have := h y hy
 cases hb : Nat.beq y.i i with
 | true => exact absurd (Nat.eq_of_beq_eq_true hb) this
 | false => rfl
theorem split_ready {all tl U : List It} {x : It} (htl : ∀ y ∈ tl, ∀ x ∈ all, bit y.ds x.i = true ∧ y.i ≠ x.i) (hUa : ∀ x ∈ U, x ∈ all) (hU : U ≠ []) (hx : x ∈ readies (U ++ tl)) : x ∈ U ∧ ready x U = true ∧ without (U ++ tl) x.i = without U x.i ++ tl := by
 have h1 : x ∈ U ++ tl ∧ ready x (U ++ tl) = true := by simpa only [readies, List.mem_filter] using hx
 have h2 : ∀ z ∈ U ++ tl, bit x.ds z.i = false := by
  have := h1.2
  simp only [ready, List.all_eq_true] at this
  exact fun z hz => by simpa using this z hz
 have hxU : x ∈ U := by
  rcases List.mem_append.1 h1.1 with h | h
  ·exact h
  ·obtain ⟨z, hz⟩ := List.exists_mem_of_ne_nil U hU
   have h3 := (htl x h z (hUa z hz)).1
   rw [h2 z (by simp [hz])] at h3; cases h3
 refine ⟨hxU, ?_, without_app U tl x.i fun y hy => (htl y hy x (hUa x hxU)).2⟩
 simp only [ready, List.all_eq_true]
 exact fun z hz => by rw [h2 z (by simp [hz])]; rfl
theorem ev_runT {all tl : List It} {Kf Kt : En → St → Prop} (hi : okI 0 all = true) (hd : okD all = true) (hn : okN all = true) (htl : ∀ y ∈ tl, ∀ x ∈ all, bit y.ds x.i = true ∧ y.i ≠ x.i) (hK : ∀ e e' L, sub e e' → Kf e L → Rx P N tl [] (fun _ => True) e' Kt L) :
  ∀ (n : Nat) (rem : List It) (ms : List (Nat × (St → Prop))) (e : En) (L : St), Ev P N Kf rem ms e L → ∀ (T : List (It × Value)) (U : List It) (e' : En), U.length = n → (∀ x ∈ U, x ∈ all) → (∀ x, x ∈ U ↔ (∃ v, (x, v) ∈ T) ∨ x ∈ rem) →
   (∀ p ∈ T, p.1 ∉ rem) → (∀ p ∈ T, Told P N ms e L p) → (∀ y ∈ rem, ∀ d, y.g.d = some d → e.get d = none) →
   (∀ t u, e.get t = some u → (∀ p ∈ T, p.1.g.d ≠ some t) → e'.get t = some u) → Rx P N (U ++ tl) [] (fun _ => True) e' Kt L := by
 intro n
 induction n using Nat.strongRecOn with
 | _ n ihn =>
   have inj : ∀ x ∈ all, ∀ y ∈ all, x.i = y.i → x = y := fun x hx y hy h => (okI_inj hi x hx).2 y hy h
   -- one of those that were told comes
   have come : ∀ (rem : List It) (ms : List (Nat × (St → Prop))) (e : En) (L : St), Ev P N Kf rem ms e L → ∀ (T : List (It × Value)) (U : List It) (e' : En), U.length = n → (∀ x ∈ U, x ∈ all) → (∀ x, x ∈ U ↔ (∃ v, (x, v) ∈ T) ∨ x ∈ rem) →
     (∀ p ∈ T, p.1 ∉ rem) → (∀ p ∈ T, Told P N ms e L p) → (∀ y ∈ rem, ∀ d, y.g.d = some d → e.get d = none) → (∀ t u, e.get t = some u → (∀ p ∈ T, p.1.g.d ≠ some t) → e'.get t = some u) →
     ∀ x v, (x, v) ∈ T → ready x U = true → Sx P N [x.g] e' (fun e' L' => True ∧ Rx P N (without U x.i ++ tl) [] (fun _ => True) e' Kt L') L := by
    intro rem ms e L hev T U e' hU hUa hUm hTr hT hfr he x v hxv hrd
    have hxU : x ∈ U := (hUm x).2 (.inl ⟨v, hxv⟩)
    have hrd' : ∀ y ∈ U, bit x.ds y.i = false := by simpa [ready] using hrd
    have hto := hT _ hxv
    have hfacts : ∀ t ∈ x.rs, ∀ u, e.get t = some u → e'.get t = some u := by
     intro t ht u hu
     refine he t u hu fun p hp hpd => ?_
     have hpU : p.1 ∈ U := (hUm p.1).2 (.inl ⟨p.2, hp⟩)
     simp only [okD, List.all_eq_true, Bool.or_eq_true] at hd
     rcases hd x (hUa x hxU) p.1 (hUa _ hpU) with h | h
     ·exact dOK_iff h t hpd ht
     ·rw [hrd' _ hpU] at h; cases h
    have hS : Sc P N x.g e' v L := by
     rcases hto.hs with h | ⟨Φ, _, hΦ, h⟩
     ·exact h L e' hfacts
     ·exact h L hΦ e' hfacts
    refine hS _ ⟨trivial, ?_⟩
    have hlt := without_lt hxU
    refine ihn (without U x.i).length (by omega) rem ms e L hev (T.filter fun p => !(Nat.beq p.1.i x.i)) (without U x.i) _ rfl (fun y hy => hUa y (mem_without.1 hy).1) (fun y => ?_) (fun p hp => hTr p ((List.mem_filter.1 hp).1)) (fun p hp => hT p ((List.mem_filter.1 hp).1)) hfr fun t u ht hw => ?_
    ·rw [mem_without, hUm]
     constructor
     ·rintro ⟨⟨w, hw⟩ | h, hne⟩
      ·refine .inl ⟨w, List.mem_filter.2 ⟨hw, ?_⟩⟩
       cases hb : Nat.beq y.i x.i with
       | false => rfl
       | true => exact absurd (Nat.eq_of_beq_eq_true hb) hne
      ·exact .inr h
     ·rintro (⟨w, hw⟩ | h)
      ·obtain ⟨h1, h2⟩ := List.mem_filter.1 hw
       exact ⟨.inl ⟨w, h1⟩, fun hh => by simp [hh] at h2⟩
      ·refine ⟨.inr h, fun hh => ?_⟩
       have hyx := inj y (hUa y ((hUm y).2 (.inr h))) x (hUa x hxU) hh
       subst hyx
       exact hTr _ hxv h
    ·by_cases hxt : x.g.d = some t
     ·have h1 := hto.hv t hxt
      rw [ht] at h1
      rw [hxt, put_eq]; exact h1.symm
     ·rw [put_ne hxt]
      refine he t u ht fun p hp hpd => ?_
      by_cases hpx : p.1.i = x.i
      ·have := inj p.1 (hUa _ ((hUm p.1).2 (.inl ⟨p.2, hp⟩))) x (hUa x hxU) hpx
       rw [this] at hpd; exact hxt hpd
      ·refine hw p (List.mem_filter.2 ⟨hp, ?_⟩) hpd
       cases hb : Nat.beq p.1.i x.i with
       | false => rfl
       | true => exact absurd (Nat.eq_of_beq_eq_true hb) hpx
   -- telling one more
   have tell : ∀ {rem : List It} {ms ms' : List (Nat × (St → Prop))} {e : En} {L : St} {x : It} {v : Value} {T : List (It × Value)} {U : List It} {e' : En}, x ∈ rem → (∀ x ∈ U, x ∈ all) → (∀ x, x ∈ U ↔ (∃ v, (x, v) ∈ T) ∨ x ∈ rem) → (∀ p ∈ T, p.1 ∉ rem) →
     (∀ p ∈ T, Told P N ms e L p) → (∀ y ∈ rem, ∀ d, y.g.d = some d → e.get d = none) → (∀ q ∈ ms, q ∈ ms') →
     (∀ p ∈ T, Told P N ms' (e.put x.g.d v) L p) ∧ (∀ y ∈ without rem x.i, ∀ d, y.g.d = some d → (e.put x.g.d v).get d = none) := by
    intro rem ms ms' e L x v T U e' hx hUa hUm hTr hT hfr hms
    have hxa := hUa x ((hUm x).2 (.inr hx))
    refine ⟨fun p hp => ?_, fun y hy d hyd => ?_⟩
    ·have hpa := hUa p.1 ((hUm p.1).2 (.inl ⟨p.2, hp⟩))
     have hpx : p.1 ≠ x := fun h => hTr p hp (by rw [h]; exact hx)
     have hto := hT p hp
     have hst : ∀ e' : En, (∀ t ∈ p.1.rs, ∀ u, (e.put x.g.d v).get t = some u → e'.get t = some u) → ∀ t ∈ p.1.rs, ∀ u, e.get t = some u → e'.get t = some u := by
      intro e' h t ht u hu
      refine h t ht u ?_
      rw [put_ne (fun hxt => by rw [hfr x hx t hxt] at hu; cases hu)]
      exact hu
     refine ⟨fun d hpd => ?_, ?_⟩
     ·rw [put_ne (fun hxd => hpx (okN_iff hn p.1 hpa x hxa d hpd hxd))]
      exact hto.hv d hpd
     ·rcases hto.hs with h | ⟨Φ, h1, hΦ, h⟩
      ·exact .inl fun L e' he => h L e' (hst e' he)
      ·exact .inr ⟨Φ, hms _ h1, hΦ, fun M hM e' he => h M hM e' (hst e' he)⟩
    ·obtain ⟨hy1, hy2⟩ := mem_without.1 hy
     rw [put_ne (fun hxd => hy2 (by rw [okN_iff hn y (hUa y ((hUm y).2 (.inr hy1))) x hxa d hyd hxd]))]
     exact hfr y hy1 d hyd
   intro rem ms e L hev
   induction hev with
   | @nil ms e L hk =>
     intro T U e' hU hUa hUm hTr hT hfr he
     by_cases hU0 : U = []
     ·subst hU0
      refine hK e e' L (fun t u ht => he t u ht fun p hp => ?_) hk
      have : p.1 ∈ ([] : List It) := (hUm p.1).2 (.inl ⟨p.2, hp⟩)
      cases this
     ·refine Rx.all (fun h0 => absurd (List.append_eq_nil_iff.1 h0).1 hU0) fun x hx => ⟨by simp, ?_⟩
      obtain ⟨hx1, hx2, hx3⟩ := split_ready htl hUa hU0 hx
      rw [hx3]
      rcases (hUm x).1 hx1 with ⟨v, hv⟩ | h
      ·exact come [] ms e L (.nil hk) T U e' hU hUa hUm hTr hT hfr he x v hv hx2
      ·cases h
   | @free rem ms e L x hx v h k ih =>
     intro T U e' hU hUa hUm hTr hT hfr he
     obtain ⟨t1, t2⟩ := tell (v := v) (e' := e') hx hUa hUm hTr hT hfr (fun _ h => h)
     refine ih ((x, v) :: T) U e' hU hUa (fun y => ?_) (fun p hp => ?_) (fun p hp => ?_) t2 fun t u ht hw => ?_
     ·rw [hUm]
      constructor
      ·rintro (⟨w, hw⟩ | hy)
       ·exact .inl ⟨w, List.mem_cons_of_mem _ hw⟩
       ·by_cases hyx : y = x
        ·exact .inl ⟨v, by rw [hyx]; simp⟩
        ·exact .inr (mem_without.2 ⟨hy, fun hh => hyx (inj y (hUa y ((hUm y).2 (.inr hy))) x (hUa x ((hUm x).2 (.inr hx))) hh)⟩)
      ·rintro (⟨w, hw⟩ | hy)
       ·rcases List.mem_cons.1 hw with h1 | h1
        ·cases h1; exact .inr hx
        ·exact .inl ⟨w, h1⟩
       ·exact .inr (mem_without.1 hy).1
     ·rcases List.mem_cons.1 hp with rfl | h1
      ·exact fun hh => (mem_without.1 hh).2 rfl
      ·exact fun hh => hTr p h1 (mem_without.1 hh).1
     ·rcases List.mem_cons.1 hp with rfl | h1
      ·refine ⟨fun d hd => by rw [show x.g.d = some d from hd]; exact put_eq, .inl fun L e2 h2 => h L e2 fun t u ht => ?_⟩
       obtain ⟨htr, hu⟩ := only_get ht
       refine h2 t htr u ?_
       rw [put_ne (fun hxt => by rw [hfr x hx t hxt] at hu; cases hu)]
       exact hu
      ·exact t1 p h1
     ·have hxt : x.g.d ≠ some t := hw (x, v) (by simp)
      rw [put_ne hxt] at ht
      exact he t u ht fun p hp => hw p (List.mem_cons_of_mem _ hp)
   | @looks rem ms e L x hx v Φ hΦ h k ih =>
     intro T U e' hU hUa hUm hTr hT hfr he
     obtain ⟨t1, t2⟩ := tell (v := v) (e' := e') hx hUa hUm hTr hT hfr (fun _ h => List.mem_cons_of_mem (x.i, Φ) h)
     refine ih ((x, v) :: T) U e' hU hUa (fun y => ?_) (fun p hp => ?_) (fun p hp => ?_) t2 fun t u ht hw => ?_
     ·rw [hUm]
      constructor
      ·rintro (⟨w, hw⟩ | hy)
       ·exact .inl ⟨w, List.mem_cons_of_mem _ hw⟩
       ·by_cases hyx : y = x
        ·exact .inl ⟨v, by rw [hyx]; simp⟩
        ·exact .inr (mem_without.2 ⟨hy, fun hh => hyx (inj y (hUa y ((hUm y).2 (.inr hy))) x (hUa x ((hUm x).2 (.inr hx))) hh)⟩)
      ·rintro (⟨w, hw⟩ | hy)
       ·rcases List.mem_cons.1 hw with h1 | h1
        ·cases h1; exact .inr hx
        ·exact .inl ⟨w, h1⟩
       ·exact .inr (mem_without.1 hy).1
     ·rcases List.mem_cons.1 hp with rfl | h1
      ·exact fun hh => (mem_without.1 hh).2 rfl
      ·exact fun hh => hTr p h1 (mem_without.1 hh).1
     ·rcases List.mem_cons.1 hp with rfl | h1
      ·refine ⟨fun d hd => by rw [show x.g.d = some d from hd]; exact put_eq, .inr ⟨Φ, by simp, hΦ, fun M hM e2 h2 => h M hM e2 fun t u ht => ?_⟩⟩
       obtain ⟨htr, hu⟩ := only_get ht
       refine h2 t htr u ?_
       rw [put_ne (fun hxt => by rw [hfr x hx t hxt] at hu; cases hu)]
       exact hu
      ·exact t1 p h1
     ·have hxt : x.g.d ≠ some t := hw (x, v) (by simp)
      rw [put_ne hxt] at ht
      exact he t u ht fun p hp => hw p (List.mem_cons_of_mem _ hp)
   | @turns rem ms e L x hx R h1 h2 h k ih =>
     intro T U e' hU hUa hUm hTr hT hfr he
     have hxU : x ∈ U := (hUm x).2 (.inr hx)
     have hU0 : U ≠ [] := fun h0 => by rw [h0] at hxU; cases hxU
     refine Rx.all (fun h0 => absurd (List.append_eq_nil_iff.1 h0).1 hU0) fun y hy => ⟨by simp, ?_⟩
     obtain ⟨hyA, hyB, hyC⟩ := split_ready htl hUa hU0 hy
     rw [hyC]
     have hy1 : y ∈ U ∧ ready y U = true := ⟨hyA, hyB⟩
     have hrd : ∀ z ∈ U, bit y.ds z.i = false := by simpa [ready] using hy1.2
     rcases (hUm y).1 hy1.1 with ⟨v, hv⟩ | hyr
     ·exact come rem ms e L (.turns x hx R h1 h2 h k) T U e' hU hUa hUm hTr hT hfr he y v hv hy1.2
     ·by_cases hyx : y = x
      ·subst hyx
       have hpure : ∀ p ∈ T, ∀ Φ, (p.1.i, Φ) ∈ ms → ∀ v L', R v L' → Φ L' := by
        intro p hp Φ hm
        rcases h2 _ hm with hb | hb
        ·have hpU : p.1 ∈ U := (hUm p.1).2 (.inl ⟨p.2, hp⟩)
         rw [hrd _ hpU] at hb; cases hb
        ·exact hb
       have hsub : sub (e.only y.rs) e' := by
        intro t u ht
        obtain ⟨htr, hu⟩ := only_get ht
        refine he t u hu fun p hp hpd => ?_
        have hpU : p.1 ∈ U := (hUm p.1).2 (.inl ⟨p.2, hp⟩)
        simp only [okD, List.all_eq_true, Bool.or_eq_true] at hd
        rcases hd y (hUa y hxU) p.1 (hUa _ hpU) with hh | hh
        ·exact dOK_iff hh t hpd htr
        ·rw [hrd _ hpU] at hh; cases hh
       refine h e' hsub _ fun v L' hR => ⟨trivial, ?_⟩
       have hlt := without_lt hxU
       obtain ⟨t1, t2⟩ := tell (v := v) (e' := e') hx hUa hUm hTr hT hfr (fun _ h => h)
       refine ihn (without U y.i).length (by omega) (without rem y.i) ms _ L' (k v L' hR) T (without U y.i) _ rfl (fun z hz => hUa z (mem_without.1 hz).1) (fun z => ?_) (fun p hp hh => hTr p hp (mem_without.1 hh).1) (fun p hp => ?_) t2 fun t u ht hw => ?_
       ·rw [mem_without, mem_without, hUm]
        constructor
        ·rintro ⟨⟨w, hw⟩ | hz, hne⟩
         ·exact .inl ⟨w, hw⟩
         ·exact .inr ⟨hz, hne⟩
        ·rintro (⟨w, hw⟩ | ⟨hz, hne⟩)
         ·refine ⟨.inl ⟨w, hw⟩, fun hh => ?_⟩
          have := inj z (hUa z ((hUm z).2 (.inl ⟨w, hw⟩))) y (hUa y hxU) hh
          subst this
          exact hTr _ hw hx
         ·exact ⟨.inr hz, hne⟩
       ·have hto := t1 p hp
        refine ⟨hto.hv, ?_⟩
        rcases hto.hs with hh | ⟨Φ, hm, _, hh⟩
        ·exact .inl hh
        ·exact .inr ⟨Φ, hm, hpure p hp Φ hm v L' hR, hh⟩
       ·by_cases hyt : y.g.d = some t
        ·rw [hyt] at ht ⊢
         rw [put_eq] at ht ⊢; exact ht
        ·rw [put_ne hyt] at ht ⊢
         exact he t u ht hw
      ·have hb := List.all_eq_true.1 h1 y (mem_without.2 ⟨hyr, fun hh => hyx (inj y (hUa y hy1.1) x (hUa x hxU) hh)⟩)
       rw [hrd x hxU] at hb; cases hb
theorem ev_run {all : List It} {Kf : En → St → Prop} (hi : okI 0 all = true) (hd : okD all = true) (hn : okN all = true) (hK : ∀ e e' L, sub e e' → Kf e L → Kf e' L) :
  ∀ (n : Nat) (rem : List It) (ms : List (Nat × (St → Prop))) (e : En) (L : St), Ev P N Kf rem ms e L → ∀ (T : List (It × Value)) (U : List It) (e' : En), U.length = n → (∀ x ∈ U, x ∈ all) → (∀ x, x ∈ U ↔ (∃ v, (x, v) ∈ T) ∨ x ∈ rem) →
   (∀ p ∈ T, p.1 ∉ rem) → (∀ p ∈ T, Told P N ms e L p) → (∀ y ∈ rem, ∀ d, y.g.d = some d → e.get d = none) →
   (∀ t u, e.get t = some u → (∀ p ∈ T, p.1.g.d ≠ some t) → e'.get t = some u) → Rx P N U [] (fun _ => True) e' Kf L := by
 intro n rem ms e L h T U e' h1 h2 h3 h4 h5 h6 h7
 have := ev_runT (tl := []) (Kt := Kf) hi hd hn (fun y hy => by cases hy) (fun e e' L hs hk => Rx.all (fun _ => hK e e' L hs hk) fun x hx => by simp [readies] at hx) n rem ms e L h T U e' h1 h2 h3 h4 h5 h6 h7
 rwa [List.append_nil] at this
def En.clear (e : En) (l : List It) : En := e.filter fun p => l.all fun y => match y.g.d with | some d => !(Nat.beq d p.1) | none => true
theorem clear_get {l : List It} : ∀ {e : En} {t : Nat} {u : Value}, (e.clear l).get t = some u → (∀ y ∈ l, y.g.d ≠ some t) ∧ (e.get t = some u ∨ ∃ w, e.get t = some w)
 | [], t, u, h => by simp [En.clear, En.get] at h
 | (i, v) :: e, t, u, h => by
   unfold En.clear at h
   rw [List.filter_cons] at h
   split at h
   ·rename_i hk
    simp only [En.get] at h ⊢
    cases hb : Nat.beq i t with
    | true =>
      rw [hb, cond_true] at h
      have hit := Nat.eq_of_beq_eq_true hb
      subst hit
      refine ⟨fun y hy hyd => ?_, .inl h⟩
      have := List.all_eq_true.1 hk y hy
      rw [hyd] at this
      simp at this
    | false =>
      rw [hb, cond_false] at h
      simpa using clear_get (e := e) h
   ·simp only [En.get]
    have h1 := clear_get (e := e) h
    refine ⟨h1.1, ?_⟩
    cases hb : Nat.beq i t with
    | true => exact .inr ⟨v, rfl⟩
    | false => simpa using h1.2
theorem clear_sub {l : List It} : ∀ {e : En} {t : Nat} {u : Value}, (e.clear l).get t = some u → e.get t = some u
 | [], t, u, h => by simp [En.clear, En.get] at h
 | (i, v) :: e, t, u, h => by
   have hno := (clear_get h).1
   unfold En.clear at h
   rw [List.filter_cons] at h
   split at h
   ·simp only [En.get] at h ⊢
    cases hb : Nat.beq i t with
    | true => rw [hb, cond_true] at h; rw [cond_true]; exact h
    | false => rw [hb, cond_false] at h; rw [cond_false]; exact clear_sub (e := e) h
   ·rename_i hk
    have h1 := clear_sub (e := e) h
    simp only [En.get]
    cases hb : Nat.beq i t with
    | false => exact h1
    | true =>
      exfalso
      have hit := Nat.eq_of_beq_eq_true hb
      subst hit
      refine hk (List.all_eq_true.2 fun y hy => ?_)
      cases hyd : y.g.d with
      | none => rfl
      | some d =>
        simp only [Bool.not_eq_true']
        cases hb2 : Nat.beq d i with
        | false => rfl
        | true => exact absurd (by rw [hyd, Nat.eq_of_beq_eq_true hb2]) (hno y hy)
def chkO (l : List It) : Bool := okI 0 l && (okD l && okN l)
theorem Cx.ord {l : List It} {e : En} {d : C} {K : Kx} (hc : chkO l = true) (h : Ev P N (fun fin L => Cx P N d fin K L) l [] (e.clear l) L) : Cx P N (.rd l) e (Ksq P N d K) L := by
 simp only [chkO, Bool.and_eq_true] at hc
 refine Cx.rd ?_
 refine ev_run (Kf := Krg (Ksq P N d K)) hc.1 hc.2.1 hc.2.2 (fun e e' L hs hk => Cx.less hs hk) l.length l [] (e.clear l) L h [] l e rfl (fun _ h => h) (fun x => by simp) (fun _ h => by cases h) (fun _ h => by cases h) (fun y hy d hyd => ?_) (fun t u ht _ => clear_sub ht)
 cases hg : (e.clear l).get d with
 | none => rfl
 | some u => exact absurd hyd ((clear_get hg).1 y hy)
section
variable {Kf : En → St → Prop} {e : En} {rem rem' : List It} {ms : List (Nat × (St → Prop))} {i ds : Nat} {rs : List Nat} {d : Option Nat} {g : Option (Nat × Bool)}
theorem Sc_step {x : It} {v : Value} (h : stepM x e = some v) : ∀ L e', sub (e.only x.rs) e' → Sc P N x.g e' v L := by
 intro L e' hs
 obtain ⟨i, ds, rs, d, g, s⟩ := x
 unfold stepM at h
 simp only at h hs
 cases hg : gon (e.only rs) g with
 | true =>
   rw [hg, cond_true] at h
   cases hp : plainP s with
   | false => rw [hp] at h; cases h
   | true =>
     rw [hp, cond_true] at h
     split at h
     ·rename_i φ u hu
      cases h
      exact .gon hg hs (.pv hu (plainP_pv hp hu) hs)
     ·cases h
 | false =>
   rw [hg, cond_false] at h
   split at h
   ·rename_i t b
    cases hb : offs (e.only rs) t b with
    | true =>
      rw [hb, cond_true] at h; cases h
      refine fun K k => Sx.off (t := t) (b := b) ?_ (Sx.nil k)
      unfold offs at hb ⊢
      cases h1 : (e.only rs).get t with
      | none => rw [h1] at hb; simp at hb
      | some u => rw [hs _ _ h1]; rw [h1] at hb; exact hb
    | false => rw [hb] at h; cases h
   ·cases h
theorem Ev.done {c : C} {K : Kx} (h : Cx P N c e K L) : Ev P N (fun fin L => Cx P N c fin K L) [] ms e L := .nil h
theorem Ev.stp {x : It} {v : Value} (hx : x ∈ rem) (h : stepM x e = some v) (k : Ev P N Kf (without rem x.i) ms (e.put x.g.d v) L) : Ev P N Kf rem ms e L := .free x hx v (Sc_step h) k
def scanE : Nat → Nat → List It → En → Option (List It × En)
 | 0, _, _, _ => none
 | n + 1, j, rem, e => match rem[j]? with
   | some x => match stepM x e with
     | some v => match scanE n j (without rem x.i) (e.put x.g.d v) with
       | some q => some q
       | none => some (without rem x.i, e.put x.g.d v)
     | none => scanE n (j + 1) rem e
   | none => none
theorem Ev.pvs : ∀ {n j : Nat} {rem rem' : List It} {e e' : En}, scanE n j rem e = some (rem', e') → Ev P N Kf rem' ms e' L → Ev P N Kf rem ms e L
 | 0, _, _, _, _, _, h, _ => by cases h
 | n + 1, j, rem, rem', e, e', h, k => by
   simp only [scanE] at h
   split at h
   ·rename_i x hx
    split at h
    ·rename_i v hv
     split at h
     ·rename_i q hq
      cases h
      exact Ev.stp (List.mem_of_getElem? hx) hv (Ev.pvs hq k)
     ·cases h
      exact Ev.stp (List.mem_of_getElem? hx) hv k
    ·exact Ev.pvs h k
   ·cases h
end
end
end Go.Proofs.YtggnbdeokmdjbaaGreat


namespace Go.Proofs.YtggnbdeokmdjbaaGreat
open Go
set_option maxRecDepth 100000
def c3 : Fu := ⟨68, [.t 4], (.sq (.rg [kG 4 (.mv (.c (.bool false)))]) (.sq (.rg [kG 10 (.ca 6 []),
  kM 5 10]) (.sq (.sq (.rg [kM 11 5,
  kG 12 (.nt (.t 11))]) (.cd (.t 12) (.sq (.rg [kG 4 (.mv (.c (.bool false)))]) .rt) .sk)) (.sq (.sq (.rg [kM 13 1,
  kG 14 (.len (.t 13)),
  kG 15 (.ib .gtr (.t 14) (.c (.int .i64 120)))]) (.cd (.t 15) (.sq (.rg [kM 16 5,
  kM 4 16]) .rt) .sk)) (.sq (.rg [kM 17 0,
  kG 18 (.ca 7 [.t 17]),
  kG 6 (.al 25 [.int .i64 0, .int .i64 0, .int .i64 0, .int .i64 0, .int .i64 0, .int .i64 0]),
  kS (.st (.t 6) (.t 18) 6)]) (.sq (.rg [kG 19 (.ld (.t 6) 6 true),
  kG 20 (.ca 8 [.t 19, (.c (.int .i64 3))]),
  kM 7 20]) (.sq (.sq (.rg [kM 21 7,
  kG 22 (.en 0 false (.t 21) (.c (.pointer none)))]) (.cd (.t 22) (.sq (.rg [kG 4 (.mv (.c (.bool false)))]) .rt) .sk)) (.sq (.rg [kG 23 (.bd [(.pointer none), (.pointer none), (.pointer none), (.pointer none), (.pointer none), (.pointer none), (.pointer none), (.pointer none), (.pointer none), (.pointer none), (.pointer none), (.pointer none), (.slice none 0 0), (.slice none 0 0), (.slice none 0 0), .int .i64 0, .int .i64 0, .int .i64 0] []),
  kG 24 (.bx 41 (.t 23)),
  kM 8 24]) (.sq (.sq (.rg [kG 9 (.mv (.c (.int .i64 0)))]) (.bl 0 (.lp (.sq (.sq (.rg [kM 25 9,
  kM 26 1,
  kG 27 (.len (.t 26)),
  kG 28 (.ib .lss (.t 25) (.t 27))]) (.cd (.t 28) .sk (.ex 0))) (.sq (.bl 1 (.sq (.rd [⟨0, 0, [8], kM 31 8⟩, ⟨1, 0, [7], kM 32 7⟩, ⟨2, 0, [1], kM 33 1⟩, ⟨3, 0, [9], kM 34 9⟩, ⟨4, 12, [33, 34], kG 35 (.ia (.t 33) (.t 34) 1)⟩, ⟨5, 28, [35], kL 36 35⟩, ⟨6, 60, [36], kG 37 (.ca 10 [.t 36, (.c (.int .i64 3))])⟩, ⟨7, 0, [1], kM 38 1⟩, ⟨8, 0, [9], kM 39 9⟩, ⟨9, 384, [38, 39], kG 40 (.ia (.t 38) (.t 39) 1)⟩, ⟨10, 896, [40], kL 41 40⟩, ⟨11, 1920, [41], kG 42 (.ib .quo (.t 41) (.c (.int .i64 3)))⟩, ⟨12, 4092, [42], kG 43 (.ca 10 [.t 42, (.c (.int .i64 280))])⟩, ⟨13, 8191, [31, 32, 37, 43], kG 44 (.ca 9 [.t 31, .t 32, .t 37, .t 43])⟩, ⟨14, 16383, [44], kG 45 (.nt (.t 44))⟩, ⟨15, 32767, [45], kM 46 45⟩, ⟨16, 65535, [7, 46], kH 47 46 false (.mv (.t 7))⟩, ⟨17, 131071, [47, 46], kH 48 46 false (.ca 11 [.t 47])⟩, ⟨18, 262143, [48, 46], kH 49 46 false (.nt (.t 48))⟩, ⟨19, 524287, [46, 49], kG 50 (.pk (.t 46) (.c (.bool true)) (.t 49))⟩]) (.cd (.t 50) (.sq (.rg [kG 4 (.mv (.c (.bool false)))]) .rt) .sk))) (.rg [kM 29 9,
  kG 30 (.ib .add (.t 29) (.c (.int .i64 1))),
  kM 9 30])))))) (.sq (.rd [⟨0, 0, [5], kM 51 5⟩, ⟨1, 1, [51], kM 52 51⟩, ⟨2, 3, [7, 52], kH 53 52 true (.mv (.t 7))⟩, ⟨3, 7, [53, 52], kH 54 52 true (.nc (.t 53))⟩, ⟨4, 15, [54, 52], kH 55 52 true (.fa (.t 54) 1)⟩, ⟨5, 31, [55, 52], kH 56 52 true (.ld (.t 55) 1 false)⟩, ⟨6, 63, [56, 52], kH 57 52 true (.ca 13 [.t 56])⟩, ⟨7, 3, [7, 52], kH 58 52 true (.mv (.t 7))⟩, ⟨8, 131, [58, 52], kH 59 52 true (.nc (.t 58))⟩, ⟨9, 387, [59, 52], kH 60 52 true (.fa (.t 59) 3)⟩, ⟨10, 899, [60, 52], kH 61 52 true (.ld (.t 60) 1 false)⟩, ⟨11, 1923, [61, 52], kH 62 52 true (.nc (.t 61))⟩, ⟨12, 3971, [62, 52], kH 63 52 true (.fa (.t 62) 7)⟩, ⟨13, 8067, [63, 52], kH 64 52 true (.ld (.t 63) 1 false)⟩, ⟨14, 16383, [64, 52], kH 65 52 true (.ca 14 [.t 64])⟩, ⟨15, 32767, [57, 65, 52], kH 66 52 true (.ca 12 [.t 57, .t 65])⟩, ⟨16, 65535, [52, 66], kG 67 (.pk (.t 52) (.t 66) (.c (.bool false)))⟩, ⟨17, 131071, [67], kM 4 67⟩]) .rt))))))))))⟩
theorem k3 : cF Tryz.prog Tryz.f3 = some c3 := by kernel_rfl
def c6 : Fu := ⟨70, [.t 0], (.sq (.rg [kG 0 (.mv (.c (.bool false)))]) (.sq (.rg [kG 10 (.ca 53 [(.c (.int .i64 100))]),
  kM 9 10,
  kG 11 (.ex (.t 9) 0),
  kG 12 (.ex (.t 9) 1),
  kM 1 11,
  kM 2 12]) (.sq (.rg [kG 13 (.bd [.int .i64 0, .int .i64 0, .int .i64 0, .int .i64 0, .int .i64 0, .int .i64 0] [(0, 1, (.c (.int .i64 1))), (1, 1, (.c (.int .i64 2))), (2, 1, (.c (.int .i64 8))), (3, 1, (.c (.int .i64 1))), (5, 1, (.c (.int .i64 1)))]),
  kG 3 (.al 25 [.int .i64 0, .int .i64 0, .int .i64 0, .int .i64 0, .int .i64 0, .int .i64 0]),
  kS (.st (.t 3) (.t 13) 6)]) (.sq (.sq (.rg [kM 14 1,
  kG 15 (.en 0 false (.t 14) (.c (.pointer none))),
  kM 16 15,
  kH 17 16 false (.mv (.t 2)),
  kH 18 16 false (.ib .neq (.t 17) (.c (.int .i64 0))),
  kG 19 (.pk (.t 16) (.c (.bool true)) (.t 18))]) (.cd (.t 19) (.sq (.rg [kG 0 (.mv (.c (.bool false)))]) .rt) .sk)) (.sq (.rg [kM 21 1,
  kG 22 (.ld (.t 3) 6 true),
  kG 23 (.ca 54 [.t 21, .t 22]),
  kM 20 23,
  kG 24 (.ex (.t 20) 0),
  kG 25 (.ex (.t 20) 1),
  kM 4 24,
  kM 5 25]) (.sq (.sq (.rg [kM 26 4,
  kG 27 (.en 0 false (.t 26) (.c (.pointer none))),
  kM 28 27,
  kH 29 28 false (.mv (.t 5)),
  kH 30 28 false (.ib .neq (.t 29) (.c (.int .i64 0))),
  kG 31 (.pk (.t 28) (.c (.bool true)) (.t 30))]) (.cd (.t 31) (.sq (.rg [kG 0 (.mv (.c (.bool false)))]) .rt) .sk)) (.sq (.rg [kM 32 4,
  kG 33 (.ca 55 [.t 32]),
  kM 6 33]) (.sq (.sq (.rg [kM 34 6,
  kG 35 (.en 0 false (.t 34) (.c (.pointer none))),
  kM 36 35,
  kH 37 36 false (.mv (.t 6)),
  kH 38 36 false (.ca 56 [.t 37]),
  kG 39 (.pk (.t 36) (.c (.bool true)) (.t 38)),
  kM 40 39,
  kH 41 40 false (.mv (.t 6)),
  kH 42 40 false (.ca 57 [.t 41]),
  kH 43 40 false (.nt (.t 42)),
  kG 44 (.pk (.t 40) (.c (.bool true)) (.t 43))]) (.cd (.t 44) (.sq (.rg [kG 0 (.mv (.c (.bool false)))]) .rt) .sk)) (.sq (.rg [kM 46 6,
  kG 47 (.ca 58 [.t 46]),
  kM 45 47,
  kG 48 (.ex (.t 45) 0),
  kG 49 (.ex (.t 45) 1),
  kM 7 48,
  kM 8 49]) (.sq (.rg [kM 50 6,
  kG 51 (.ca 56 [.t 50]),
  kM 52 51,
  kH 53 52 true (.mv (.t 7)),
  kH 54 52 true (.ib .eql (.t 53) (.c (.int .i64 0))),
  kG 55 (.pk (.t 52) (.t 54) (.c (.bool false))),
  kM 56 55,
  kH 57 56 true (.mv (.t 8)),
  kH 58 56 true (.nt (.t 57)),
  kG 59 (.pk (.t 56) (.t 58) (.c (.bool false))),
  kM 60 59,
  kH 61 60 true (.mv (.t 6)),
  kH 62 60 true (.ca 59 [.t 61]),
  kH 63 60 true (.ib .eql (.t 62) (.c (.int .i64 (-1)))),
  kG 64 (.pk (.t 60) (.t 63) (.c (.bool false))),
  kM 65 64,
  kH 66 65 true (.mv (.t 1)),
  kH 67 65 true (.ca 60 [.t 66]),
  kH 68 65 true (.ib .eql (.t 67) (.c (.int .i64 1))),
  kG 69 (.pk (.t 65) (.t 68) (.c (.bool false))),
  kM 0 69]) .rt))))))))))⟩
theorem k6 : cF Tryz.prog Tryz.f6 = some c6 := by kernel_rfl
def c7 : Fu := ⟨43, [.c 2 6 true], (.sq (.rg [kG 2 (.al 25 [.int .i64 0, .int .i64 0, .int .i64 0, .int .i64 0, .int .i64 0, .int .i64 0])]) (.sq (.rg [kM 4 0,
  kG 5 (.ca 10 [.t 4, (.c (.int .i64 4))]),
  kM 6 0,
  kG 7 (.ib .quo (.t 6) (.c (.int .i64 4))),
  kG 8 (.ca 10 [.t 7, (.c (.int .i64 8))]),
  kM 9 0,
  kG 10 (.ib .quo (.t 9) (.c (.int .i64 32))),
  kG 11 (.ca 10 [.t 10, (.c (.int .i64 2))]),
  kM 12 0,
  kG 13 (.ib .quo (.t 12) (.c (.int .i64 64))),
  kG 14 (.ca 10 [.t 13, (.c (.int .i64 4))]),
  kM 15 0,
  kG 16 (.ib .quo (.t 15) (.c (.int .i64 256))),
  kG 17 (.ca 10 [.t 16, (.c (.int .i64 4))]),
  kM 18 0,
  kG 19 (.ib .quo (.t 18) (.c (.int .i64 1024))),
  kG 20 (.ca 10 [.t 19, (.c (.int .i64 3))]),
  kG 21 (.bs 3 6 [.int .i64 0, .int .i64 0, .int .i64 0, .int .i64 0, .int .i64 0, .int .i64 0] [(0, 1, (.t 5)), (1, 1, (.t 8)), (2, 1, (.t 11)), (3, 1, (.t 14)), (4, 1, (.t 17)), (5, 1, (.t 20))]),
  kG 22 (.bd [(.slice none 0 0), .int .i64 0] [(0, 1, (.t 21))]),
  kG 23 (.bx 127 (.t 22)),
  kM 3 23]) (.sq (.rg [kM 24 3,
  kG 25 (.ca 61 [.t 24, (.c (.int .i64 4))]),
  kG 26 (.ib .add (.c (.int .i64 1)) (.t 25)),
  kM 27 3,
  kG 28 (.ca 61 [.t 27, (.c (.int .i64 8))]),
  kG 29 (.ib .add (.c (.int .i64 1)) (.t 28)),
  kM 30 3,
  kG 31 (.ca 61 [.t 30, (.c (.int .i64 2))]),
  kG 32 (.ib .mul (.c (.int .i64 8)) (.t 31)),
  kG 33 (.ib .add (.c (.int .i64 8)) (.t 32)),
  kM 34 3,
  kG 35 (.ca 61 [.t 34, (.c (.int .i64 4))]),
  kG 36 (.ib .add (.c (.int .i64 1)) (.t 35)),
  kM 37 3,
  kG 38 (.ca 61 [.t 37, (.c (.int .i64 4))]),
  kM 39 3,
  kG 40 (.ca 61 [.t 39, (.c (.int .i64 3))]),
  kG 41 (.ib .add (.c (.int .i64 1)) (.t 40)),
  kG 42 (.bd [.int .i64 0, .int .i64 0, .int .i64 0, .int .i64 0, .int .i64 0, .int .i64 0] [(0, 1, (.t 26)), (1, 1, (.t 29)), (2, 1, (.t 33)), (3, 1, (.t 36)), (4, 1, (.t 38)), (5, 1, (.t 41))]),
  kS (.st (.t 2) (.t 42) 6)]) .rt)))⟩
theorem k7 : cF Tryz.prog Tryz.f7 = some c7 := by kernel_rfl
def c8 : Fu := ⟨125, [.t 4], (.sq (.rg [kG 2 (.bx 25 (.t 0)),
  kG 4 (.mv (.c (.pointer none)))]) (.sq (.rg [kG 15 (.ld (.t 2) 6 true),
  kG 16 (.ca 62 [.t 15]),
  kG 17 (.ca 53 [.t 16]),
  kM 14 17,
  kG 18 (.ex (.t 14) 0),
  kG 19 (.ex (.t 14) 1),
  kM 5 18,
  kM 6 19]) (.sq (.sq (.rg [kM 20 5,
  kG 21 (.en 0 false (.t 20) (.c (.pointer none))),
  kM 22 21,
  kH 23 22 false (.mv (.t 6)),
  kH 24 22 false (.ib .neq (.t 23) (.c (.int .i64 0))),
  kG 25 (.pk (.t 22) (.c (.bool true)) (.t 24))]) (.cd (.t 25) (.sq (.rg [kG 4 (.mv (.c (.pointer none)))]) .rt) .sk)) (.sq (.rg [kM 27 5,
  kG 28 (.ld (.t 2) 6 true),
  kG 29 (.ca 63 [.t 27, .t 28]),
  kM 26 29,
  kG 30 (.ex (.t 26) 0),
  kG 31 (.ex (.t 26) 1),
  kM 7 30,
  kM 8 31]) (.sq (.sq (.rg [kM 32 7,
  kG 33 (.en 0 false (.t 32) (.c (.pointer none))),
  kM 34 33,
  kH 35 34 false (.mv (.t 8)),
  kH 36 34 false (.ib .neq (.t 35) (.c (.int .i64 0))),
  kG 37 (.pk (.t 34) (.c (.bool true)) (.t 36)),
  kM 38 37,
  kH 39 38 false (.mv (.t 7)),
  kH 40 38 false (.ca 64 [.t 39]),
  kH 41 38 false (.en 0 false (.t 40) (.c (.pointer none))),
  kG 42 (.pk (.t 38) (.c (.bool true)) (.t 41))]) (.cd (.t 42) (.sq (.rg [kG 4 (.mv (.c (.pointer none)))]) .rt) .sk)) (.sq (.rg [kM 43 7,
  kG 44 (.ca 65 [.t 43])]) (.sq (.rd [⟨0, 0, [5], kM 45 5⟩, ⟨1, 0, [7], kM 46 7⟩, ⟨2, 2, [46], kG 47 (.ca 64 [.t 46])⟩, ⟨3, 0, [2], kG 48 (.ld (.t 2) 6 true)⟩, ⟨4, 14, [48], kG 49 (.ca 66 [.t 48])⟩, ⟨5, 31, [45, 47, 49], kG 50 (.bd [(.pointer none), (.pointer none), (.slice none 0 0), (.pointer none), (.slice none 0 0)] [(0, 1, (.t 45)), (1, 1, (.t 47)), (3, 1, (.t 49))])⟩, ⟨6, 63, [50], kG 51 (.bx 51 (.t 50))⟩, ⟨7, 127, [51], kM 9 51⟩]) (.sq (.sq (.rg [kG 10 (.mv (.c (.int .i64 0)))]) (.bl 0 (.lp (.sq (.sq (.rg [kM 52 10,
  kM 53 1,
  kG 54 (.ib .lss (.t 52) (.t 53))]) (.cd (.t 54) .sk (.ex 0))) (.sq (.bl 1 (.sq (.rg [kM 58 5,
  kG 59 (.ld (.t 2) 6 true),
  kG 60 (.ca 54 [.t 58, .t 59]),
  kM 57 60,
  kG 61 (.ex (.t 57) 0),
  kG 62 (.ex (.t 57) 1),
  kM 11 61,
  kM 12 62]) (.sq (.sq (.rg [kM 63 11,
  kG 64 (.en 0 false (.t 63) (.c (.pointer none))),
  kM 65 64,
  kH 66 65 false (.mv (.t 12)),
  kH 67 65 false (.ib .neq (.t 66) (.c (.int .i64 0))),
  kG 68 (.pk (.t 65) (.c (.bool true)) (.t 67))]) (.cd (.t 68) (.sq (.rg [kG 4 (.mv (.c (.pointer none)))]) .rt) .sk)) (.sq (.rg [kM 69 9,
  kM 70 9,
  kN 71 70,
  kF 72 71 2,
  kL 73 72,
  kM 74 11,
  kG 75 (.bs 74 1 [(.pointer none)] [(0, 1, (.t 74))]),
  kG 76 (.ap 47 74 1 8 [(.pointer none)] (.t 73) (.t 75)),
  kN 77 69,
  kF 78 77 2,
  kS (.st (.t 78) (.t 76) 1)]) (.rd [⟨0, 0, [9], kM 79 9⟩, ⟨1, 0, [9], kM 80 9⟩, ⟨2, 2, [80], kN 81 80⟩, ⟨3, 6, [81], kF 82 81 4⟩, ⟨4, 14, [82], kL 83 82⟩, ⟨5, 0, [9], kM 84 9⟩, ⟨6, 32, [84], kN 85 84⟩, ⟨7, 96, [85], kF 86 85 3⟩, ⟨8, 224, [86], kL 87 86⟩, ⟨9, 480, [87], kG 88 (.ca 67 [.t 87])⟩, ⟨10, 992, [88], kG 89 (.bs 69 1 [(.pointer none)] [(0, 1, (.t 88))])⟩, ⟨11, 2046, [83, 89], kG 90 (.ap 49 69 1 8 [(.pointer none)] (.t 83) (.t 89))⟩, ⟨12, 4095, [79], kN 91 79⟩, ⟨13, 8191, [91], kF 92 91 4⟩, ⟨14, 16383, [92, 90], kS (.st (.t 92) (.t 90) 1)⟩]))))) (.rg [kM 55 10,
  kG 56 (.ib .add (.t 55) (.c (.int .i64 1))),
  kM 10 56])))))) (.sq (.sq (.rg [kG 13 (.mv (.c (.int .i64 0)))]) (.bl 2 (.lp (.sq (.sq (.rg [kM 93 13,
  kF 94 2 3,
  kL 95 94,
  kG 96 (.ib .lss (.t 93) (.t 95))]) (.cd (.t 96) .sk (.ex 2))) (.sq (.bl 3 (.rd [⟨0, 0, [9], kM 99 9⟩, ⟨1, 1, [99], kN 100 99⟩, ⟨2, 3, [100], kF 101 100 3⟩, ⟨3, 7, [101], kL 102 101⟩, ⟨4, 15, [102], kN 103 102⟩, ⟨5, 31, [103], kF 104 103 6⟩, ⟨6, 63, [104], kL 105 104⟩, ⟨7, 127, [105], kN 106 105⟩, ⟨8, 255, [106], kF 107 106 0⟩, ⟨9, 511, [107], kL 108 107⟩, ⟨10, 0, [2], kG 109 (.ld (.t 2) 6 true)⟩, ⟨11, 0, [13], kM 110 13⟩, ⟨12, 3072, [109, 110], kG 111 (.ca 68 [.t 109, .t 110])⟩, ⟨13, 8191, [108, 111], kG 112 (.ia (.t 108) (.t 111) 1)⟩, ⟨14, 16383, [112], kS (.st (.t 112) (.c (.int .u64 0)) 1)⟩])) (.rg [kM 97 13,
  kG 98 (.ib .add (.t 97) (.c (.int .i64 1))),
  kM 13 98])))))) (.sq (.rg [kM 113 9,
  kN 114 113,
  kF 115 114 3,
  kL 116 115,
  kN 117 116,
  kF 118 117 6,
  kL 119 118,
  kN 120 119,
  kF 121 120 0,
  kL 122 121,
  kG 123 (.ia (.t 122) (.c (.int .i64 1)) 1),
  kS (.st (.t 123) (.c (.int .u64 0)) 1)]) (.sq (.rg [kM 124 9,
  kM 4 124]) .rt)))))))))))⟩
theorem k8 : cF Tryz.prog Tryz.f8 = some c8 := by kernel_rfl
def c9 : Fu := ⟨335, [.t 8], (.sq (.rg [kG 8 (.mv (.c (.bool false)))]) (.sq (.bl 0 (.sq (.rg [kM 19 0,
  kM 20 2,
  kN 21 19,
  kF 22 21 0,
  kG 23 (.iaa (.t 22) (.t 20) 3 1),
  kL 24 23,
  kG 25 (.en 0 true (.t 24) (.c (.pointer none))),
  kM 18 25]) (.cd (.t 18) (.sq (.rd [⟨0, 0, [0], kM 26 0⟩, ⟨1, 0, [2], kM 27 2⟩, ⟨2, 1, [26], kN 28 26⟩, ⟨3, 5, [28], kF 29 28 0⟩, ⟨4, 15, [29, 27], kG 30 (.iaa (.t 29) (.t 27) 3 1)⟩, ⟨5, 31, [30], kL 31 30⟩, ⟨6, 0, [0], kM 32 0⟩, ⟨7, 0, [2], kM 33 2⟩, ⟨8, 64, [32], kN 34 32⟩, ⟨9, 320, [34], kF 35 34 6⟩, ⟨10, 960, [35, 33], kG 36 (.iaa (.t 35) (.t 33) 3 1)⟩, ⟨11, 1984, [36], kL 37 36⟩, ⟨12, 63, [31], kM 9 31⟩, ⟨13, 8191, [37], kM 10 37⟩]) (.sq (.sq (.rg [kM 38 9,
  kG 39 (.ca 57 [.t 38]),
  kM 40 10,
  kG 41 (.ca 69 [.t 40]),
  kG 42 (.bb true (.t 39) (.t 41))]) (.cd (.t 42) (.sq (.rg [kG 8 (.mv (.c (.bool false)))]) .rt) .sk)) (.sq (.rg [kM 43 0,
  kM 44 2,
  kG 45 (.ca 70 [.t 43, .t 44]),
  kM 8 45]) .rt))) (.sq (.rg [kM 47 0,
  kM 48 2,
  kN 49 47,
  kF 50 49 3,
  kG 51 (.iaa (.t 50) (.t 48) 3 1),
  kL 52 51,
  kG 53 (.en 0 true (.t 52) (.c (.pointer none))),
  kM 46 53]) (.cd (.t 46) (.sq (.rd [⟨0, 0, [0], kM 54 0⟩, ⟨1, 0, [2], kM 55 2⟩, ⟨2, 1, [54], kN 56 54⟩, ⟨3, 5, [56], kF 57 56 3⟩, ⟨4, 15, [57, 55], kG 58 (.iaa (.t 57) (.t 55) 3 1)⟩, ⟨5, 31, [58], kL 59 58⟩, ⟨6, 0, [0], kM 60 0⟩, ⟨7, 0, [2], kM 61 2⟩, ⟨8, 64, [60], kN 62 60⟩, ⟨9, 320, [62], kF 63 62 9⟩, ⟨10, 960, [63, 61], kG 64 (.iaa (.t 63) (.t 61) 3 1)⟩, ⟨11, 1984, [64], kL 65 64⟩, ⟨12, 63, [59], kM 11 59⟩, ⟨13, 8191, [65], kM 12 65⟩]) (.sq (.sq (.rg [kM 66 11,
  kG 67 (.ca 71 [.t 66]),
  kM 68 12,
  kG 69 (.ca 72 [.t 68]),
  kG 70 (.bb true (.t 67) (.t 69))]) (.cd (.t 70) (.sq (.rg [kG 8 (.mv (.c (.bool false)))]) .rt) .sk)) (.sq (.rg [kM 71 0,
  kM 72 2,
  kG 73 (.ca 73 [.t 71, .t 72]),
  kM 8 73]) .rt))) .sk))))) (.sq (.rd [⟨0, 0, [1], kM 74 1⟩, ⟨1, 1, [74], kN 75 74⟩, ⟨2, 3, [75], kF 76 75 2⟩, ⟨3, 7, [76], kL 77 76⟩, ⟨4, 0, [2], kM 78 2⟩, ⟨5, 31, [77, 78], kG 79 (.ia (.t 77) (.t 78) 1)⟩, ⟨6, 63, [79], kL 80 79⟩, ⟨7, 0, [1], kM 81 1⟩, ⟨8, 128, [81], kN 82 81⟩, ⟨9, 384, [82], kF 83 82 4⟩, ⟨10, 896, [83], kL 84 83⟩, ⟨11, 0, [2], kM 85 2⟩, ⟨12, 3968, [84, 85], kG 86 (.ia (.t 84) (.t 85) 1)⟩, ⟨13, 8064, [86], kL 87 86⟩, ⟨14, 127, [80], kM 13 80⟩, ⟨15, 32767, [87], kM 14 87⟩]) (.sq (.sq (.rg [kM 88 3,
  kG 89 (.ib .rem (.t 88) (.c (.int .i64 7)))]) (.bl 1 (.sq (.sq (.rg [kG 153 (.ib .eql (.t 89) (.c (.int .i64 0))),
  kM 152 153]) (.cd (.t 152) .sk (.rg [kG 154 (.ib .eql (.t 89) (.c (.int .i64 1))),
  kM 152 154]))) (.cd (.t 152) (.sq (.rd [⟨0, 0, [0], kM 155 0⟩, ⟨1, 0, [2], kM 156 2⟩, ⟨2, 0, [0], kM 157 0⟩, ⟨3, 0, [2], kM 158 2⟩, ⟨4, 0, [13], kM 159 13⟩, ⟨5, 16, [159], kG 160 (.ca 55 [.t 159])⟩, ⟨6, 0, [14], kM 161 14⟩, ⟨7, 112, [161], kG 162 (.ca 74 [.t 161])⟩, ⟨8, 1, [155], kN 163 155⟩, ⟨9, 257, [163], kF 164 163 0⟩, ⟨10, 1011, [164, 156], kG 165 (.iaa (.t 164) (.t 156) 3 1)⟩, ⟨11, 2035, [165, 160], kS (.st (.t 165) (.t 160) 1)⟩, ⟨12, 4, [157], kN 166 157⟩, ⟨13, 4100, [166], kF 167 166 6⟩, ⟨14, 16383, [167, 158], kG 168 (.iaa (.t 167) (.t 158) 3 1)⟩, ⟨15, 32767, [168, 162], kS (.st (.t 168) (.t 162) 1)⟩]) (.sq (.rg [kM 169 0,
  kM 170 2,
  kN 171 169,
  kF 172 171 0,
  kG 173 (.iaa (.t 172) (.t 170) 3 1),
  kL 174 173,
  kG 175 (.en 0 true (.t 174) (.c (.pointer none))),
  kM 176 175,
  kH 177 176 true (.mv (.t 0)),
  kH 178 176 true (.mv (.t 2)),
  kH 179 176 true (.ca 70 [.t 177, .t 178]),
  kG 180 (.pk (.t 176) (.t 179) (.c (.bool false))),
  kM 8 180]) .rt)) (.sq (.rg [kG 182 (.ib .eql (.t 89) (.c (.int .i64 2))),
  kM 181 182]) (.cd (.t 181) (.sq (.rd [⟨0, 0, [0], kM 183 0⟩, ⟨1, 0, [2], kM 184 2⟩, ⟨2, 0, [0], kM 185 0⟩, ⟨3, 0, [2], kM 186 2⟩, ⟨4, 0, [13], kM 187 13⟩, ⟨5, 16, [187], kG 188 (.ca 75 [.t 187])⟩, ⟨6, 0, [14], kM 189 14⟩, ⟨7, 112, [189], kG 190 (.ca 76 [.t 189])⟩, ⟨8, 1, [183], kN 191 183⟩, ⟨9, 257, [191], kF 192 191 3⟩, ⟨10, 1011, [192, 184], kG 193 (.iaa (.t 192) (.t 184) 3 1)⟩, ⟨11, 2035, [193, 188], kS (.st (.t 193) (.t 188) 1)⟩, ⟨12, 4, [185], kN 194 185⟩, ⟨13, 4100, [194], kF 195 194 9⟩, ⟨14, 16383, [195, 186], kG 196 (.iaa (.t 195) (.t 186) 3 1)⟩, ⟨15, 32767, [196, 190], kS (.st (.t 196) (.t 190) 1)⟩]) (.sq (.rg [kM 197 0,
  kM 198 2,
  kN 199 197,
  kF 200 199 3,
  kG 201 (.iaa (.t 200) (.t 198) 3 1),
  kL 202 201,
  kG 203 (.en 0 true (.t 202) (.c (.pointer none))),
  kM 204 203,
  kH 205 204 true (.mv (.t 0)),
  kH 206 204 true (.mv (.t 2)),
  kH 207 204 true (.ca 73 [.t 205, .t 206]),
  kG 208 (.pk (.t 204) (.t 207) (.c (.bool false))),
  kM 8 208]) .rt)) (.sq (.rg [kG 210 (.ib .eql (.t 89) (.c (.int .i64 3))),
  kM 209 210]) (.cd (.t 209) (.sq (.rd [⟨0, 0, [0], kM 211 0⟩, ⟨1, 0, [2], kM 212 2⟩, ⟨2, 0, [0], kM 213 0⟩, ⟨3, 0, [2], kM 214 2⟩, ⟨4, 0, [13], kM 215 13⟩, ⟨5, 16, [215], kG 216 (.ca 77 [.t 215])⟩, ⟨6, 0, [14], kM 217 14⟩, ⟨7, 112, [217], kG 218 (.ca 78 [.t 217])⟩, ⟨8, 1, [211], kN 219 211⟩, ⟨9, 257, [219], kF 220 219 3⟩, ⟨10, 1011, [220, 212], kG 221 (.iaa (.t 220) (.t 212) 3 1)⟩, ⟨11, 2035, [221, 216], kS (.st (.t 221) (.t 216) 1)⟩, ⟨12, 4, [213], kN 222 213⟩, ⟨13, 4100, [222], kF 223 222 9⟩, ⟨14, 16383, [223, 214], kG 224 (.iaa (.t 223) (.t 214) 3 1)⟩, ⟨15, 32767, [224, 218], kS (.st (.t 224) (.t 218) 1)⟩]) (.sq (.rg [kM 225 0,
  kM 226 2,
  kN 227 225,
  kF 228 227 3,
  kG 229 (.iaa (.t 228) (.t 226) 3 1),
  kL 230 229,
  kG 231 (.en 0 true (.t 230) (.c (.pointer none))),
  kM 232 231,
  kH 233 232 true (.mv (.t 0)),
  kH 234 232 true (.mv (.t 2)),
  kH 235 232 true (.ca 73 [.t 233, .t 234]),
  kG 236 (.pk (.t 232) (.t 235) (.c (.bool false))),
  kM 8 236]) .rt)) (.sq (.rg [kG 238 (.ib .eql (.t 89) (.c (.int .i64 4))),
  kM 237 238]) (.cd (.t 237) (.sq (.rg [kM 239 13,
  kM 240 0,
  kM 241 2,
  kN 242 240,
  kF 243 242 12,
  kG 244 (.iaa (.t 243) (.t 241) 3 1),
  kL 245 244,
  kG 246 (.ca 30 [.t 239, .t 245])]) (.sq (.rd [⟨0, 0, [14], kM 247 14⟩, ⟨1, 1, [247], kN 248 247⟩, ⟨2, 3, [248], kF 249 248 1⟩, ⟨3, 7, [249], kL 250 249⟩, ⟨4, 0, [0], kM 251 0⟩, ⟨5, 0, [2], kM 252 2⟩, ⟨6, 16, [251], kN 253 251⟩, ⟨7, 80, [253], kF 254 253 12⟩, ⟨8, 240, [254, 252], kG 255 (.iaa (.t 254) (.t 252) 3 1)⟩, ⟨9, 496, [255], kL 256 255⟩, ⟨10, 1023, [250, 256], kG 257 (.ca 31 [.t 250, .t 256])⟩]) (.rg [kM 258 0,
  kM 259 2,
  kN 260 258,
  kF 261 260 12,
  kG 262 (.iaa (.t 261) (.t 259) 3 1),
  kS (.st (.t 262) (.c (.slice none 0 0)) 1)]))) (.sq (.rg [kG 264 (.ib .eql (.t 89) (.c (.int .i64 5))),
  kM 263 264]) (.cd (.t 263) (.sq (.rd [⟨0, 0, [13], kM 265 13⟩, ⟨1, 0, [0], kM 266 0⟩, ⟨2, 0, [2], kM 267 2⟩, ⟨3, 2, [266], kN 268 266⟩, ⟨4, 10, [268], kF 269 268 15⟩, ⟨5, 30, [269, 267], kG 270 (.iaa (.t 269) (.t 267) 3 1)⟩, ⟨6, 62, [270], kL 271 270⟩, ⟨7, 0, [3], kM 272 3⟩, ⟨8, 128, [272], kG 273 (.ib .quo (.t 272) (.c (.int .i64 7)))⟩, ⟨9, 510, [271, 273], kG 274 (.ib .add (.t 271) (.t 273))⟩, ⟨10, 1022, [274], kG 275 (.ib .sub (.t 274) (.c (.int .i64 5)))⟩, ⟨11, 0, [0], kM 276 0⟩, ⟨12, 0, [2], kM 277 2⟩, ⟨13, 2048, [276], kN 278 276⟩, ⟨14, 10240, [278], kF 279 278 12⟩, ⟨15, 30720, [279, 277], kG 280 (.iaa (.t 279) (.t 277) 3 1)⟩, ⟨16, 63488, [280], kL 281 280⟩, ⟨17, 129024, [281], kG 282 (.ap 22 3 1 8 [.int .i64 0] (.c (.slice none 0 0)) (.t 281))⟩, ⟨18, 262143, [265, 275, 282], kG 283 (.ca 27 [.t 265, .t 275, .t 282])⟩, ⟨19, 524287, [283], kM 15 283⟩]) (.sq (.rd [⟨0, 0, [14], kM 284 14⟩, ⟨1, 0, [0], kM 285 0⟩, ⟨2, 0, [2], kM 286 2⟩, ⟨3, 2, [285], kN 287 285⟩, ⟨4, 10, [287], kF 288 287 15⟩, ⟨5, 30, [288, 286], kG 289 (.iaa (.t 288) (.t 286) 3 1)⟩, ⟨6, 62, [289], kL 290 289⟩, ⟨7, 0, [3], kM 291 3⟩, ⟨8, 128, [291], kG 292 (.ib .quo (.t 291) (.c (.int .i64 7)))⟩, ⟨9, 510, [290, 292], kG 293 (.ib .add (.t 290) (.t 292))⟩, ⟨10, 1022, [293], kG 294 (.ib .sub (.t 293) (.c (.int .i64 5)))⟩, ⟨11, 0, [0], kM 295 0⟩, ⟨12, 0, [2], kM 296 2⟩, ⟨13, 2048, [295], kN 297 295⟩, ⟨14, 10240, [297], kF 298 297 12⟩, ⟨15, 30720, [298, 296], kG 299 (.iaa (.t 298) (.t 296) 3 1)⟩, ⟨16, 63488, [299], kL 300 299⟩, ⟨17, 131071, [284, 294, 300], kG 301 (.ca 28 [.t 284, .t 294, .t 300])⟩, ⟨18, 262143, [301], kM 16 301⟩]) (.sq (.sq (.rg [kM 302 15,
  kG 303 (.ib .eql (.t 302) (.c (.int .i64 0))),
  kM 304 16,
  kG 305 (.bb true (.t 303) (.t 304)),
  kM 306 305,
  kH 307 306 false (.mv (.t 16)),
  kH 308 306 false (.nt (.t 307)),
  kH 309 306 false (.mv (.t 308)),
  kH 310 309 true (.mv (.t 15)),
  kH 311 309 true (.ib .neq (.t 310) (.c (.int .i64 1))),
  kH 312 306 false (.pk (.t 309) (.t 311) (.c (.bool false))),
  kG 313 (.pk (.t 306) (.c (.bool true)) (.t 312))]) (.cd (.t 313) (.sq (.rg [kG 8 (.mv (.c (.bool false)))]) .rt) .sk)) (.sq (.rg [kM 314 16]) (.cd (.t 314) (.sq (.rd [⟨0, 0, [0], kM 315 0⟩, ⟨1, 0, [2], kM 316 2⟩, ⟨2, 0, [0], kM 317 0⟩, ⟨3, 0, [2], kM 318 2⟩, ⟨4, 4, [317], kN 319 317⟩, ⟨5, 20, [319], kF 320 319 15⟩, ⟨6, 60, [320, 318], kG 321 (.iaa (.t 320) (.t 318) 3 1)⟩, ⟨7, 124, [321], kL 322 321⟩, ⟨8, 0, [3], kM 323 3⟩, ⟨9, 256, [323], kG 324 (.ib .quo (.t 323) (.c (.int .i64 7)))⟩, ⟨10, 1020, [322, 324], kG 325 (.ib .add (.t 322) (.t 324))⟩, ⟨11, 2044, [325], kG 326 (.ib .sub (.t 325) (.c (.int .i64 5)))⟩, ⟨12, 1, [315], kN 327 315⟩, ⟨13, 4097, [327], kF 328 327 15⟩, ⟨14, 16383, [328, 316], kG 329 (.iaa (.t 328) (.t 316) 3 1)⟩, ⟨15, 32767, [329, 326], kS (.st (.t 329) (.t 326) 1)⟩]) (.rg [kM 330 0,
  kM 331 2,
  kN 332 330,
  kF 333 332 12,
  kG 334 (.iaa (.t 333) (.t 331) 3 1),
  kS (.st (.t 334) (.c (.slice none 0 0)) 1)])) .sk))))) (.sq (.sq (.rg [kM 90 3,
  kG 91 (.ib .quo (.t 90) (.c (.int .i64 7))),
  kG 92 (.ib .rem (.t 91) (.c (.int .i64 2))),
  kG 93 (.ib .eql (.t 92) (.c (.int .i64 0)))]) (.cd (.t 93) (.sq (.rg [kM 94 1,
  kN 95 94,
  kF 96 95 3,
  kL 97 96,
  kN 98 97,
  kF 99 98 9,
  kL 100 99,
  kG 101 (.ca 26 [.t 100]),
  kM 102 3,
  kG 103 (.ib .quo (.t 102) (.c (.int .i64 14))),
  kG 104 (.ib .rem (.t 103) (.c (.int .i64 3))),
  kG 105 (.ib .add (.t 101) (.t 104)),
  kM 17 105]) (.sq (.rg [kM 106 1,
  kN 107 106,
  kF 108 107 3,
  kL 109 108,
  kN 110 109,
  kF 111 110 6,
  kL 112 111,
  kN 113 112,
  kF 114 113 0,
  kL 115 114,
  kM 116 17,
  kG 117 (.cv .u64 (.t 116)),
  kG 118 (.ia (.t 115) (.c (.int .i64 2)) 1),
  kS (.st (.t 118) (.t 117) 1)]) (.sq (.rg [kM 119 1,
  kN 120 119,
  kF 121 120 0,
  kL 122 121,
  kM 123 17,
  kG 124 (.cv .u64 (.t 123)),
  kG 125 (.ca 34 [.t 122, (.c (.int .i64 2)), .t 124]),
  kG 126 (.ib .eql (.t 125) (.c (.int .i64 0))),
  kM 8 126]) .rt))) .sk)) (.sq (.rd [⟨0, 0, [13], kM 127 13⟩, ⟨1, 0, [0], kM 128 0⟩, ⟨2, 0, [2], kM 129 2⟩, ⟨3, 2, [128], kN 130 128⟩, ⟨4, 10, [130], kF 131 130 15⟩, ⟨5, 30, [131, 129], kG 132 (.iaa (.t 131) (.t 129) 3 1)⟩, ⟨6, 62, [132], kL 133 132⟩, ⟨7, 0, [3], kM 134 3⟩, ⟨8, 128, [134], kG 135 (.ib .quo (.t 134) (.c (.int .i64 14)))⟩, ⟨9, 510, [133, 135], kG 136 (.ib .add (.t 133) (.t 135))⟩, ⟨10, 1022, [136], kG 137 (.ib .sub (.t 136) (.c (.int .i64 3)))⟩, ⟨11, 2047, [127, 137], kG 138 (.ca 79 [.t 127, .t 137])⟩, ⟨12, 0, [14], kM 139 14⟩, ⟨13, 0, [0], kM 140 0⟩, ⟨14, 0, [2], kM 141 2⟩, ⟨15, 8192, [140], kN 142 140⟩, ⟨16, 40960, [142], kF 143 142 15⟩, ⟨17, 122880, [143, 141], kG 144 (.iaa (.t 143) (.t 141) 3 1)⟩, ⟨18, 253952, [144], kL 145 144⟩, ⟨19, 0, [3], kM 146 3⟩, ⟨20, 524288, [146], kG 147 (.ib .quo (.t 146) (.c (.int .i64 14)))⟩, ⟨21, 2088960, [145, 147], kG 148 (.ib .add (.t 145) (.t 147))⟩, ⟨22, 4186112, [148], kG 149 (.ib .sub (.t 148) (.c (.int .i64 3)))⟩, ⟨23, 8388607, [139, 149], kG 150 (.ca 80 [.t 139, .t 149])⟩, ⟨24, 16777215, [138, 150], kG 151 (.ib .eql (.t 138) (.t 150))⟩, ⟨25, 33554431, [151], kM 8 151⟩]) .rt)))))))))))))) (.sq (.rg [kG 8 (.mv (.c (.bool true)))]) .rt)))))⟩
theorem k9 : cF Tryz.prog Tryz.f9 = some c9 := by kernel_rfl
def c10 : Fu := ⟨15, [.t 4], (.sq (.rg [kG 4 (.mv (.c (.int .i64 0)))]) (.sq (.rg [kM 6 0,
  kM 7 1,
  kG 8 (.ib .rem (.t 6) (.t 7)),
  kM 5 8]) (.sq (.sq (.rg [kM 9 5,
  kG 10 (.ib .lss (.t 9) (.c (.int .i64 0)))]) (.cd (.t 10) (.rg [kM 11 5,
  kM 12 1,
  kG 13 (.ib .add (.t 11) (.t 12)),
  kM 5 13]) .sk)) (.sq (.rg [kM 14 5,
  kM 4 14]) .rt))))⟩
theorem k10 : cF Tryz.prog Tryz.f10 = some c10 := by kernel_rfl
def c11 : Fu := ⟨133, [.t 2], (.sq (.rg [kG 2 (.mv (.c (.bool false)))]) (.sq (.sq (.rg [kG 3 (.mv (.c (.int .i64 0)))]) (.bl 0 (.lp (.sq (.sq (.rg [kM 10 3,
  kM 11 0,
  kN 12 11,
  kF 13 12 3,
  kL 14 13,
  kN 15 14,
  kF 16 15 6,
  kL 17 16,
  kN 18 17,
  kF 19 18 0,
  kL 20 19,
  kG 21 (.len (.t 20)),
  kG 22 (.ib .lss (.t 10) (.t 21))]) (.cd (.t 22) .sk (.ex 0))) (.sq (.bl 1 (.sq (.rd [⟨0, 0, [0], kM 25 0⟩, ⟨1, 1, [25], kN 26 25⟩, ⟨2, 3, [26], kF 27 26 0⟩, ⟨3, 7, [27], kL 28 27⟩, ⟨4, 0, [3], kM 29 3⟩, ⟨5, 31, [28, 29], kG 30 (.ca 81 [.t 28, .t 29])⟩, ⟨6, 0, [0], kM 31 0⟩, ⟨7, 64, [31], kN 32 31⟩, ⟨8, 192, [32], kF 33 32 3⟩, ⟨9, 448, [33], kL 34 33⟩, ⟨10, 960, [34], kN 35 34⟩, ⟨11, 1984, [35], kF 36 35 6⟩, ⟨12, 4032, [36], kL 37 36⟩, ⟨13, 8128, [37], kN 38 37⟩, ⟨14, 16320, [38], kF 39 38 0⟩, ⟨15, 32704, [39], kL 40 39⟩, ⟨16, 0, [3], kM 41 3⟩, ⟨17, 131008, [40, 41], kG 42 (.ia (.t 40) (.t 41) 1)⟩, ⟨18, 262080, [42], kL 43 42⟩, ⟨19, 524287, [30, 43], kG 44 (.ib .neq (.t 30) (.t 43))⟩]) (.cd (.t 44) (.sq (.rg [kG 2 (.mv (.c (.bool false)))]) .rt) .sk))) (.rg [kM 23 3,
  kG 24 (.ib .add (.t 23) (.c (.int .i64 1))),
  kM 3 24])))))) (.sq (.sq (.rg [kG 4 (.mv (.c (.int .i64 0)))]) (.bl 2 (.lp (.sq (.sq (.rg [kM 45 4,
  kM 46 0,
  kN 47 46,
  kF 48 47 2,
  kL 49 48,
  kG 50 (.len (.t 49)),
  kG 51 (.ib .lss (.t 45) (.t 50))]) (.cd (.t 51) .sk (.ex 2))) (.sq (.bl 3 (.sq (.sq (.rd [⟨0, 0, [0], kM 54 0⟩, ⟨1, 1, [54], kN 55 54⟩, ⟨2, 3, [55], kF 56 55 2⟩, ⟨3, 7, [56], kL 57 56⟩, ⟨4, 0, [4], kM 58 4⟩, ⟨5, 31, [57, 58], kG 59 (.ia (.t 57) (.t 58) 1)⟩, ⟨6, 63, [59], kL 60 59⟩, ⟨7, 127, [60], kG 61 (.ca 82 [.t 60])⟩, ⟨8, 0, [0], kM 62 0⟩, ⟨9, 256, [62], kN 63 62⟩, ⟨10, 768, [63], kF 64 63 4⟩, ⟨11, 1792, [64], kL 65 64⟩, ⟨12, 0, [4], kM 66 4⟩, ⟨13, 7936, [65, 66], kG 67 (.ia (.t 65) (.t 66) 1)⟩, ⟨14, 16128, [67], kL 68 67⟩, ⟨15, 32512, [68], kN 69 68⟩, ⟨16, 65280, [69], kF 70 69 1⟩, ⟨17, 130816, [70], kL 71 70⟩, ⟨18, 261888, [71], kN 72 71⟩, ⟨19, 524032, [72], kF 73 72 1⟩, ⟨20, 1048320, [73], kL 74 73⟩, ⟨21, 2097151, [61, 74], kG 75 (.ca 12 [.t 61, .t 74])⟩, ⟨22, 4194303, [75], kG 76 (.nt (.t 75))⟩]) (.cd (.t 76) (.sq (.rg [kG 2 (.mv (.c (.bool false)))]) .rt) .sk)) (.sq (.rg [kG 5 (.mv (.c (.int .i64 0)))]) (.bl 4 (.lp (.sq (.sq (.rg [kM 77 5,
  kG 78 (.ib .lss (.t 77) (.c (.int .i64 3)))]) (.cd (.t 78) .sk (.ex 4))) (.sq (.bl 5 (.sq (.rg [kM 82 0,
  kN 83 82,
  kF 84 83 2,
  kL 85 84,
  kM 86 4,
  kG 87 (.ia (.t 85) (.t 86) 1),
  kL 88 87,
  kM 89 5,
  kG 90 (.ca 83 [.t 88, .t 89]),
  kM 81 90,
  kG 91 (.ex (.t 81) 0),
  kG 92 (.ex (.t 81) 1),
  kM 6 91,
  kM 7 92]) (.sq (.rg [kM 94 0,
  kN 95 94,
  kF 96 95 4,
  kL 97 96,
  kM 98 4,
  kG 99 (.ia (.t 97) (.t 98) 1),
  kL 100 99,
  kN 101 100,
  kF 102 101 2,
  kL 103 102,
  kM 104 5,
  kG 105 (.ca 29 [.t 103, .t 104]),
  kM 93 105,
  kG 106 (.ex (.t 93) 0),
  kG 107 (.ex (.t 93) 1),
  kM 8 106,
  kM 9 107]) (.sq (.rg [kM 108 6,
  kM 109 8,
  kG 110 (.ib .neq (.t 108) (.t 109)),
  kM 111 110,
  kH 112 111 false (.mv (.t 7)),
  kH 113 111 false (.mv (.t 9)),
  kH 114 111 false (.ca 12 [.t 112, .t 113]),
  kH 115 111 false (.nt (.t 114)),
  kG 116 (.pk (.t 111) (.c (.bool true)) (.t 115))]) (.cd (.t 116) (.sq (.rg [kG 2 (.mv (.c (.bool false)))]) .rt) .sk))))) (.rg [kM 79 5,
  kG 80 (.ib .add (.t 79) (.c (.int .i64 1))),
  kM 5 80])))))))) (.rg [kM 52 4,
  kG 53 (.ib .add (.t 52) (.c (.int .i64 1))),
  kM 4 53])))))) (.sq (.rd [⟨0, 0, [0], kM 117 0⟩, ⟨1, 1, [117], kN 118 117⟩, ⟨2, 3, [118], kF 119 118 0⟩, ⟨3, 7, [119], kL 120 119⟩, ⟨4, 15, [120], kG 121 (.ca 60 [.t 120])⟩, ⟨5, 0, [0], kM 122 0⟩, ⟨6, 32, [122], kN 123 122⟩, ⟨7, 96, [123], kF 124 123 3⟩, ⟨8, 224, [124], kL 125 124⟩, ⟨9, 480, [125], kN 126 125⟩, ⟨10, 992, [126], kF 127 126 6⟩, ⟨11, 2016, [127], kL 128 127⟩, ⟨12, 4064, [128], kN 129 128⟩, ⟨13, 8160, [129], kF 130 129 1⟩, ⟨14, 16352, [130], kL 131 130⟩, ⟨15, 32767, [121, 131], kG 132 (.ib .eql (.t 121) (.t 131))⟩, ⟨16, 65535, [132], kM 2 132⟩]) .rt))))⟩
theorem k11 : cF Tryz.prog Tryz.f11 = some c11 := by kernel_rfl
def c12 : Fu := ⟨26, [.t 4], (.sq (.rg [kG 4 (.mv (.c (.bool false)))]) (.sq (.sq (.rg [kM 6 0,
  kG 7 (.len (.t 6)),
  kM 8 1,
  kG 9 (.len (.t 8)),
  kG 10 (.ib .neq (.t 7) (.t 9))]) (.cd (.t 10) (.sq (.rg [kG 4 (.mv (.c (.bool false)))]) .rt) .sk)) (.sq (.sq (.rg [kG 5 (.mv (.c (.int .i64 0)))]) (.bl 0 (.lp (.sq (.sq (.rg [kM 11 5,
  kM 12 0,
  kG 13 (.len (.t 12)),
  kG 14 (.ib .lss (.t 11) (.t 13))]) (.cd (.t 14) .sk (.ex 0))) (.sq (.bl 1 (.sq (.rd [⟨0, 0, [0], kM 17 0⟩, ⟨1, 0, [5], kM 18 5⟩, ⟨2, 3, [17, 18], kG 19 (.ia (.t 17) (.t 18) 1)⟩, ⟨3, 7, [19], kL 20 19⟩, ⟨4, 0, [1], kM 21 1⟩, ⟨5, 0, [5], kM 22 5⟩, ⟨6, 48, [21, 22], kG 23 (.ia (.t 21) (.t 22) 1)⟩, ⟨7, 112, [23], kL 24 23⟩, ⟨8, 255, [20, 24], kG 25 (.ib .neq (.t 20) (.t 24))⟩]) (.cd (.t 25) (.sq (.rg [kG 4 (.mv (.c (.bool false)))]) .rt) .sk))) (.rg [kM 15 5,
  kG 16 (.ib .add (.t 15) (.c (.int .i64 1))),
  kM 5 16])))))) (.sq (.rg [kG 4 (.mv (.c (.bool true)))]) .rt))))⟩
theorem k12 : cF Tryz.prog Tryz.f12 = some c12 := by kernel_rfl
def c13 : Fu := ⟨45, [.t 2], (.sq (.rg [kG 2 (.mv (.c (.slice none 0 0)))]) (.sq (.rg [kG 3 (.mv (.c (.slice none 0 0)))]) (.sq (.sq (.rd [⟨0, 0, [0], kM 5 0⟩, ⟨1, 0, [0], kM 6 0⟩, ⟨2, 2, [6], kN 7 6⟩, ⟨3, 6, [7], kF 8 7 0⟩, ⟨4, 14, [8], kL 9 8⟩, ⟨5, 0, [0], kM 10 0⟩, ⟨6, 32, [10], kN 11 10⟩, ⟨7, 96, [11], kF 12 11 1⟩, ⟨8, 224, [12], kL 13 12⟩, ⟨9, 510, [9, 13], kG 14 (.ca 81 [.t 9, .t 13])⟩, ⟨10, 1023, [5, 14], kG 15 (.ca 84 [.t 5, .t 14])⟩, ⟨11, 2047, [15], kM 4 15⟩]) (.bl 0 (.lp (.sq (.sq (.rg [kM 16 4,
  kG 17 (.ib .geq (.t 16) (.c (.int .i64 0))),
  kM 18 17,
  kH 19 18 true (.mv (.t 3)),
  kH 20 18 true (.len (.t 19)),
  kH 21 18 true (.mv (.t 0)),
  kH 22 18 true (.nc (.t 21)),
  kH 23 18 true (.fa (.t 22) 3),
  kH 24 18 true (.ld (.t 23) 1 false),
  kH 25 18 true (.ib .lss (.t 20) (.t 24)),
  kG 26 (.pk (.t 18) (.t 25) (.c (.bool false)))]) (.cd (.t 26) .sk (.ex 0))) (.sq (.bl 1 (.rg [kM 40 3,
  kM 41 4,
  kG 42 (.bs 3 1 [.int .i64 0] [(0, 1, (.t 41))]),
  kG 43 (.ap 22 3 1 8 [.int .i64 0] (.t 40) (.t 42)),
  kM 3 43])) (.rd [⟨0, 0, [0], kM 27 0⟩, ⟨1, 0, [0], kM 28 0⟩, ⟨2, 2, [28], kN 29 28⟩, ⟨3, 6, [29], kF 30 29 0⟩, ⟨4, 14, [30], kL 31 30⟩, ⟨5, 0, [0], kM 32 0⟩, ⟨6, 32, [32], kN 33 32⟩, ⟨7, 96, [33], kF 34 33 2⟩, ⟨8, 224, [34], kL 35 34⟩, ⟨9, 0, [4], kM 36 4⟩, ⟨10, 992, [35, 36], kG 37 (.ib .add (.t 35) (.t 36))⟩, ⟨11, 2046, [31, 37], kG 38 (.ca 81 [.t 31, .t 37])⟩, ⟨12, 4095, [27, 38], kG 39 (.ca 85 [.t 27, .t 38])⟩, ⟨13, 8191, [39], kM 4 39⟩])))))) (.sq (.rg [kM 44 3,
  kM 2 44]) .rt))))⟩
theorem k13 : cF Tryz.prog Tryz.f13 = some c13 := by kernel_rfl
def c14 : Fu := ⟨53, [.t 2], (.sq (.rg [kG 2 (.mv (.c (.slice none 0 0)))]) (.sq (.rg [kG 3 (.mv (.c (.slice none 0 0)))]) (.sq (.sq (.rd [⟨0, 0, [0], kM 5 0⟩, ⟨1, 0, [0], kM 6 0⟩, ⟨2, 2, [6], kN 7 6⟩, ⟨3, 6, [7], kF 8 7 0⟩, ⟨4, 14, [8], kL 9 8⟩, ⟨5, 30, [9], kN 10 9⟩, ⟨6, 62, [10], kF 11 10 0⟩, ⟨7, 126, [11], kL 12 11⟩, ⟨8, 0, [0], kM 13 0⟩, ⟨9, 256, [13], kN 14 13⟩, ⟨10, 768, [14], kF 15 14 1⟩, ⟨11, 1792, [15], kL 16 15⟩, ⟨12, 4094, [12, 16], kG 17 (.ia (.t 12) (.t 16) 1)⟩, ⟨13, 8190, [17], kL 18 17⟩, ⟨14, 16383, [5, 18], kG 19 (.ca 86 [.t 5, .t 18])⟩, ⟨15, 32767, [19], kM 4 19⟩]) (.bl 0 (.lp (.sq (.sq (.rg [kM 20 4,
  kG 21 (.ib .geq (.t 20) (.c (.int .i64 0))),
  kM 22 21,
  kH 23 22 true (.mv (.t 3)),
  kH 24 22 true (.len (.t 23)),
  kH 25 22 true (.mv (.t 0)),
  kH 26 22 true (.nc (.t 25)),
  kH 27 22 true (.fa (.t 26) 3),
  kH 28 22 true (.ld (.t 27) 1 false),
  kH 29 22 true (.ib .lss (.t 24) (.t 28)),
  kG 30 (.pk (.t 22) (.t 29) (.c (.bool false)))]) (.cd (.t 30) .sk (.ex 0))) (.sq (.bl 1 (.rg [kM 48 3,
  kM 49 4,
  kG 50 (.bs 3 1 [.int .i64 0] [(0, 1, (.t 49))]),
  kG 51 (.ap 22 3 1 8 [.int .i64 0] (.t 48) (.t 50)),
  kM 3 51])) (.rd [⟨0, 0, [0], kM 31 0⟩, ⟨1, 0, [0], kM 32 0⟩, ⟨2, 2, [32], kN 33 32⟩, ⟨3, 6, [33], kF 34 33 0⟩, ⟨4, 14, [34], kL 35 34⟩, ⟨5, 30, [35], kN 36 35⟩, ⟨6, 62, [36], kF 37 36 0⟩, ⟨7, 126, [37], kL 38 37⟩, ⟨8, 0, [0], kM 39 0⟩, ⟨9, 256, [39], kN 40 39⟩, ⟨10, 768, [40], kF 41 40 2⟩, ⟨11, 1792, [41], kL 42 41⟩, ⟨12, 0, [4], kM 43 4⟩, ⟨13, 7936, [42, 43], kG 44 (.ib .add (.t 42) (.t 43))⟩, ⟨14, 16382, [38, 44], kG 45 (.ia (.t 38) (.t 44) 1)⟩, ⟨15, 32766, [45], kL 46 45⟩, ⟨16, 65535, [31, 46], kG 47 (.ca 87 [.t 31, .t 46])⟩, ⟨17, 131071, [47], kM 4 47⟩])))))) (.sq (.rg [kM 52 3,
  kM 2 52]) .rt))))⟩
theorem k14 : cF Tryz.prog Tryz.f14 = some c14 := by kernel_rfl
def c26 : Fu := ⟨17, [.t 2], (.sq (.rg [kG 2 (.mv (.c (.int .i64 0)))]) (.sq (.rd [⟨0, 0, [0], kM 3 0⟩, ⟨1, 1, [3], kN 4 3⟩, ⟨2, 3, [4], kF 5 4 0⟩, ⟨3, 7, [5], kL 6 5⟩, ⟨4, 15, [6], kN 7 6⟩, ⟨5, 31, [7], kF 8 7 0⟩, ⟨6, 63, [8], kL 9 8⟩, ⟨7, 0, [0], kM 10 0⟩, ⟨8, 128, [10], kN 11 10⟩, ⟨9, 384, [11], kF 12 11 1⟩, ⟨10, 896, [12], kL 13 12⟩, ⟨11, 2047, [9, 13], kG 14 (.ia (.t 9) (.t 13) 1)⟩, ⟨12, 4095, [14], kL 15 14⟩, ⟨13, 8191, [15], kG 16 (.ca 94 [.t 15])⟩, ⟨14, 16383, [16], kM 2 16⟩]) .rt))⟩
theorem k26 : cF Tryz.prog Tryz.f26 = some c26 := by kernel_rfl
def c27 : Fu := ⟨26, [.t 6], (.sq (.rg [kG 6 (.mv (.c (.int .i64 0)))]) (.sq (.rg [kM 10 0,
  kN 11 10,
  kF 12 11 9,
  kL 13 12,
  kM 14 1,
  kM 15 2,
  kG 16 (.ca 105 [.t 13, .t 14, .t 15]),
  kM 9 16,
  kG 17 (.ex (.t 9) 0),
  kG 18 (.ex (.t 9) 1),
  kM 7 17,
  kM 8 18]) (.sq (.rg [kM 19 0,
  kN 20 19,
  kF 21 20 8,
  kL 22 21,
  kM 23 7,
  kG 24 (.ca 106 [.t 22, .t 23])]) (.sq (.rg [kM 25 8,
  kM 6 25]) .rt))))⟩
theorem k27 : cF Tryz.prog Tryz.f27 = some c27 := by kernel_rfl
def c28 : Fu := ⟨26, [.t 6], (.sq (.rg [kG 6 (.mv (.c (.bool false)))]) (.sq (.rg [kM 10 0,
  kN 11 10,
  kF 12 11 2,
  kL 13 12,
  kM 14 1,
  kM 15 2,
  kG 16 (.ca 107 [.t 13, .t 14, .t 15]),
  kM 9 16,
  kG 17 (.ex (.t 9) 0),
  kG 18 (.ex (.t 9) 1),
  kM 7 17,
  kM 8 18]) (.sq (.rg [kM 19 0,
  kN 20 19,
  kF 21 20 1,
  kL 22 21,
  kM 23 7,
  kG 24 (.ca 31 [.t 22, .t 23])]) (.sq (.rg [kM 25 8,
  kM 6 25]) .rt))))⟩
theorem k28 : cF Tryz.prog Tryz.f28 = some c28 := by kernel_rfl
def c29 : Fu := ⟨35, [.t 4, .t 5], (.sq (.rg [kG 4 (.mv (.c (.int .i64 0))),
  kG 5 (.mv (.c (.slice none 0 0)))]) (.sq (.sq (.rg [kM 6 1,
  kG 7 (.ib .lss (.t 6) (.c (.int .i64 0))),
  kM 8 7,
  kH 9 8 false (.mv (.t 1)),
  kH 10 8 false (.ib .gtr (.t 9) (.c (.int .i64 2))),
  kG 11 (.pk (.t 8) (.c (.bool true)) (.t 10)),
  kM 12 11,
  kH 13 12 false (.mv (.t 0)),
  kH 14 12 false (.mv (.t 1)),
  kH 15 12 false (.nc (.t 13)),
  kH 16 12 false (.fa (.t 15) 3),
  kH 17 12 false (.iaa (.t 16) (.t 14) 3 1),
  kH 18 12 false (.ld (.t 17) 1 false),
  kH 19 12 false (.len (.t 18)),
  kH 20 12 false (.ib .eql (.t 19) (.c (.int .i64 0))),
  kG 21 (.pk (.t 12) (.c (.bool true)) (.t 20))]) (.cd (.t 21) (.sq (.rg [kG 4 (.mv (.c (.int .i64 0))),
  kG 5 (.mv (.c (.slice none 0 0)))]) .rt) .sk)) (.sq (.rd [⟨0, 0, [0], kM 22 0⟩, ⟨1, 0, [1], kM 23 1⟩, ⟨2, 1, [22], kN 24 22⟩, ⟨3, 5, [24], kF 25 24 0⟩, ⟨4, 15, [25, 23], kG 26 (.iaa (.t 25) (.t 23) 3 1)⟩, ⟨5, 31, [26], kL 27 26⟩, ⟨6, 0, [0], kM 28 0⟩, ⟨7, 0, [1], kM 29 1⟩, ⟨8, 64, [28], kN 30 28⟩, ⟨9, 320, [30], kF 31 30 3⟩, ⟨10, 960, [31, 29], kG 32 (.iaa (.t 31) (.t 29) 3 1)⟩, ⟨11, 1984, [32], kL 33 32⟩, ⟨12, 4032, [33], kG 34 (.ap 22 3 1 8 [.int .i64 0] (.c (.slice none 0 0)) (.t 33))⟩, ⟨13, 8191, [27], kM 4 27⟩, ⟨14, 16383, [34], kM 5 34⟩]) .rt)))⟩
theorem k29 : cF Tryz.prog Tryz.f29 = some c29 := by kernel_rfl
def c30 : Fu := ⟨10, [], (.rg [kM 4 0,
  kN 5 4,
  kF 6 5 8,
  kL 7 6,
  kM 8 1,
  kG 9 (.ca 106 [.t 7, .t 8])])⟩
theorem k30 : cF Tryz.prog Tryz.f30 = some c30 := by kernel_rfl
def c31 : Fu := ⟨14, [], (.rg [kM 4 0,
  kM 5 0,
  kN 6 5,
  kF 7 6 1,
  kL 8 7,
  kG 9 (.ap 22 3 1 8 [.int .i64 0] (.c (.slice none 0 0)) (.t 8)),
  kM 10 1,
  kG 11 (.ap 22 3 1 8 [.int .i64 0] (.t 9) (.t 10)),
  kN 12 4,
  kF 13 12 1,
  kS (.st (.t 13) (.t 11) 1)])⟩
theorem k31 : cF Tryz.prog Tryz.f31 = some c31 := by kernel_rfl
def c33 : Fu := ⟨10, [.t 4], (.sq (.rg [kG 2 (.bx 25 (.t 0)),
  kG 4 (.mv (.c (.int .i64 0)))]) (.sq (.rg [kG 5 (.ld (.t 2) 6 true),
  kF 6 2 0,
  kL 7 6,
  kM 8 1,
  kG 9 (.ca 109 [.t 5, (.c (.int .i64 3)), .t 7, .t 8]),
  kM 4 9]) .rt))⟩
theorem k33 : cF Tryz.prog Tryz.f33 = some c33 := by kernel_rfl
def c34 : Fu := ⟨18, [.t 6], (.sq (.rg [kG 6 (.mv (.c (.int .i64 0)))]) (.sq (.sq (.rg [kM 7 0,
  kM 8 1,
  kG 9 (.ca 110 [.t 7, .t 8]),
  kG 10 (.nt (.t 9))]) (.cd (.t 10) (.sq (.rg [kG 6 (.mv (.c (.int .i64 1)))]) .rt) .sk)) (.sq (.rg [kM 11 0,
  kN 12 11,
  kF 13 12 0,
  kL 14 13,
  kM 15 1,
  kM 16 2,
  kG 17 (.ia (.t 14) (.t 15) 1),
  kS (.st (.t 17) (.t 16) 1)]) (.sq (.rg [kG 6 (.mv (.c (.int .i64 0)))]) .rt))))⟩
theorem k34 : cF Tryz.prog Tryz.f34 = some c34 := by kernel_rfl
def c53 : Fu := ⟨14, [.t 2, .t 3], (.sq (.rg [kG 2 (.mv (.c (.pointer none))),
  kG 3 (.mv (.c (.int .i64 0)))]) (.sq (.sq (.rg [kM 4 0,
  kG 5 (.ib .lss (.t 4) (.c (.int .i64 1))),
  kM 6 5,
  kH 7 6 false (.mv (.t 0)),
  kH 8 6 false (.ib .gtr (.t 7) (.c (.int .i64 8388608))),
  kG 9 (.pk (.t 6) (.c (.bool true)) (.t 8))]) (.cd (.t 9) (.sq (.rg [kG 2 (.mv (.c (.pointer none))),
  kG 3 (.mv (.c (.int .i64 1)))]) .rt) .sk)) (.sq (.rg [kM 10 0,
  kG 11 (.mk 89 1 8 [(.int .u64 0)] (.t 10) (.t 10)),
  kG 12 (.bd [(.slice none 0 0), .int .i64 0, .int .i64 0, .int .i64 0, (.int .u64 0), (.int .u64 0), (.bool false)] [(0, 1, (.t 11))]),
  kG 13 (.bx 187 (.t 12)),
  kM 2 13,
  kG 3 (.mv (.c (.int .i64 0)))]) .rt)))⟩
theorem k53 : cF Tryz.prog Tryz.f53 = some c53 := by kernel_rfl
def c54 : Fu := ⟨27, [.t 4, .t 5], (.sq (.rg [kG 3 (.bx 25 (.t 1)),
  kG 4 (.mv (.c (.pointer none))),
  kG 5 (.mv (.c (.int .i64 0)))]) (.sq (.rg [kM 9 0,
  kG 10 (.ld (.t 3) 6 true),
  kG 11 (.ca 63 [.t 9, .t 10]),
  kM 8 11,
  kG 12 (.ex (.t 8) 0),
  kG 13 (.ex (.t 8) 1),
  kM 6 12,
  kM 7 13]) (.sq (.sq (.rg [kM 14 7,
  kG 15 (.ib .neq (.t 14) (.c (.int .i64 0)))]) (.cd (.t 15) (.sq (.rg [kM 16 7,
  kG 4 (.mv (.c (.pointer none))),
  kM 5 16]) .rt) .sk)) (.sq (.rd [⟨0, 0, [0], kM 17 0⟩, ⟨1, 0, [3], kG 18 (.ld (.t 3) 6 true)⟩, ⟨2, 0, [6], kM 19 6⟩, ⟨3, 4, [19], kG 20 (.ca 64 [.t 19])⟩, ⟨4, 0, [3], kF 21 3 4⟩, ⟨5, 16, [21], kL 22 21⟩, ⟨6, 60, [22], kG 23 (.ca 143 [.t 22])⟩, ⟨7, 124, [], kG 24 (.ca 144 [])⟩, ⟨8, 255, [17, 18, 20, 23, 24], kG 25 (.bd [(.pointer none), .int .i64 0, .int .i64 0, .int .i64 0, .int .i64 0, .int .i64 0, .int .i64 0, (.pointer none), (.pointer none), (.pointer none)] [(0, 1, (.t 17)), (1, 6, (.t 18)), (7, 1, (.t 20)), (8, 1, (.t 23)), (9, 1, (.t 24))])⟩, ⟨9, 511, [25], kG 26 (.bx 176 (.t 25))⟩, ⟨10, 1023, [26], kM 4 26⟩, ⟨11, 2047, [], kG 5 (.mv (.c (.int .i64 0)))⟩]) .rt))))⟩
theorem k54 : cF Tryz.prog Tryz.f54 = some c54 := by kernel_rfl
def c55 : Fu := ⟨26, [.t 2], (.sq (.rg [kG 2 (.mv (.c (.pointer none)))]) (.sq (.rg [kM 4 0,
  kG 5 (.bd [.nilFunc, .nilFunc, .nilFunc, .nilFunc, .int .i64 0, (.pointer none), (.pointer none), .int .i64 0, .int .i64 0, (.bool false)] [(5, 1, (.t 4)), (8, 1, (.c (.int .i64 (-1))))]),
  kG 6 (.bx 239 (.t 5)),
  kM 3 6]) (.sq (.bl 0 (.sq (.rg [kM 10 3,
  kG 11 (.ca 145 [.t 10]),
  kM 9 11]) (.cd (.t 9) .sk (.sq (.rg [kM 13 0,
  kN 14 13,
  kF 15 14 9,
  kL 16 15,
  kG 17 (.ca 146 [.t 16]),
  kG 18 (.ib .gtr (.t 17) (.c (.int .i64 0))),
  kM 12 18]) (.cd (.t 12) (.rg [kM 19 3,
  kN 20 19,
  kF 21 20 0,
  kM 22 3,
  kG 23 (.mf (.func 148) [.t 22] []),
  kG 24 (.ca 147 [.t 21, .t 23])]) (.rg [kM 7 3,
  kG 8 (.ca 149 [.t 7])])))))) (.sq (.rg [kM 25 3,
  kM 2 25]) .rt))))⟩
theorem k55 : cF Tryz.prog Tryz.f55 = some c55 := by kernel_rfl
def c56 : Fu := ⟨7, [.t 2], (.sq (.rg [kG 2 (.mv (.c (.bool false)))]) (.sq (.rg [kM 3 0,
  kN 4 3,
  kF 5 4 0,
  kG 6 (.ca 96 [.t 5]),
  kM 2 6]) .rt))⟩
theorem k56 : cF Tryz.prog Tryz.f56 = some c56 := by kernel_rfl
def c57 : Fu := ⟨7, [.t 2], (.sq (.rg [kG 2 (.mv (.c (.bool false)))]) (.sq (.rg [kM 3 0,
  kN 4 3,
  kF 5 4 0,
  kG 6 (.ca 92 [.t 5]),
  kM 2 6]) .rt))⟩
theorem k57 : cF Tryz.prog Tryz.f57 = some c57 := by kernel_rfl
def c58 : Fu := ⟨15, [.t 2, .t 3], (.sq (.rg [kG 2 (.mv (.c (.int .i64 0))),
  kG 3 (.mv (.c (.bool false)))]) (.sq (.sq (.rg [kM 4 0,
  kG 5 (.ca 56 [.t 4]),
  kG 6 (.nt (.t 5))]) (.cd (.t 6) (.sq (.rg [kG 2 (.mv (.c (.int .i64 0))),
  kG 3 (.mv (.c (.bool false)))]) .rt) .sk)) (.sq (.rd [⟨0, 0, [0], kM 7 0⟩, ⟨1, 1, [7], kN 8 7⟩, ⟨2, 3, [8], kF 9 8 7⟩, ⟨3, 7, [9], kL 10 9⟩, ⟨4, 0, [0], kM 11 0⟩, ⟨5, 16, [11], kN 12 11⟩, ⟨6, 48, [12], kF 13 12 9⟩, ⟨7, 112, [13], kL 14 13⟩, ⟨8, 15, [10], kM 2 10⟩, ⟨9, 511, [14], kM 3 14⟩]) .rt)))⟩
theorem k58 : cF Tryz.prog Tryz.f58 = some c58 := by kernel_rfl
def c59 : Fu := ⟨7, [.t 2], (.sq (.rg [kG 2 (.mv (.c (.int .i64 0)))]) (.sq (.rg [kM 3 0,
  kN 4 3,
  kF 5 4 8,
  kL 6 5,
  kM 2 6]) .rt))⟩
theorem k59 : cF Tryz.prog Tryz.f59 = some c59 := by kernel_rfl
def c60 : Fu := ⟨7, [.t 2], (.sq (.rg [kG 2 (.mv (.c (.int .i64 0)))]) (.sq (.rg [kM 3 0,
  kN 4 3,
  kF 5 4 1,
  kL 6 5,
  kM 2 6]) .rt))⟩
theorem k60 : cF Tryz.prog Tryz.f60 = some c60 := by kernel_rfl
def c61 : Fu := ⟨36, [.t 4], (.sq (.rg [kG 4 (.mv (.c (.int .i64 0)))]) (.sq (.rg [kG 5 (.mv (.c (.int .i64 0)))]) (.sq (.sq (.rd [⟨0, 0, [0], kM 6 0⟩, ⟨1, 1, [6], kN 7 6⟩, ⟨2, 3, [7], kF 8 7 1⟩, ⟨3, 7, [8], kL 9 8⟩, ⟨4, 0, [0], kM 10 0⟩, ⟨5, 16, [10], kN 11 10⟩, ⟨6, 48, [11], kF 12 11 0⟩, ⟨7, 112, [12], kL 13 12⟩, ⟨8, 240, [13], kG 14 (.len (.t 13))⟩, ⟨9, 511, [9, 14], kG 15 (.ib .lss (.t 9) (.t 14))⟩]) (.cd (.t 15) (.rd [⟨0, 0, [0], kM 16 0⟩, ⟨1, 1, [16], kN 17 16⟩, ⟨2, 3, [17], kF 18 17 0⟩, ⟨3, 7, [18], kL 19 18⟩, ⟨4, 0, [0], kM 20 0⟩, ⟨5, 16, [20], kN 21 20⟩, ⟨6, 48, [21], kF 22 21 1⟩, ⟨7, 112, [22], kL 23 22⟩, ⟨8, 255, [19, 23], kG 24 (.ia (.t 19) (.t 23) 1)⟩, ⟨9, 511, [24], kL 25 24⟩, ⟨10, 1023, [25], kM 5 25⟩]) .sk)) (.sq (.rg [kM 26 0,
  kN 27 26,
  kF 28 27 1,
  kL 29 28,
  kG 30 (.ib .add (.t 29) (.c (.int .i64 1))),
  kN 31 26,
  kF 32 31 1,
  kS (.st (.t 32) (.t 30) 1)]) (.sq (.rg [kM 33 5,
  kM 34 1,
  kG 35 (.ca 10 [.t 33, .t 34]),
  kM 4 35]) .rt)))))⟩
theorem k61 : cF Tryz.prog Tryz.f61 = some c61 := by kernel_rfl
def c62 : Fu := ⟨17, [.t 2], (.sq (.rg [kG 1 (.bx 25 (.t 0)),
  kG 2 (.mv (.c (.int .i64 0)))]) (.sq (.sq (.rg [kG 5 (.ld (.t 1) 6 true),
  kG 6 (.ca 150 [.t 5]),
  kG 7 (.nt (.t 6))]) (.cd (.t 7) (.sq (.rg [kG 2 (.mv (.c (.int .i64 0)))]) .rt) .sk)) (.sq (.rg [kG 8 (.ld (.t 1) 6 true),
  kG 9 (.ca 151 [.t 8]),
  kG 3 (.al 244 [.int .i64 0, .int .i64 0, .int .i64 0, .int .i64 0, .int .i64 0, .int .i64 0, .int .i64 0, .int .i64 0, .int .i64 0, .int .i64 0, .int .i64 0, .int .i64 0, .int .i64 0, .int .i64 0, .int .i64 0]),
  kS (.st (.t 3) (.t 9) 15)]) (.sq (.rg [kG 10 (.iaa (.t 3) (.c (.int .i64 4)) 5 3),
  kG 11 (.ld (.t 10) 3 true),
  kG 4 (.al 243 [.int .i64 0, .int .i64 0, .int .i64 0]),
  kS (.st (.t 4) (.t 11) 3)]) (.sq (.rg [kF 12 4 1,
  kL 13 12,
  kF 14 4 2,
  kL 15 14,
  kG 16 (.ib .add (.t 13) (.t 15)),
  kM 2 16]) .rt)))))⟩
theorem k62 : cF Tryz.prog Tryz.f62 = some c62 := by kernel_rfl
def c63 : Fu := ⟨35, [.t 4, .t 5], (.sq (.rg [kG 3 (.bx 25 (.t 1)),
  kG 4 (.mv (.c (.pointer none))),
  kG 5 (.mv (.c (.int .i64 0)))]) (.sq (.sq (.rd [⟨0, 0, [3], kG 8 (.ld (.t 3) 6 true)⟩, ⟨1, 1, [8], kG 9 (.ca 150 [.t 8])⟩, ⟨2, 3, [9], kG 10 (.nt (.t 9))⟩, ⟨3, 7, [10], kM 11 10⟩, ⟨4, 15, [0, 11], kH 12 11 false (.mv (.t 0))⟩, ⟨5, 31, [12, 11], kH 13 11 false (.ca 152 [.t 12])⟩, ⟨6, 15, [3, 11], kH 14 11 false (.ld (.t 3) 6 true)⟩, ⟨7, 127, [14, 11], kH 15 11 false (.ca 62 [.t 14])⟩, ⟨8, 255, [13, 15, 11], kH 16 11 false (.ib .lss (.t 13) (.t 15))⟩, ⟨9, 511, [11, 16], kG 17 (.pk (.t 11) (.c (.bool true)) (.t 16))⟩]) (.cd (.t 17) (.sq (.rg [kG 4 (.mv (.c (.pointer none))),
  kG 5 (.mv (.c (.int .i64 1)))]) .rt) .sk)) (.sq (.rd [⟨0, 0, [0], kM 19 0⟩, ⟨1, 0, [3], kG 20 (.ld (.t 3) 6 true)⟩, ⟨2, 2, [20], kG 21 (.ca 154 [.t 20, (.c (.int .i64 0))])⟩, ⟨3, 0, [3], kF 22 3 1⟩, ⟨4, 8, [22], kL 23 22⟩, ⟨5, 31, [19, 21, 23], kG 24 (.ca 153 [.t 19, (.c (.int .i64 0)), .t 21, .t 23])⟩, ⟨6, 63, [24], kM 18 24⟩, ⟨7, 127, [18], kG 25 (.ex (.t 18) 0)⟩, ⟨8, 127, [18], kG 26 (.ex (.t 18) 1)⟩, ⟨9, 255, [25], kM 6 25⟩, ⟨10, 1023, [26], kM 7 26⟩]) (.sq (.sq (.rg [kM 27 7,
  kG 28 (.ib .neq (.t 27) (.c (.int .i64 0)))]) (.cd (.t 28) (.sq (.rg [kM 29 7,
  kG 4 (.mv (.c (.pointer none))),
  kM 5 29]) .rt) .sk)) (.sq (.rg [kM 30 0,
  kG 31 (.ld (.t 3) 6 true),
  kM 32 6,
  kG 33 (.bd [(.pointer none), .int .i64 0, .int .i64 0, .int .i64 0, .int .i64 0, .int .i64 0, .int .i64 0, (.pointer none)] [(0, 1, (.t 30)), (1, 6, (.t 31)), (7, 1, (.t 32))]),
  kG 34 (.bx 249 (.t 33)),
  kM 4 34,
  kG 5 (.mv (.c (.int .i64 0)))]) .rt)))))⟩
theorem k63 : cF Tryz.prog Tryz.f63 = some c63 := by kernel_rfl
def c64 : Fu := ⟨7, [.t 2], (.sq (.rg [kG 2 (.mv (.c (.pointer none)))]) (.sq (.rg [kM 3 0,
  kN 4 3,
  kF 5 4 7,
  kL 6 5,
  kM 2 6]) .rt))⟩
theorem k64 : cF Tryz.prog Tryz.f64 = some c64 := by kernel_rfl
def c65 : Fu := ⟨7, [], (.rg [kM 2 0,
  kN 3 2,
  kF 4 3 7,
  kL 5 4,
  kG 6 (.ca 155 [.t 5])])⟩
theorem k65 : cF Tryz.prog Tryz.f65 = some c65 := by kernel_rfl
def c66 : Fu := ⟨53, [.t 2], (.sq (.rg [kG 1 (.bx 25 (.t 0)),
  kG 2 (.mv (.c (.pointer none)))]) (.sq (.rg [kG 5 (.ld (.t 1) 6 true),
  kG 6 (.ca 157 [.t 5]),
  kG 7 (.ca 156 [.t 6]),
  kM 3 7]) (.sq (.rg [kG 8 (.ld (.t 1) 6 true),
  kM 9 3,
  kG 10 (.bd [.int .i64 0, .int .i64 0, .int .i64 0, .int .i64 0, .int .i64 0, .int .i64 0, (.pointer none), (.pointer none), (.pointer none), (.pointer none)] [(0, 6, (.t 8)), (6, 1, (.t 9))]),
  kG 11 (.bx 57 (.t 10)),
  kM 4 11]) (.sq (.rd [⟨0, 0, [4], kM 12 4⟩, ⟨1, 0, [3], kM 13 3⟩, ⟨2, 0, [1], kG 14 (.ld (.t 1) 6 true)⟩, ⟨3, 4, [14], kG 15 (.ca 158 [.t 14, (.c (.int .i64 0))])⟩, ⟨4, 0, [1], kF 16 1 1⟩, ⟨5, 16, [16], kL 17 16⟩, ⟨6, 62, [13, 15, 17], kG 18 (.bd [(.pointer none), .int .i64 0, .int .i64 0, .int .i64 0] [(0, 1, (.t 13)), (1, 1, (.c (.int .i64 0))), (2, 1, (.t 15)), (3, 1, (.t 17))])⟩, ⟨7, 126, [18], kG 19 (.bx 147 (.t 18))⟩, ⟨8, 255, [12], kN 20 12⟩, ⟨9, 511, [20], kF 21 20 7⟩, ⟨10, 1023, [21, 19], kS (.st (.t 21) (.t 19) 1)⟩]) (.sq (.rd [⟨0, 0, [4], kM 22 4⟩, ⟨1, 0, [3], kM 23 3⟩, ⟨2, 0, [1], kG 24 (.ld (.t 1) 6 true)⟩, ⟨3, 4, [24], kG 25 (.ca 68 [.t 24, (.c (.int .i64 0))])⟩, ⟨4, 0, [1], kF 26 1 3⟩, ⟨5, 16, [26], kL 27 26⟩, ⟨6, 62, [23, 25, 27], kG 28 (.bd [(.pointer none), .int .i64 0, .int .i64 0, .int .i64 0] [(0, 1, (.t 23)), (1, 1, (.c (.int .i64 1))), (2, 1, (.t 25)), (3, 1, (.t 27))])⟩, ⟨7, 126, [28], kG 29 (.bx 147 (.t 28))⟩, ⟨8, 255, [22], kN 30 22⟩, ⟨9, 511, [30], kF 31 30 8⟩, ⟨10, 1023, [31, 29], kS (.st (.t 31) (.t 29) 1)⟩]) (.sq (.rd [⟨0, 0, [4], kM 32 4⟩, ⟨1, 0, [3], kM 33 3⟩, ⟨2, 0, [1], kG 34 (.ld (.t 1) 6 true)⟩, ⟨3, 4, [34], kG 35 (.ca 33 [.t 34, (.c (.int .i64 0))])⟩, ⟨4, 0, [1], kF 36 1 0⟩, ⟨5, 16, [36], kL 37 36⟩, ⟨6, 62, [33, 35, 37], kG 38 (.bd [(.pointer none), .int .i64 0, .int .i64 0, .int .i64 0] [(0, 1, (.t 33)), (1, 1, (.c (.int .i64 2))), (2, 1, (.t 35)), (3, 1, (.t 37))])⟩, ⟨7, 126, [38], kG 39 (.bx 171 (.t 38))⟩, ⟨8, 255, [32], kN 40 32⟩, ⟨9, 511, [40], kF 41 40 9⟩, ⟨10, 1023, [41, 39], kS (.st (.t 41) (.t 39) 1)⟩]) (.sq (.rg [kM 42 4,
  kN 43 42,
  kF 44 43 7,
  kL 45 44,
  kG 46 (.ca 159 [.t 45])]) (.sq (.rg [kM 47 4,
  kN 48 47,
  kF 49 48 8,
  kL 50 49,
  kG 51 (.ca 159 [.t 50])]) (.sq (.rg [kM 52 4,
  kM 2 52]) .rt)))))))))⟩
theorem k66 : cF Tryz.prog Tryz.f66 = some c66 := by kernel_rfl
def c67 : Fu := ⟨13, [.t 2], (.sq (.rg [kG 2 (.mv (.c (.pointer none)))]) (.sq (.rg [kM 3 0,
  kM 4 0,
  kN 5 4,
  kF 6 5 0,
  kF 7 6 4,
  kL 8 7,
  kG 9 (.ca 160 [.t 8]),
  kG 10 (.ca 161 []),
  kG 11 (.bd [(.pointer none), (.pointer none), (.pointer none)] [(0, 1, (.t 3)), (1, 1, (.t 9)), (2, 1, (.t 10))]),
  kG 12 (.bx 85 (.t 11)),
  kM 2 12]) .rt))⟩
theorem k67 : cF Tryz.prog Tryz.f67 = some c67 := by kernel_rfl
def c68 : Fu := ⟨16, [.t 4], (.sq (.rg [kG 2 (.bx 25 (.t 0)),
  kG 4 (.mv (.c (.int .i64 0)))]) (.sq (.rg [kG 5 (.ld (.t 2) 6 true),
  kF 6 2 0,
  kL 7 6,
  kG 8 (.ib .add (.c (.int .i64 3)) (.t 7)),
  kF 9 2 3,
  kL 10 9,
  kG 11 (.ib .add (.t 8) (.t 10)),
  kF 12 2 3,
  kL 13 12,
  kM 14 1,
  kG 15 (.ca 109 [.t 5, .t 11, .t 13, .t 14]),
  kM 4 15]) .rt))⟩
theorem k68 : cF Tryz.prog Tryz.f68 = some c68 := by kernel_rfl
def c69 : Fu := ⟨86, [.t 2], (.sq (.rg [kG 2 (.mv (.c (.bool false)))]) (.sq (.sq (.rg [kM 4 0,
  kN 5 4,
  kF 6 5 5,
  kL 7 6]) (.cd (.t 7) (.sq (.rg [kG 2 (.mv (.c (.bool false)))]) .rt) .sk)) (.sq (.sq (.rg [kM 8 0,
  kN 9 8,
  kF 10 9 1,
  kL 11 10,
  kG 12 (.ib .eql (.t 11) (.c (.int .i64 0)))]) (.cd (.t 12) (.sq (.rg [kM 13 0,
  kM 14 0,
  kN 15 14,
  kF 16 15 0,
  kL 17 16,
  kN 18 17,
  kF 19 18 0,
  kL 20 19,
  kN 21 20,
  kF 22 21 6,
  kL 23 22,
  kG 24 (.ca 95 [.t 23, (.c (.int .i64 2))]),
  kG 25 (.ca 94 [.t 24]),
  kN 26 13,
  kF 27 26 3,
  kS (.st (.t 27) (.t 25) 1)]) (.sq (.rd [⟨0, 0, [0], kM 28 0⟩, ⟨1, 1, [28], kN 29 28⟩, ⟨2, 3, [29], kF 30 29 0⟩, ⟨3, 7, [30], kL 31 30⟩, ⟨4, 0, [0], kM 32 0⟩, ⟨5, 16, [32], kN 33 32⟩, ⟨6, 48, [33], kF 34 33 3⟩, ⟨7, 112, [34], kL 35 34⟩, ⟨8, 255, [31, 35], kG 36 (.ca 80 [.t 31, .t 35])⟩]) (.sq (.rg [kM 37 0,
  kG 38 (.ca 162 [.t 37])]) (.sq (.sq (.rg [kM 39 0,
  kN 40 39,
  kF 41 40 5,
  kL 42 41,
  kG 43 (.nt (.t 42))]) (.cd (.t 43) (.rg [kM 44 0,
  kG 45 (.ca 163 [.t 44])]) .sk)) (.sq (.rg [kG 2 (.mv (.c (.bool true)))]) .rt))))) .sk)) (.sq (.rg [kM 46 0,
  kN 47 46,
  kF 48 47 4,
  kL 49 48,
  kG 50 (.ca 164 [.t 49])]) (.sq (.sq (.rg [kM 51 0,
  kN 52 51,
  kF 53 52 4,
  kL 54 53,
  kN 55 54,
  kF 56 55 6,
  kL 57 56,
  kG 58 (.nt (.t 57))]) (.cd (.t 58) (.sq (.rg [kG 2 (.mv (.c (.bool true)))]) .rt) .sk)) (.sq (.rg [kM 59 0,
  kN 60 59,
  kF 61 60 4,
  kL 62 61,
  kG 63 (.ca 165 [.t 62]),
  kM 3 63]) (.sq (.sq (.rg [kM 64 3,
  kG 65 (.len (.t 64)),
  kG 66 (.ib .gtr (.t 65) (.c (.int .i64 0)))]) (.cd (.t 66) (.sq (.rg [kM 67 0,
  kM 68 3,
  kG 69 (.ia (.t 68) (.c (.int .i64 0)) 1),
  kL 70 69,
  kN 71 67,
  kF 72 71 2,
  kS (.st (.t 72) (.t 70) 1)]) (.rd [⟨0, 0, [0], kM 73 0⟩, ⟨1, 1, [73], kN 74 73⟩, ⟨2, 3, [74], kF 75 74 0⟩, ⟨3, 7, [75], kL 76 75⟩, ⟨4, 15, [76], kN 77 76⟩, ⟨5, 31, [77], kF 78 77 1⟩, ⟨6, 63, [78], kL 79 78⟩, ⟨7, 0, [3], kM 80 3⟩, ⟨8, 128, [80], kG 81 (.sl 1 (.t 80) (some (.c (.int .i64 1))) none none)⟩, ⟨9, 511, [79, 81], kG 82 (.ca 31 [.t 79, .t 81])⟩])) .sk)) (.sq (.rg [kM 83 0,
  kN 84 83,
  kF 85 84 5,
  kS (.st (.t 85) (.c (.bool true)) 1)]) (.sq (.rg [kG 2 (.mv (.c (.bool true)))]) .rt)))))))))⟩
theorem k69 : cF Tryz.prog Tryz.f69 = some c69 := by kernel_rfl
def c70 : Fu := ⟨95, [.t 4], (.sq (.rg [kG 4 (.mv (.c (.bool false)))]) (.sq (.rd [⟨0, 0, [0], kM 9 0⟩, ⟨1, 0, [1], kM 10 1⟩, ⟨2, 1, [9], kN 11 9⟩, ⟨3, 5, [11], kF 12 11 0⟩, ⟨4, 15, [12, 10], kG 13 (.iaa (.t 12) (.t 10) 3 1)⟩, ⟨5, 31, [13], kL 14 13⟩, ⟨6, 0, [0], kM 15 0⟩, ⟨7, 0, [1], kM 16 1⟩, ⟨8, 64, [15], kN 17 15⟩, ⟨9, 320, [17], kF 18 17 6⟩, ⟨10, 960, [18, 16], kG 19 (.iaa (.t 18) (.t 16) 3 1)⟩, ⟨11, 1984, [19], kL 20 19⟩, ⟨12, 63, [14], kM 5 14⟩, ⟨13, 8191, [20], kM 6 20⟩]) (.sq (.rg [kM 22 5,
  kG 23 (.ca 58 [.t 22]),
  kM 21 23,
  kG 24 (.ex (.t 21) 0),
  kG 25 (.ex (.t 21) 1),
  kM 7 24,
  kM 8 25]) (.sq (.sq (.rd [⟨0, 0, [5], kM 26 5⟩, ⟨1, 1, [26], kG 27 (.ca 56 [.t 26])⟩, ⟨2, 0, [6], kM 28 6⟩, ⟨3, 4, [28], kN 29 28⟩, ⟨4, 12, [29], kF 30 29 5⟩, ⟨5, 28, [30], kL 31 30⟩, ⟨6, 63, [27, 31], kG 32 (.bb true (.t 27) (.t 31))⟩, ⟨7, 127, [32], kM 33 32⟩, ⟨8, 255, [5, 33], kH 34 33 false (.mv (.t 5))⟩, ⟨9, 511, [34, 33], kH 35 33 false (.ca 59 [.t 34])⟩, ⟨10, 255, [6, 33], kH 36 33 false (.mv (.t 6))⟩, ⟨11, 1279, [36, 33], kH 37 33 false (.nc (.t 36))⟩, ⟨12, 3327, [37, 33], kH 38 33 false (.fa (.t 37) 3)⟩, ⟨13, 7423, [38, 33], kH 39 33 false (.ld (.t 38) 1 false)⟩, ⟨14, 16383, [35, 39, 33], kH 40 33 false (.ib .neq (.t 35) (.t 39))⟩, ⟨15, 32767, [33, 40], kG 41 (.pk (.t 33) (.c (.bool true)) (.t 40))⟩]) (.cd (.t 41) (.sq (.rg [kG 4 (.mv (.c (.bool false)))]) .rt) .sk)) (.sq (.sq (.rg [kM 42 6,
  kN 43 42,
  kF 44 43 5,
  kL 45 44,
  kG 46 (.nt (.t 45))]) (.cd (.t 46) (.sq (.rg [kM 47 7,
  kG 48 (.ib .eql (.t 47) (.c (.int .i64 0))),
  kM 49 48,
  kH 50 49 true (.mv (.t 8)),
  kH 51 49 true (.nt (.t 50)),
  kG 52 (.pk (.t 49) (.t 51) (.c (.bool false))),
  kM 4 52]) .rt) .sk)) (.sq (.rg [kM 53 0,
  kM 54 1,
  kN 55 53,
  kF 56 55 0,
  kG 57 (.iaa (.t 56) (.t 54) 3 1),
  kS (.st (.t 57) (.c (.pointer none)) 1)]) (.sq (.sq (.rg [kM 58 6,
  kN 59 58,
  kF 60 59 2,
  kL 61 60,
  kG 62 (.ib .lss (.t 61) (.c (.int .i64 0)))]) (.cd (.t 62) (.sq (.rg [kM 63 7,
  kG 64 (.ib .eql (.t 63) (.c (.int .i64 0))),
  kM 65 64,
  kH 66 65 true (.mv (.t 8)),
  kH 67 65 true (.nt (.t 66)),
  kG 68 (.pk (.t 65) (.t 67) (.c (.bool false))),
  kM 4 68]) .rt) .sk)) (.sq (.rd [⟨0, 0, [0], kM 69 0⟩, ⟨1, 0, [1], kM 70 1⟩, ⟨2, 0, [0], kM 71 0⟩, ⟨3, 0, [1], kM 72 1⟩, ⟨4, 4, [71], kN 73 71⟩, ⟨5, 20, [73], kF 74 73 12⟩, ⟨6, 60, [74, 72], kG 75 (.iaa (.t 74) (.t 72) 3 1)⟩, ⟨7, 124, [75], kL 76 75⟩, ⟨8, 0, [6], kM 77 6⟩, ⟨9, 256, [77], kN 78 77⟩, ⟨10, 768, [78], kF 79 78 2⟩, ⟨11, 1792, [79], kL 80 79⟩, ⟨12, 3840, [80], kG 81 (.bs 3 1 [.int .i64 0] [(0, 1, (.t 80))])⟩, ⟨13, 8188, [76, 81], kG 82 (.ap 22 3 1 8 [.int .i64 0] (.t 76) (.t 81))⟩, ⟨14, 1, [69], kN 83 69⟩, ⟨15, 16385, [83], kF 84 83 12⟩, ⟨16, 65535, [84, 70], kG 85 (.iaa (.t 84) (.t 70) 3 1)⟩, ⟨17, 131071, [85, 82], kS (.st (.t 85) (.t 82) 1)⟩]) (.sq (.rg [kM 86 7,
  kM 87 6,
  kN 88 87,
  kF 89 88 2,
  kL 90 89,
  kG 91 (.ib .eql (.t 86) (.t 90)),
  kM 92 91,
  kH 93 92 true (.mv (.t 8)),
  kG 94 (.pk (.t 92) (.t 93) (.c (.bool false))),
  kM 4 94]) .rt)))))))))⟩
theorem k70 : cF Tryz.prog Tryz.f70 = some c70 := by kernel_rfl
def c71 : Fu := ⟨7, [.t 2], (.sq (.rg [kG 2 (.mv (.c (.bool false)))]) (.sq (.rg [kM 3 0,
  kN 4 3,
  kF 5 4 0,
  kG 6 (.ca 92 [.t 5]),
  kM 2 6]) .rt))⟩
theorem k71 : cF Tryz.prog Tryz.f71 = some c71 := by kernel_rfl
def c72 : Fu := ⟨22, [.t 2], (.sq (.rg [kG 2 (.mv (.c (.bool false)))]) (.sq (.sq (.rg [kM 3 0,
  kN 4 3,
  kF 5 4 2,
  kL 6 5]) (.cd (.t 6) (.sq (.rg [kG 2 (.mv (.c (.bool false)))]) .rt) .sk)) (.sq (.rg [kM 7 0,
  kN 8 7,
  kF 9 8 0,
  kL 10 9,
  kG 11 (.ca 140 [.t 10])]) (.sq (.rg [kM 12 0,
  kM 13 0,
  kN 14 13,
  kF 15 14 0,
  kL 16 15,
  kN 17 16,
  kF 18 17 4,
  kL 19 18,
  kN 20 12,
  kF 21 20 2,
  kS (.st (.t 21) (.t 19) 1)]) (.sq (.rg [kG 2 (.mv (.c (.bool true)))]) .rt)))))⟩
theorem k72 : cF Tryz.prog Tryz.f72 = some c72 := by kernel_rfl
def c73 : Fu := ⟨43, [.t 4], (.sq (.rg [kG 4 (.mv (.c (.bool false)))]) (.sq (.rd [⟨0, 0, [0], kM 7 0⟩, ⟨1, 0, [1], kM 8 1⟩, ⟨2, 1, [7], kN 9 7⟩, ⟨3, 5, [9], kF 10 9 3⟩, ⟨4, 15, [10, 8], kG 11 (.iaa (.t 10) (.t 8) 3 1)⟩, ⟨5, 31, [11], kL 12 11⟩, ⟨6, 0, [0], kM 13 0⟩, ⟨7, 0, [1], kM 14 1⟩, ⟨8, 64, [13], kN 15 13⟩, ⟨9, 320, [15], kF 16 15 9⟩, ⟨10, 960, [16, 14], kG 17 (.iaa (.t 16) (.t 14) 3 1)⟩, ⟨11, 1984, [17], kL 18 17⟩, ⟨12, 63, [12], kM 5 12⟩, ⟨13, 8191, [18], kM 6 18⟩]) (.sq (.sq (.rd [⟨0, 0, [5], kM 19 5⟩, ⟨1, 1, [19], kG 20 (.ca 166 [.t 19])⟩, ⟨2, 0, [6], kM 21 6⟩, ⟨3, 4, [21], kN 22 21⟩, ⟨4, 12, [22], kF 23 22 2⟩, ⟨5, 28, [23], kL 24 23⟩, ⟨6, 63, [20, 24], kG 25 (.bb true (.t 20) (.t 24))⟩, ⟨7, 127, [25], kM 26 25⟩, ⟨8, 255, [5, 26], kH 27 26 false (.mv (.t 5))⟩, ⟨9, 511, [27, 26], kH 28 26 false (.ca 98 [.t 27])⟩, ⟨10, 255, [6, 26], kH 29 26 false (.mv (.t 6))⟩, ⟨11, 2047, [29, 26], kH 30 26 false (.ca 99 [.t 29])⟩, ⟨12, 4095, [28, 30, 26], kH 31 26 false (.ca 12 [.t 28, .t 30])⟩, ⟨13, 8191, [31, 26], kH 32 26 false (.nt (.t 31))⟩, ⟨14, 16383, [26, 32], kG 33 (.pk (.t 26) (.c (.bool true)) (.t 32))⟩]) (.cd (.t 33) (.sq (.rg [kG 4 (.mv (.c (.bool false)))]) .rt) .sk)) (.sq (.sq (.rg [kM 34 6,
  kN 35 34,
  kF 36 35 2,
  kL 37 36]) (.cd (.t 37) (.rg [kM 38 0,
  kM 39 1,
  kN 40 38,
  kF 41 40 3,
  kG 42 (.iaa (.t 41) (.t 39) 3 1),
  kS (.st (.t 42) (.c (.pointer none)) 1)]) .sk)) (.sq (.rg [kG 4 (.mv (.c (.bool true)))]) .rt)))))⟩
theorem k73 : cF Tryz.prog Tryz.f73 = some c73 := by kernel_rfl
def c74 : Fu := ⟨25, [.t 2], (.sq (.rg [kG 2 (.mv (.c (.pointer none)))]) (.sq (.rg [kM 4 0,
  kG 5 (.bd [(.pointer none), .int .i64 0, .int .i64 0, .int .i64 0, (.pointer none), (.bool false)] [(0, 1, (.t 4)), (2, 1, (.c (.int .i64 (-1)))), (3, 1, (.c (.int .i64 (-1))))]),
  kG 6 (.bx 169 (.t 5)),
  kM 3 6]) (.sq (.rg [kM 7 3,
  kG 8 (.ca 162 [.t 7])]) (.sq (.sq (.rg [kM 9 3,
  kN 10 9,
  kF 11 10 5,
  kL 12 11,
  kG 13 (.nt (.t 12)),
  kM 14 13,
  kH 15 14 true (.mv (.t 0)),
  kH 16 14 true (.nc (.t 15)),
  kH 17 14 true (.fa (.t 16) 2),
  kH 18 14 true (.ld (.t 17) 1 false),
  kH 19 14 true (.ca 167 [.t 18]),
  kH 20 14 true (.ib .eql (.t 19) (.c (.int .i64 0))),
  kG 21 (.pk (.t 14) (.t 20) (.c (.bool false)))]) (.cd (.t 21) (.rg [kM 22 3,
  kG 23 (.ca 163 [.t 22])]) .sk)) (.sq (.rg [kM 24 3,
  kM 2 24]) .rt)))))⟩
theorem k74 : cF Tryz.prog Tryz.f74 = some c74 := by kernel_rfl
def c75 : Fu := ⟨10, [.t 2], (.sq (.rg [kG 2 (.mv (.c (.pointer none)))]) (.sq (.rg [kM 3 0,
  kM 4 0,
  kN 5 4,
  kF 6 5 8,
  kL 7 6,
  kG 8 (.ca 169 [.t 7]),
  kG 9 (.ca 168 [.t 3, .t 8]),
  kM 2 9]) .rt))⟩
theorem k75 : cF Tryz.prog Tryz.f75 = some c75 := by kernel_rfl
def c76 : Fu := ⟨10, [.t 2], (.sq (.rg [kG 2 (.mv (.c (.pointer none)))]) (.sq (.rg [kM 3 0,
  kM 4 0,
  kN 5 4,
  kF 6 5 1,
  kL 7 6,
  kG 8 (.ca 171 [.t 7]),
  kG 9 (.ca 170 [.t 3, .t 8]),
  kM 2 9]) .rt))⟩
theorem k76 : cF Tryz.prog Tryz.f76 = some c76 := by kernel_rfl
def c77 : Fu := ⟨10, [.t 2], (.sq (.rg [kG 2 (.mv (.c (.pointer none)))]) (.sq (.rg [kM 3 0,
  kM 4 0,
  kN 5 4,
  kF 6 5 8,
  kL 7 6,
  kG 8 (.ca 172 [.t 7]),
  kG 9 (.ca 168 [.t 3, .t 8]),
  kM 2 9]) .rt))⟩
theorem k77 : cF Tryz.prog Tryz.f77 = some c77 := by kernel_rfl
def c78 : Fu := ⟨10, [.t 2], (.sq (.rg [kG 2 (.mv (.c (.pointer none)))]) (.sq (.rg [kM 3 0,
  kM 4 0,
  kN 5 4,
  kF 6 5 1,
  kL 7 6,
  kG 8 (.ca 173 [.t 7]),
  kG 9 (.ca 170 [.t 3, .t 8]),
  kM 2 9]) .rt))⟩
theorem k78 : cF Tryz.prog Tryz.f78 = some c78 := by kernel_rfl
def c79 : Fu := ⟨20, [.t 4], (.sq (.rg [kG 4 (.mv (.c (.int .i64 0)))]) (.sq (.rg [kM 6 0,
  kN 7 6,
  kF 8 7 9,
  kL 9 8,
  kM 10 1,
  kG 11 (.ca 174 [.t 9, .t 10]),
  kM 5 11]) (.sq (.rg [kM 12 0,
  kN 13 12,
  kF 14 13 8,
  kL 15 14,
  kM 16 5,
  kG 17 (.ca 106 [.t 15, .t 16])]) (.sq (.rg [kM 18 5,
  kG 19 (.len (.t 18)),
  kM 4 19]) .rt))))⟩
theorem k79 : cF Tryz.prog Tryz.f79 = some c79 := by kernel_rfl
def c80 : Fu := ⟨20, [.t 4], (.sq (.rg [kG 4 (.mv (.c (.int .i64 0)))]) (.sq (.rg [kM 6 0,
  kN 7 6,
  kF 8 7 2,
  kL 9 8,
  kM 10 1,
  kG 11 (.ca 175 [.t 9, .t 10]),
  kM 5 11]) (.sq (.rg [kM 12 0,
  kN 13 12,
  kF 14 13 1,
  kL 15 14,
  kM 16 5,
  kG 17 (.ca 31 [.t 15, .t 16])]) (.sq (.rg [kM 18 5,
  kG 19 (.len (.t 18)),
  kM 4 19]) .rt))))⟩
theorem k80 : cF Tryz.prog Tryz.f80 = some c80 := by kernel_rfl
def c81 : Fu := ⟨16, [.t 4], (.sq (.rg [kG 4 (.mv (.c (.int .u64 0)))]) (.sq (.sq (.rg [kM 5 0,
  kM 6 1,
  kG 7 (.ca 110 [.t 5, .t 6]),
  kG 8 (.nt (.t 7))]) (.cd (.t 8) (.sq (.rg [kG 4 (.mv (.c (.int .u64 0)))]) .rt) .sk)) (.sq (.rg [kM 9 0,
  kN 10 9,
  kF 11 10 0,
  kL 12 11,
  kM 13 1,
  kG 14 (.ia (.t 12) (.t 13) 1),
  kL 15 14,
  kM 4 15]) .rt)))⟩
theorem k81 : cF Tryz.prog Tryz.f81 = some c81 := by kernel_rfl
def c82 : Fu := ⟨8, [.t 2], (.sq (.rg [kG 2 (.mv (.c (.slice none 0 0)))]) (.sq (.rg [kM 3 0,
  kN 4 3,
  kF 5 4 8,
  kL 6 5,
  kG 7 (.ca 176 [.t 6]),
  kM 2 7]) .rt))⟩
theorem k82 : cF Tryz.prog Tryz.f82 = some c82 := by kernel_rfl
def c83 : Fu := ⟨14, [.t 4, .t 5], (.sq (.rg [kG 4 (.mv (.c (.int .i64 0))),
  kG 5 (.mv (.c (.slice none 0 0)))]) (.sq (.rg [kM 6 0,
  kN 7 6,
  kF 8 7 9,
  kL 9 8,
  kM 10 1,
  kG 11 (.ca 177 [.t 9, .t 10]),
  kG 12 (.ex (.t 11) 0),
  kG 13 (.ex (.t 11) 1),
  kM 4 12,
  kM 5 13]) .rt))⟩
theorem k83 : cF Tryz.prog Tryz.f83 = some c83 := by kernel_rfl
def c84 : Fu := ⟨17, [.t 4], (.sq (.rg [kG 4 (.mv (.c (.int .i64 0)))]) (.sq (.sq (.rg [kM 6 1,
  kG 7 (.ca 178 [.t 6]),
  kG 5 (.al 260 [.int .i64 0, .int .i64 0]),
  kS (.st (.t 5) (.t 7) 2)]) (.sq (.rd [⟨0, 0, [5], kF 8 5 0⟩, ⟨1, 1, [8], kL 9 8⟩, ⟨2, 0, [0], kM 10 0⟩, ⟨3, 4, [10], kN 11 10⟩, ⟨4, 12, [11], kF 12 11 3⟩, ⟨5, 28, [12], kL 13 12⟩, ⟨6, 63, [9, 13], kG 14 (.ib .lss (.t 9) (.t 13))⟩]) (.cd (.t 14) (.sq (.rg [kF 15 5 0,
  kL 16 15,
  kM 4 16]) .rt) .sk))) (.sq (.rg [kG 4 (.mv (.c (.int .i64 (-1))))]) .rt)))⟩
theorem k84 : cF Tryz.prog Tryz.f84 = some c84 := by kernel_rfl
def c85 : Fu := ⟨15, [.t 4], (.sq (.rg [kG 4 (.mv (.c (.int .i64 0)))]) (.sq (.sq (.rg [kM 5 1,
  kM 6 0,
  kN 7 6,
  kF 8 7 3,
  kL 9 8,
  kG 10 (.cv .u64 (.t 9)),
  kG 11 (.ib .gtr (.t 5) (.t 10))]) (.cd (.t 11) (.sq (.rg [kG 4 (.mv (.c (.int .i64 (-1))))]) .rt) .sk)) (.sq (.rg [kM 12 1,
  kG 13 (.cv .i64 (.t 12)),
  kG 14 (.ib .sub (.t 13) (.c (.int .i64 1))),
  kM 4 14]) .rt)))⟩
theorem k85 : cF Tryz.prog Tryz.f85 = some c85 := by kernel_rfl
def c86 : Fu := ⟨16, [.t 4], (.sq (.rg [kG 4 (.mv (.c (.int .i64 0)))]) (.sq (.rg [kM 6 1,
  kG 7 (.ca 179 [.t 6]),
  kG 8 (.fv (.t 7) 0 1 false),
  kM 5 8]) (.sq (.sq (.rg [kM 9 5,
  kM 10 0,
  kN 11 10,
  kF 12 11 3,
  kL 13 12,
  kG 14 (.ib .geq (.t 9) (.t 13))]) (.cd (.t 14) (.sq (.rg [kG 4 (.mv (.c (.int .i64 (-1))))]) .rt) .sk)) (.sq (.rg [kM 15 5,
  kM 4 15]) .rt))))⟩
theorem k86 : cF Tryz.prog Tryz.f86 = some c86 := by kernel_rfl
def c87 : Fu := ⟨15, [.t 4], (.sq (.rg [kG 4 (.mv (.c (.int .i64 0)))]) (.sq (.sq (.rg [kM 5 1,
  kM 6 0,
  kN 7 6,
  kF 8 7 3,
  kL 9 8,
  kG 10 (.cv .u64 (.t 9)),
  kG 11 (.ib .gtr (.t 5) (.t 10))]) (.cd (.t 11) (.sq (.rg [kG 4 (.mv (.c (.int .i64 (-1))))]) .rt) .sk)) (.sq (.rg [kM 12 1,
  kG 13 (.cv .i64 (.t 12)),
  kG 14 (.ib .sub (.t 13) (.c (.int .i64 1))),
  kM 4 14]) .rt)))⟩
theorem k87 : cF Tryz.prog Tryz.f87 = some c87 := by kernel_rfl
def c92 : Fu := ⟨25, [.t 2], (.sq (.rg [kG 2 (.mv (.c (.bool false)))]) (.sq (.sq (.rg [kM 4 0,
  kN 5 4,
  kF 6 5 0,
  kL 7 6,
  kG 8 (.en 2 false (.t 7) (.c .nilFunc))]) (.cd (.t 8) (.sq (.rg [kG 2 (.mv (.c (.bool false)))]) .rt) .sk)) (.sq (.rg [kM 9 0,
  kN 10 9,
  kF 11 10 0,
  kL 12 11,
  kM 3 12]) (.sq (.rg [kM 13 0,
  kN 14 13,
  kF 15 14 0,
  kS (.st (.t 15) (.c .nilFunc) 1)]) (.sq (.rg [kM 16 0,
  kN 17 16,
  kF 18 17 4,
  kL 19 18,
  kG 20 (.ib .add (.t 19) (.c (.int .i64 1))),
  kN 21 16,
  kF 22 21 4,
  kS (.st (.t 22) (.t 20) 1)]) (.sq (.rg [kM 23 3,
  kG 24 (.cl (.t 23) [])]) (.sq (.rg [kG 2 (.mv (.c (.bool true)))]) .rt)))))))⟩
theorem k92 : cF Tryz.prog Tryz.f92 = some c92 := by kernel_rfl
def c94 : Fu := ⟨7, [.t 2], (.sq (.rg [kG 2 (.mv (.c (.int .i64 0)))]) (.sq (.sq (.rg [kM 3 0,
  kG 4 (.ib .gtr (.t 3) (.c (.int .u64 4611686018427387903)))]) (.cd (.t 4) (.sq (.rg [kG 2 (.mv (.c (.int .i64 4611686018427387903)))]) .rt) .sk)) (.sq (.rg [kM 5 0,
  kG 6 (.cv .i64 (.t 5)),
  kM 2 6]) .rt)))⟩
theorem k94 : cF Tryz.prog Tryz.f94 = some c94 := by kernel_rfl
def c95 : Fu := ⟨19, [.t 4], (.sq (.rg [kG 4 (.mv (.c (.int .u64 0)))]) (.sq (.rg [kM 5 0,
  kN 6 5,
  kF 7 6 1,
  kL 8 7,
  kG 9 (.ib .add (.t 8) (.c (.int .i64 1))),
  kN 10 5,
  kF 11 10 1,
  kS (.st (.t 11) (.t 9) 1)]) (.sq (.rg [kM 12 0,
  kN 13 12,
  kF 14 13 0,
  kL 15 14,
  kM 16 1,
  kG 17 (.ia (.t 15) (.t 16) 1),
  kL 18 17,
  kM 4 18]) .rt)))⟩
theorem k95 : cF Tryz.prog Tryz.f95 = some c95 := by kernel_rfl
def c96 : Fu := ⟨8, [.t 2], (.sq (.rg [kG 2 (.mv (.c (.bool false)))]) (.sq (.rg [kM 3 0,
  kN 4 3,
  kF 5 4 0,
  kL 6 5,
  kG 7 (.en 2 false (.t 6) (.c .nilFunc)),
  kM 2 7]) .rt))⟩
theorem k96 : cF Tryz.prog Tryz.f96 = some c96 := by kernel_rfl
def c98 : Fu := ⟨10, [.t 2], (.sq (.rg [kG 2 (.mv (.c (.slice none 0 0)))]) (.sq (.sq (.rg [kM 3 0,
  kG 4 (.ca 166 [.t 3])]) (.cd (.t 4) (.sq (.rg [kG 2 (.mv (.c (.slice none 0 0)))]) .rt) .sk)) (.sq (.rg [kM 5 0,
  kN 6 5,
  kF 7 6 5,
  kL 8 7,
  kG 9 (.ca 184 [.t 8]),
  kM 2 9]) .rt)))⟩
theorem k98 : cF Tryz.prog Tryz.f98 = some c98 := by kernel_rfl
def c99 : Fu := ⟨12, [.t 2], (.sq (.rg [kG 2 (.mv (.c (.slice none 0 0)))]) (.sq (.sq (.rg [kM 3 0,
  kN 4 3,
  kF 5 4 2,
  kL 6 5]) (.cd (.t 6) (.sq (.rg [kG 2 (.mv (.c (.slice none 0 0)))]) .rt) .sk)) (.sq (.rg [kM 7 0,
  kN 8 7,
  kF 9 8 1,
  kL 10 9,
  kG 11 (.ap 22 3 1 8 [.int .i64 0] (.c (.slice none 0 0)) (.t 10)),
  kM 2 11]) .rt)))⟩
theorem k99 : cF Tryz.prog Tryz.f99 = some c99 := by kernel_rfl
def c101 : Fu := ⟨22, [], (.sq (.rg [kM 8 0,
  kM 9 0,
  kM 10 0,
  kM 11 1,
  kM 12 2,
  kM 13 3,
  kN 14 8,
  kF 15 14 1,
  kS (.st (.t 15) (.t 11) 1),
  kN 16 9,
  kF 17 16 2,
  kS (.st (.t 17) (.t 12) 1),
  kN 18 10,
  kF 19 18 3,
  kS (.st (.t 19) (.t 13) 1)]) (.rg [kM 20 0,
  kG 21 (.ca 186 [.t 20])]))⟩
theorem k101 : cF Tryz.prog Tryz.f101 = some c101 := by kernel_rfl
def c105 : Fu := ⟨66, [.t 6, .t 7], (.sq (.rg [kG 6 (.mv (.c (.slice none 0 0))),
  kG 7 (.mv (.c (.int .i64 0)))]) (.sq (.sq (.rg [kM 10 2,
  kG 11 (.len (.t 10)),
  kG 12 (.ib .eql (.t 11) (.c (.int .i64 0))),
  kM 13 12,
  kH 14 13 false (.mv (.t 1)),
  kH 15 13 false (.ib .lss (.t 14) (.c (.int .i64 0))),
  kG 16 (.pk (.t 13) (.c (.bool true)) (.t 15)),
  kM 17 16,
  kH 18 17 false (.mv (.t 1)),
  kH 19 17 false (.ib .gtr (.t 18) (.c (.int .i64 4611686018427387903))),
  kG 20 (.pk (.t 17) (.c (.bool true)) (.t 19)),
  kM 21 20,
  kH 22 21 false (.mv (.t 1)),
  kH 23 21 false (.mv (.t 0)),
  kH 24 21 false (.nc (.t 23)),
  kH 25 21 false (.fa (.t 24) 6),
  kH 26 21 false (.ld (.t 25) 1 false),
  kH 27 21 false (.ib .lss (.t 22) (.t 26)),
  kG 28 (.pk (.t 21) (.c (.bool true)) (.t 27))]) (.cd (.t 28) (.sq (.rg [kG 6 (.mv (.c (.slice none 0 0))),
  kG 7 (.mv (.c (.int .i64 1)))]) .rt) .sk)) (.sq (.rg [kM 29 0,
  kM 30 1,
  kN 31 29,
  kF 32 31 6,
  kS (.st (.t 32) (.t 30) 1)]) (.sq (.rg [kM 33 0,
  kM 34 1,
  kG 35 (.ib .rem (.t 34) (.c (.int .i64 3))),
  kN 36 33,
  kF 37 36 0,
  kG 38 (.iaa (.t 37) (.t 35) 3 2),
  kM 8 38]) (.sq (.rg [kG 9 (.mv (.c (.slice none 0 0)))]) (.sq (.sq (.rg [kM 39 8,
  kN 40 39,
  kF 41 40 0,
  kL 42 41,
  kM 43 1,
  kG 44 (.ib .lss (.t 42) (.t 43))]) (.cd (.t 44) (.sq (.rg [kM 45 8,
  kN 46 45,
  kF 47 46 1,
  kL 48 47,
  kM 9 48]) (.rg [kM 49 8,
  kN 50 49,
  kF 51 50 1,
  kS (.st (.t 51) (.c (.slice none 0 0)) 1)])) .sk)) (.sq (.rg [kM 52 8,
  kM 53 1,
  kN 54 52,
  kF 55 54 0,
  kS (.st (.t 55) (.t 53) 1)]) (.sq (.rg [kM 56 8,
  kM 57 8,
  kN 58 57,
  kF 59 58 1,
  kL 60 59,
  kM 61 2,
  kG 62 (.ap 22 3 1 8 [.int .i64 0] (.t 60) (.t 61)),
  kN 63 56,
  kF 64 63 1,
  kS (.st (.t 64) (.t 62) 1)]) (.sq (.rg [kM 65 9,
  kM 6 65,
  kG 7 (.mv (.c (.int .i64 0)))]) .rt)))))))))⟩
theorem k105 : cF Tryz.prog Tryz.f105 = some c105 := by kernel_rfl
def c106 : Fu := ⟨13, [], (.rg [kM 4 0,
  kM 5 0,
  kN 6 5,
  kF 7 6 1,
  kL 8 7,
  kM 9 1,
  kG 10 (.ap 22 3 1 8 [.int .i64 0] (.t 8) (.t 9)),
  kN 11 4,
  kF 12 11 1,
  kS (.st (.t 12) (.t 10) 1)])⟩
theorem k106 : cF Tryz.prog Tryz.f106 = some c106 := by kernel_rfl
def c107 : Fu := ⟨85, [.t 6, .t 7], (.sq (.rg [kG 6 (.mv (.c (.slice none 0 0))),
  kG 7 (.mv (.c (.bool false)))]) (.sq (.sq (.rg [kM 10 2,
  kG 11 (.len (.t 10)),
  kG 12 (.ib .eql (.t 11) (.c (.int .i64 0))),
  kM 13 12,
  kH 14 13 false (.mv (.t 1)),
  kH 15 13 false (.ib .lss (.t 14) (.c (.int .i64 0))),
  kG 16 (.pk (.t 13) (.c (.bool true)) (.t 15)),
  kM 17 16,
  kH 18 17 false (.mv (.t 1)),
  kH 19 17 false (.ib .gtr (.t 18) (.c (.int .i64 4611686018427387903))),
  kG 20 (.pk (.t 17) (.c (.bool true)) (.t 19)),
  kM 21 20,
  kH 22 21 false (.mv (.t 1)),
  kH 23 21 false (.mv (.t 0)),
  kH 24 21 false (.nc (.t 23)),
  kH 25 21 false (.fa (.t 24) 6),
  kH 26 21 false (.ld (.t 25) 1 false),
  kH 27 21 false (.ib .lss (.t 22) (.t 26)),
  kG 28 (.pk (.t 21) (.c (.bool true)) (.t 27))]) (.cd (.t 28) (.sq (.rg [kG 6 (.mv (.c (.slice none 0 0))),
  kG 7 (.mv (.c (.bool false)))]) .rt) .sk)) (.sq (.rg [kM 29 0,
  kM 30 1,
  kN 31 29,
  kF 32 31 6,
  kS (.st (.t 32) (.t 30) 1)]) (.sq (.rg [kM 33 1,
  kG 34 (.ib .rem (.t 33) (.c (.int .i64 3))),
  kM 8 34]) (.sq (.rg [kG 9 (.mv (.c (.slice none 0 0)))]) (.sq (.sq (.rg [kM 35 0,
  kM 36 8,
  kN 37 35,
  kF 38 37 3,
  kG 39 (.iaa (.t 38) (.t 36) 3 1),
  kL 40 39,
  kG 41 (.len (.t 40)),
  kG 42 (.ib .gtr (.t 41) (.c (.int .i64 0))),
  kM 43 42,
  kH 44 43 true (.mv (.t 0)),
  kH 45 43 true (.mv (.t 8)),
  kH 46 43 true (.nc (.t 44)),
  kH 47 43 true (.fa (.t 46) 0),
  kH 48 43 true (.iaa (.t 47) (.t 45) 3 1),
  kH 49 43 true (.ld (.t 48) 1 false),
  kH 50 43 true (.mv (.t 1)),
  kH 51 43 true (.ib .lss (.t 49) (.t 50)),
  kG 52 (.pk (.t 43) (.t 51) (.c (.bool false)))]) (.cd (.t 52) (.sq (.rg [kM 53 0,
  kM 54 8,
  kN 55 53,
  kF 56 55 3,
  kG 57 (.iaa (.t 56) (.t 54) 3 1),
  kL 58 57,
  kM 9 58]) (.rg [kM 59 0,
  kM 60 8,
  kN 61 59,
  kF 62 61 3,
  kG 63 (.iaa (.t 62) (.t 60) 3 1),
  kS (.st (.t 63) (.c (.slice none 0 0)) 1)])) .sk)) (.sq (.rg [kM 64 0,
  kM 65 8,
  kM 66 1,
  kN 67 64,
  kF 68 67 0,
  kG 69 (.iaa (.t 68) (.t 65) 3 1),
  kS (.st (.t 69) (.t 66) 1)]) (.sq (.rd [⟨0, 0, [0], kM 70 0⟩, ⟨1, 0, [8], kM 71 8⟩, ⟨2, 0, [0], kM 72 0⟩, ⟨3, 0, [8], kM 73 8⟩, ⟨4, 4, [72], kN 74 72⟩, ⟨5, 20, [74], kF 75 74 3⟩, ⟨6, 60, [75, 73], kG 76 (.iaa (.t 75) (.t 73) 3 1)⟩, ⟨7, 124, [76], kL 77 76⟩, ⟨8, 252, [77], kG 78 (.ap 22 3 1 8 [.int .i64 0] (.c (.slice none 0 0)) (.t 77))⟩, ⟨9, 0, [2], kM 79 2⟩, ⟨10, 1020, [78, 79], kG 80 (.ap 22 3 1 8 [.int .i64 0] (.t 78) (.t 79))⟩, ⟨11, 1, [70], kN 81 70⟩, ⟨12, 2049, [81], kF 82 81 3⟩, ⟨13, 8191, [82, 71], kG 83 (.iaa (.t 82) (.t 71) 3 1)⟩, ⟨14, 16383, [83, 80], kS (.st (.t 83) (.t 80) 1)⟩]) (.sq (.rg [kM 84 9,
  kM 6 84,
  kG 7 (.mv (.c (.bool true)))]) .rt)))))))))⟩
theorem k107 : cF Tryz.prog Tryz.f107 = some c107 := by kernel_rfl
def c108 : Fu := ⟨15, [.t 6], (.sq (.rg [kG 6 (.mv (.c (.bool false)))]) (.sq (.rg [kM 7 0,
  kM 8 1,
  kG 9 (.ib .geq (.t 7) (.t 8)),
  kM 10 9,
  kH 11 10 true (.mv (.t 0)),
  kH 12 10 true (.mv (.t 2)),
  kH 13 10 true (.ib .leq (.t 11) (.t 12)),
  kG 14 (.pk (.t 10) (.t 13) (.c (.bool false))),
  kM 6 14]) .rt))⟩
theorem k108 : cF Tryz.prog Tryz.f108 = some c108 := by kernel_rfl
def c109 : Fu := ⟨24, [.t 8], (.sq (.rg [kG 4 (.bx 25 (.t 0)),
  kG 8 (.mv (.c (.int .i64 0)))]) (.sq (.sq (.rg [kG 9 (.ld (.t 4) 6 true),
  kG 10 (.ca 188 [.t 9]),
  kG 11 (.nt (.t 10)),
  kM 12 11,
  kH 13 12 false (.mv (.t 3)),
  kH 14 12 false (.ib .lss (.t 13) (.c (.int .i64 0))),
  kG 15 (.pk (.t 12) (.c (.bool true)) (.t 14)),
  kM 16 15,
  kH 17 16 false (.mv (.t 3)),
  kH 18 16 false (.mv (.t 2)),
  kH 19 16 false (.ib .geq (.t 17) (.t 18)),
  kG 20 (.pk (.t 16) (.c (.bool true)) (.t 19))]) (.cd (.t 20) (.sq (.rg [kG 8 (.mv (.c (.int .i64 (-1))))]) .rt) .sk)) (.sq (.rg [kM 21 1,
  kM 22 3,
  kG 23 (.ib .add (.t 21) (.t 22)),
  kM 8 23]) .rt)))⟩
theorem k109 : cF Tryz.prog Tryz.f109 = some c109 := by kernel_rfl
def c110 : Fu := ⟨16, [.t 4], (.sq (.rg [kG 4 (.mv (.c (.bool false)))]) (.sq (.rg [kM 5 1,
  kG 6 (.ib .geq (.t 5) (.c (.int .i64 0))),
  kM 7 6,
  kH 8 7 true (.mv (.t 1)),
  kH 9 7 true (.mv (.t 0)),
  kH 10 7 true (.nc (.t 9)),
  kH 11 7 true (.fa (.t 10) 0),
  kH 12 7 true (.ld (.t 11) 1 false),
  kH 13 7 true (.len (.t 12)),
  kH 14 7 true (.ib .lss (.t 8) (.t 13)),
  kG 15 (.pk (.t 7) (.t 14) (.c (.bool false))),
  kM 4 15]) .rt))⟩
theorem k110 : cF Tryz.prog Tryz.f110 = some c110 := by kernel_rfl
def c111 : Fu := ⟨33, [.t 6], (.sq (.rg [kG 3 (.bx 25 (.t 0)),
  kG 6 (.mv (.c (.int .i64 0)))]) (.sq (.sq (.rg [kG 9 (.ld (.t 3) 6 true),
  kG 10 (.ca 150 [.t 9]),
  kG 11 (.nt (.t 10))]) (.cd (.t 11) (.sq (.rg [kG 6 (.mv (.c (.int .i64 (-1))))]) .rt) .sk)) (.sq (.sq (.rg [kG 12 (.ld (.t 3) 6 true),
  kG 13 (.ca 151 [.t 12]),
  kG 14 (.mv (.c (.int .i64 0)))]) (.bl 0 (.lp (.sq (.rg [kG 15 (.ib .lss (.t 14) (.c (.int .i64 5)))]) (.sq (.cd (.t 15) .sk (.ex 0)) (.sq (.bl 1 (.sq (.rg [kG 16 (.iv (.t 13) (.t 14) 5 3 true),
  kG 8 (.al 243 [.int .i64 0, .int .i64 0, .int .i64 0]),
  kS (.st (.t 8) (.t 16) 3)]) (.sq (.rg [kF 17 8 0,
  kL 18 17,
  kM 19 1,
  kG 20 (.ib .eql (.t 18) (.t 19)),
  kM 21 20,
  kH 22 21 true (.mv (.t 2)),
  kH 23 21 true (.fa (.t 8) 2),
  kH 24 21 true (.ld (.t 23) 1 false),
  kH 25 21 true (.ib .sub (.t 24) (.c (.int .i64 1))),
  kH 26 21 true (.ca 189 [.t 22, (.c (.int .i64 0)), .t 25]),
  kG 27 (.pk (.t 21) (.t 26) (.c (.bool false)))]) (.cd (.t 27) (.sq (.rg [kF 28 8 1,
  kL 29 28,
  kM 30 2,
  kG 31 (.ib .add (.t 29) (.t 30)),
  kM 6 31]) .rt) .sk)))) (.rg [kG 32 (.ib .add (.t 14) (.c (.int .i64 1))),
  kM 14 32]))))))) (.sq (.rg [kG 6 (.mv (.c (.int .i64 (-1))))]) .rt))))⟩
theorem k111 : cF Tryz.prog Tryz.f111 = some c111 := by kernel_rfl
end Go.Proofs.YtggnbdeokmdjbaaGreat


namespace Go.Proofs.YtggnbdeokmdjbaaGreat
open Go
set_option maxRecDepth 100000
def c140 : Fu := ⟨165, [.t 2], (.sq (.rg [kG 2 (.mv (.c (.bool false)))]) (.sq (.sq (.rg [kM 5 0,
  kN 6 5,
  kF 7 6 4,
  kL 8 7]) (.cd (.t 8) (.sq (.rg [kG 2 (.mv (.c (.bool false)))]) .rt) .sk)) (.sq (.rd [⟨0, 0, [0], kM 9 0⟩, ⟨1, 1, [9], kN 10 9⟩, ⟨2, 3, [10], kF 11 10 0⟩, ⟨3, 7, [11], kL 12 11⟩, ⟨4, 0, [0], kM 13 0⟩, ⟨5, 16, [13], kN 14 13⟩, ⟨6, 48, [14], kF 15 14 1⟩, ⟨7, 112, [15], kL 16 15⟩, ⟨8, 240, [16], kG 17 (.len (.t 16))⟩, ⟨9, 15, [12], kM 3 12⟩, ⟨10, 1023, [17], kM 4 17⟩]) (.sq (.bl 0 (.sq (.rg [kM 51 0,
  kN 52 51,
  kF 53 52 2,
  kL 54 53,
  kM 55 4,
  kG 56 (.ib .sub (.t 55) (.c (.int .i64 1))),
  kG 57 (.ib .lss (.t 54) (.t 56)),
  kM 50 57]) (.cd (.t 50) (.sq (.rd [⟨0, 0, [3], kM 58 3⟩, ⟨1, 1, [58], kN 59 58⟩, ⟨2, 3, [59], kF 60 59 0⟩, ⟨3, 7, [60], kL 61 60⟩, ⟨4, 0, [3], kM 62 3⟩, ⟨5, 16, [62], kN 63 62⟩, ⟨6, 48, [63], kF 64 63 2⟩, ⟨7, 112, [64], kL 65 64⟩, ⟨8, 0, [0], kM 66 0⟩, ⟨9, 256, [66], kN 67 66⟩, ⟨10, 768, [67], kF 68 67 1⟩, ⟨11, 1792, [68], kL 69 68⟩, ⟨12, 0, [0], kM 70 0⟩, ⟨13, 4096, [70], kN 71 70⟩, ⟨14, 12288, [71], kF 72 71 2⟩, ⟨15, 28672, [72], kL 73 72⟩, ⟨16, 65280, [69, 73], kG 74 (.ia (.t 69) (.t 73) 1)⟩, ⟨17, 130816, [74], kL 75 74⟩, ⟨18, 262128, [65, 75], kG 76 (.ib .add (.t 65) (.t 75))⟩, ⟨19, 0, [0], kM 77 0⟩, ⟨20, 524288, [77], kN 78 77⟩, ⟨21, 1572864, [78], kF 79 78 1⟩, ⟨22, 3670016, [79], kL 80 79⟩, ⟨23, 0, [0], kM 81 0⟩, ⟨24, 8388608, [81], kN 82 81⟩, ⟨25, 25165824, [82], kF 83 82 2⟩, ⟨26, 58720256, [83], kL 84 83⟩, ⟨27, 125829120, [84], kG 85 (.ib .add (.t 84) (.c (.int .i64 1)))⟩, ⟨28, 267911168, [80, 85], kG 86 (.ia (.t 80) (.t 85) 1)⟩, ⟨29, 536346624, [86], kL 87 86⟩, ⟨30, 1073217536, [87], kG 88 (.ib .add (.t 87) (.c (.int .i64 1)))⟩, ⟨31, 2146959360, [88], kG 89 (.cv .u64 (.t 88))⟩, ⟨32, 4294967295, [61, 76, 89], kG 90 (.ca 201 [.t 61, .t 76, .t 89])⟩]) (.rg [kM 91 0,
  kN 92 91,
  kF 93 92 2,
  kL 94 93,
  kG 95 (.ib .add (.t 94) (.c (.int .i64 1))),
  kN 96 91,
  kF 97 96 2,
  kS (.st (.t 97) (.t 95) 1)])) (.sq (.rg [kM 99 0,
  kN 100 99,
  kF 101 100 2,
  kL 102 101,
  kM 103 4,
  kG 104 (.ib .sub (.t 103) (.c (.int .i64 1))),
  kG 105 (.ib .eql (.t 102) (.t 104)),
  kM 98 105]) (.cd (.t 98) (.sq (.rd [⟨0, 0, [0], kM 106 0⟩, ⟨1, 0, [3], kM 107 3⟩, ⟨2, 2, [107], kN 108 107⟩, ⟨3, 6, [108], kF 109 108 0⟩, ⟨4, 14, [109], kL 110 109⟩, ⟨5, 0, [3], kM 111 3⟩, ⟨6, 32, [111], kN 112 111⟩, ⟨7, 96, [112], kF 113 112 1⟩, ⟨8, 224, [113], kL 114 113⟩, ⟨9, 510, [110, 114], kG 115 (.ca 95 [.t 110, .t 114])⟩, ⟨10, 1023, [106], kN 116 106⟩, ⟨11, 2047, [116], kF 117 116 3⟩, ⟨12, 4095, [117, 115], kS (.st (.t 117) (.t 115) 1)⟩]) (.rg [kM 118 0,
  kN 119 118,
  kF 120 119 2,
  kL 121 120,
  kG 122 (.ib .add (.t 121) (.c (.int .i64 1))),
  kN 123 118,
  kF 124 123 2,
  kS (.st (.t 124) (.t 122) 1)])) (.sq (.rg [kM 126 0,
  kN 127 126,
  kF 128 127 2,
  kL 129 128,
  kM 130 4,
  kG 131 (.ib .eql (.t 129) (.t 130)),
  kM 125 131]) (.cd (.t 125) (.sq (.rd [⟨0, 0, [3], kM 132 3⟩, ⟨1, 1, [132], kN 133 132⟩, ⟨2, 3, [133], kF 134 133 0⟩, ⟨3, 7, [134], kL 135 134⟩, ⟨4, 0, [3], kM 136 3⟩, ⟨5, 16, [136], kN 137 136⟩, ⟨6, 48, [137], kF 138 137 2⟩, ⟨7, 112, [138], kL 139 138⟩, ⟨8, 0, [0], kM 140 0⟩, ⟨9, 256, [140], kN 141 140⟩, ⟨10, 768, [141], kF 142 141 1⟩, ⟨11, 1792, [142], kL 143 142⟩, ⟨12, 0, [4], kM 144 4⟩, ⟨13, 4096, [144], kG 145 (.ib .sub (.t 144) (.c (.int .i64 1)))⟩, ⟨14, 16128, [143, 145], kG 146 (.ia (.t 143) (.t 145) 1)⟩, ⟨15, 32512, [146], kL 147 146⟩, ⟨16, 65520, [139, 147], kG 148 (.ib .add (.t 139) (.t 147))⟩, ⟨17, 0, [3], kM 149 3⟩, ⟨18, 0, [0], kM 150 0⟩, ⟨19, 262144, [150], kN 151 150⟩, ⟨20, 786432, [151], kF 152 151 3⟩, ⟨21, 1835008, [152], kL 153 152⟩, ⟨22, 4063232, [149, 153], kG 154 (.ca 86 [.t 149, .t 153])⟩, ⟨23, 8257536, [154], kG 155 (.ib .add (.t 154) (.c (.int .i64 1)))⟩, ⟨24, 16646144, [155], kG 156 (.cv .u64 (.t 155))⟩, ⟨25, 33554431, [135, 148, 156], kG 157 (.ca 201 [.t 135, .t 148, .t 156])⟩]) (.rg [kM 158 0,
  kN 159 158,
  kF 160 159 2,
  kL 161 160,
  kG 162 (.ib .add (.t 161) (.c (.int .i64 1))),
  kN 163 158,
  kF 164 163 2,
  kS (.st (.t 164) (.t 162) 1)])) (.sq (.rd [⟨0, 0, [0], kM 18 0⟩, ⟨1, 0, [3], kM 19 3⟩, ⟨2, 2, [19], kN 20 19⟩, ⟨3, 6, [20], kF 21 20 0⟩, ⟨4, 14, [21], kL 22 21⟩, ⟨5, 0, [3], kM 23 3⟩, ⟨6, 32, [23], kN 24 23⟩, ⟨7, 96, [24], kF 25 24 1⟩, ⟨8, 224, [25], kL 26 25⟩, ⟨9, 0, [0], kM 27 0⟩, ⟨10, 512, [27], kN 28 27⟩, ⟨11, 1536, [28], kF 29 28 3⟩, ⟨12, 3584, [29], kL 30 29⟩, ⟨13, 0, [0], kM 31 0⟩, ⟨14, 8192, [31], kN 32 31⟩, ⟨15, 24576, [32], kF 33 32 3⟩, ⟨16, 57344, [33], kL 34 33⟩, ⟨17, 0, [0], kM 35 0⟩, ⟨18, 131072, [35], kN 36 35⟩, ⟨19, 393216, [36], kF 37 36 1⟩, ⟨20, 917504, [37], kL 38 37⟩, ⟨21, 1966080, [38], kG 39 (.ia (.t 38) (.c (.int .i64 0)) 1)⟩, ⟨22, 4063232, [39], kL 40 39⟩, ⟨23, 8380416, [34, 40], kG 41 (.ca 218 [.t 34, .t 40])⟩, ⟨24, 16777214, [22, 26, 30, 41], kG 42 (.ca 183 [.t 22, .t 26, .t 30, .t 41])⟩, ⟨25, 33554431, [18], kN 43 18⟩, ⟨26, 67108863, [43], kF 44 43 4⟩, ⟨27, 134217727, [44, 42], kS (.st (.t 44) (.t 42) 1)⟩]) (.rg [kM 45 0,
  kM 46 4,
  kG 47 (.ib .sub (.t 46) (.c (.int .i64 1))),
  kN 48 45,
  kF 49 48 2,
  kS (.st (.t 49) (.t 47) 1)]))))))))) (.sq (.rg [kG 2 (.mv (.c (.bool true)))]) .rt)))))⟩
theorem k140 : cF Tryz.prog Tryz.f140 = some c140 := by kernel_rfl
def c143 : Fu := ⟨8, [.t 2], (.sq (.rg [kG 2 (.mv (.c (.pointer none)))]) (.sq (.rg [kM 3 0,
  kG 4 (.mm true (.t 3) (.c (.int .i64 0))),
  kG 5 (.mm false (.t 4) (.c (.int .i64 64))),
  kG 6 (.bd [.int .i64 0, (.slice none 0 0)] [(0, 1, (.t 5))]),
  kG 7 (.bx 279 (.t 6)),
  kM 2 7]) .rt))⟩
theorem k143 : cF Tryz.prog Tryz.f143 = some c143 := by kernel_rfl
def c144 : Fu := ⟨3, [.t 0], (.sq (.rg [kG 0 (.mv (.c (.pointer none)))]) (.sq (.rg [kG 1 (.bd [.int .i64 0, (.slice none 0 0), .int .i64 0, (.slice none 0 0), .int .i64 0, (.slice none 0 0), .int .i64 0] []),
  kG 2 (.bx 276 (.t 1)),
  kM 0 2]) .rt))⟩
theorem k144 : cF Tryz.prog Tryz.f144 = some c144 := by kernel_rfl
def c145 : Fu := ⟨24, [.t 2], (.sq (.rg [kG 2 (.mv (.c (.bool false)))]) (.sq (.rg [kM 4 0,
  kM 5 0,
  kM 6 0,
  kN 7 6,
  kF 8 7 5,
  kL 9 8,
  kN 10 9,
  kF 11 10 8,
  kL 12 11,
  kG 13 (.ca 221 [.t 12]),
  kM 3 13,
  kG 14 (.ex (.t 3) 0),
  kG 15 (.ex (.t 3) 1),
  kN 16 4,
  kF 17 16 7,
  kS (.st (.t 17) (.t 14) 1),
  kN 18 5,
  kF 19 18 9,
  kS (.st (.t 19) (.t 15) 1)]) (.sq (.rg [kM 20 0,
  kN 21 20,
  kF 22 21 9,
  kL 23 22,
  kM 2 23]) .rt)))⟩
theorem k145 : cF Tryz.prog Tryz.f145 = some c145 := by kernel_rfl
def c146 : Fu := ⟨20, [.t 2], (.sq (.rg [kG 2 (.mv (.c (.int .i64 0)))]) (.sq (.rg [kG 3 (.mv (.c (.int .i64 0)))]) (.sq (.sq (.rg [kM 6 0,
  kN 7 6,
  kF 8 7 0,
  kG 9 (.ld (.t 8) 6 true),
  kG 10 (.mv (.c (.int .i64 0)))]) (.bl 0 (.lp (.sq (.rg [kG 11 (.ib .lss (.t 10) (.c (.int .i64 3)))]) (.sq (.cd (.t 11) .sk (.ex 0)) (.sq (.bl 1 (.sq (.rg [kG 12 (.iv (.t 9) (.t 10) 3 2 true),
  kG 5 (.al 273 [.int .i64 0, (.slice none 0 0)]),
  kS (.st (.t 5) (.t 12) 2)]) (.rg [kM 13 3,
  kF 14 5 1,
  kL 15 14,
  kG 16 (.len (.t 15)),
  kG 17 (.ib .add (.t 13) (.t 16)),
  kM 3 17]))) (.rg [kG 18 (.ib .add (.t 10) (.c (.int .i64 1))),
  kM 10 18]))))))) (.sq (.rg [kM 19 3,
  kM 2 19]) .rt))))⟩
theorem k146 : cF Tryz.prog Tryz.f146 = some c146 := by kernel_rfl
def c147 : Fu := ⟨8, [], (.rg [kM 4 0,
  kM 5 1,
  kN 6 4,
  kF 7 6 0,
  kS (.st (.t 7) (.t 5) 1)])⟩
theorem k147 : cF Tryz.prog Tryz.f147 = some c147 := by kernel_rfl
def c148 : Fu := ⟨34, [], (.sq (.rg [kM 5 0,
  kN 6 5,
  kF 7 6 5,
  kL 8 7,
  kN 9 8,
  kF 10 9 0,
  kL 11 10,
  kG 12 (.ca 222 [.t 11, (.c (.int .i64 2))]),
  kM 4 12,
  kG 13 (.ex (.t 4) 0),
  kG 14 (.ex (.t 4) 1),
  kM 2 13,
  kM 3 14]) (.sq (.rg [kM 15 0,
  kM 16 2,
  kG 17 (.ca 180 [.t 16]),
  kN 18 15,
  kF 19 18 8,
  kS (.st (.t 19) (.t 17) 1)]) (.sq (.rd [⟨0, 0, [0], kM 20 0⟩, ⟨1, 1, [20], kN 21 20⟩, ⟨2, 3, [21], kF 22 21 5⟩, ⟨3, 7, [22], kL 23 22⟩, ⟨4, 0, [0], kM 24 0⟩, ⟨5, 16, [24], kN 25 24⟩, ⟨6, 48, [25], kF 26 25 8⟩, ⟨7, 112, [26], kL 27 26⟩, ⟨8, 255, [23, 27], kG 28 (.ca 79 [.t 23, .t 27])⟩]) (.sq (.rg [kM 29 0,
  kG 30 (.ca 145 [.t 29]),
  kG 31 (.nt (.t 30))]) (.cd (.t 31) (.rg [kM 32 0,
  kG 33 (.ca 149 [.t 32])]) .sk)))))⟩
theorem k148 : cF Tryz.prog Tryz.f148 = some c148 := by kernel_rfl
def c149 : Fu := ⟨37, [], (.sq (.rd [⟨0, 0, [0], kM 2 0⟩, ⟨1, 0, [0], kM 3 0⟩, ⟨2, 2, [3], kN 4 3⟩, ⟨3, 6, [4], kF 5 4 5⟩, ⟨4, 14, [5], kL 6 5⟩, ⟨5, 30, [6], kN 7 6⟩, ⟨6, 62, [7], kF 8 7 7⟩, ⟨7, 126, [8], kL 9 8⟩, ⟨8, 0, [0], kM 10 0⟩, ⟨9, 256, [10], kN 11 10⟩, ⟨10, 768, [11], kF 12 11 5⟩, ⟨11, 1792, [12], kL 13 12⟩, ⟨12, 3840, [13], kN 14 13⟩, ⟨13, 7936, [14], kF 15 14 1⟩, ⟨14, 16128, [15], kF 16 15 5⟩, ⟨15, 32512, [16], kL 17 16⟩, ⟨16, 65534, [9, 17], kG 18 (.ca 192 [.t 9, .t 17])⟩, ⟨17, 131071, [2], kN 19 2⟩, ⟨18, 262143, [19], kF 20 19 6⟩, ⟨19, 524287, [20, 18], kS (.st (.t 20) (.t 18) 1)⟩]) (.rd [⟨0, 0, [0], kM 21 0⟩, ⟨1, 1, [21], kN 22 21⟩, ⟨2, 3, [22], kF 23 22 0⟩, ⟨3, 0, [0], kM 24 0⟩, ⟨4, 8, [24], kN 25 24⟩, ⟨5, 24, [25], kF 26 25 6⟩, ⟨6, 56, [26], kL 27 26⟩, ⟨7, 120, [27], kG 28 (.mf (.func 193) [.t 27] [])⟩, ⟨8, 0, [0], kM 29 0⟩, ⟨9, 256, [29], kN 30 29⟩, ⟨10, 768, [30], kF 31 30 6⟩, ⟨11, 1792, [31], kL 32 31⟩, ⟨12, 3840, [32], kG 33 (.mf (.func 194) [.t 32] [])⟩, ⟨13, 0, [0], kM 34 0⟩, ⟨14, 8192, [34], kG 35 (.mf (.func 223) [.t 34] [])⟩, ⟨15, 32767, [23, 28, 33, 35], kG 36 (.ca 101 [.t 23, .t 28, .t 33, .t 35])⟩]))⟩
theorem k149 : cF Tryz.prog Tryz.f149 = some c149 := by kernel_rfl
def c150 : Fu := ⟨37, [.t 2], (.sq (.rg [kG 1 (.bx 25 (.t 0)),
  kG 2 (.mv (.c (.bool false)))]) (.sq (.rg [kF 3 1 0,
  kL 4 3,
  kG 5 (.ca 189 [.t 4, (.c (.int .i64 1)), (.c (.int .i64 64))]),
  kM 6 5,
  kH 7 6 true (.fa (.t 1) 1),
  kH 8 6 true (.ld (.t 7) 1 false),
  kH 9 6 true (.ca 189 [.t 8, (.c (.int .i64 1)), (.c (.int .i64 4096))]),
  kG 10 (.pk (.t 6) (.t 9) (.c (.bool false))),
  kM 11 10,
  kH 12 11 true (.fa (.t 1) 2),
  kH 13 11 true (.ld (.t 12) 1 false),
  kH 14 11 true (.ca 189 [.t 13, (.c (.int .i64 8)), (.c (.int .i64 1024))]),
  kG 15 (.pk (.t 11) (.t 14) (.c (.bool false))),
  kM 16 15,
  kH 17 16 true (.fa (.t 1) 2),
  kH 18 16 true (.ld (.t 17) 1 false),
  kH 19 16 true (.ib .rem (.t 18) (.c (.int .i64 8))),
  kH 20 16 true (.ib .eql (.t 19) (.c (.int .i64 0))),
  kG 21 (.pk (.t 16) (.t 20) (.c (.bool false))),
  kM 22 21,
  kH 23 22 true (.fa (.t 1) 3),
  kH 24 22 true (.ld (.t 23) 1 false),
  kH 25 22 true (.ca 189 [.t 24, (.c (.int .i64 1)), (.c (.int .i64 4096))]),
  kG 26 (.pk (.t 22) (.t 25) (.c (.bool false))),
  kM 27 26,
  kH 28 27 true (.fa (.t 1) 4),
  kH 29 27 true (.ld (.t 28) 1 false),
  kH 30 27 true (.ca 189 [.t 29, (.c (.int .i64 0)), (.c (.int .i64 64))]),
  kG 31 (.pk (.t 27) (.t 30) (.c (.bool false))),
  kM 32 31,
  kH 33 32 true (.fa (.t 1) 5),
  kH 34 32 true (.ld (.t 33) 1 false),
  kH 35 32 true (.ca 189 [.t 34, (.c (.int .i64 1)), (.c (.int .i64 8))]),
  kG 36 (.pk (.t 32) (.t 35) (.c (.bool false))),
  kM 2 36]) .rt))⟩
theorem k150 : cF Tryz.prog Tryz.f150 = some c150 := by kernel_rfl
def c151 : Fu := ⟨40, [.c 2 15 true], (.sq (.rg [kG 1 (.bx 25 (.t 0)),
  kG 2 (.al 244 [.int .i64 0, .int .i64 0, .int .i64 0, .int .i64 0, .int .i64 0, .int .i64 0, .int .i64 0, .int .i64 0, .int .i64 0, .int .i64 0, .int .i64 0, .int .i64 0, .int .i64 0, .int .i64 0, .int .i64 0])]) (.sq (.rg [kF 6 1 0,
  kL 7 6,
  kG 8 (.bd [.int .i64 0, .int .i64 0, .int .i64 0] [(0, 1, (.c (.int .i64 3))), (2, 1, (.t 7))]),
  kF 9 1 3,
  kL 10 9,
  kG 11 (.bd [.int .i64 0, .int .i64 0, .int .i64 0] [(0, 1, (.c (.int .i64 4))), (2, 1, (.t 10))]),
  kF 12 1 3,
  kL 13 12,
  kG 14 (.bd [.int .i64 0, .int .i64 0, .int .i64 0] [(0, 1, (.c (.int .i64 5))), (2, 1, (.t 13))]),
  kF 15 1 1,
  kL 16 15,
  kG 17 (.bd [.int .i64 0, .int .i64 0, .int .i64 0] [(0, 1, (.c (.int .i64 6))), (2, 1, (.t 16))]),
  kF 18 1 1,
  kL 19 18,
  kF 20 1 2,
  kL 21 20,
  kG 22 (.ib .mul (.t 19) (.t 21)),
  kG 23 (.bd [.int .i64 0, .int .i64 0, .int .i64 0] [(0, 1, (.c (.int .i64 7))), (2, 1, (.t 22))]),
  kG 24 (.bd [.int .i64 0, .int .i64 0, .int .i64 0, .int .i64 0, .int .i64 0, .int .i64 0, .int .i64 0, .int .i64 0, .int .i64 0, .int .i64 0, .int .i64 0, .int .i64 0, .int .i64 0, .int .i64 0, .int .i64 0] [(0, 3, (.t 8)), (3, 3, (.t 11)), (6, 3, (.t 14)), (9, 3, (.t 17)), (12, 3, (.t 23))]),
  kG 3 (.al 244 [.int .i64 0, .int .i64 0, .int .i64 0, .int .i64 0, .int .i64 0, .int .i64 0, .int .i64 0, .int .i64 0, .int .i64 0, .int .i64 0, .int .i64 0, .int .i64 0, .int .i64 0, .int .i64 0, .int .i64 0]),
  kS (.st (.t 3) (.t 24) 15)]) (.sq (.rg [kG 4 (.mv (.c (.int .i64 3)))]) (.sq (.sq (.rg [kG 25 (.mv (.c (.int .i64 0)))]) (.bl 0 (.lp (.sq (.rg [kG 26 (.ib .lss (.t 25) (.c (.int .i64 5)))]) (.sq (.cd (.t 26) .sk (.ex 0)) (.sq (.bl 1 (.sq (.rg [kM 27 25,
  kM 5 27]) (.sq (.rg [kM 28 5,
  kM 29 4,
  kG 30 (.iaa (.t 3) (.t 28) 5 3),
  kF 31 30 1,
  kS (.st (.t 31) (.t 29) 1)]) (.rg [kM 32 4,
  kM 33 5,
  kG 34 (.iaa (.t 3) (.t 33) 5 3),
  kF 35 34 2,
  kL 36 35,
  kG 37 (.ib .add (.t 32) (.t 36)),
  kM 4 37])))) (.rg [kG 38 (.ib .add (.t 25) (.c (.int .i64 1))),
  kM 25 38]))))))) (.sq (.rg [kG 39 (.ld (.t 3) 15 true),
  kS (.st (.t 2) (.t 39) 15)]) .rt)))))⟩
theorem k151 : cF Tryz.prog Tryz.f151 = some c151 := by kernel_rfl
def c152 : Fu := ⟨8, [.t 2], (.sq (.rg [kG 2 (.mv (.c (.int .i64 0)))]) (.sq (.rg [kM 3 0,
  kN 4 3,
  kF 5 4 0,
  kL 6 5,
  kG 7 (.len (.t 6)),
  kM 2 7]) .rt))⟩
theorem k152 : cF Tryz.prog Tryz.f152 = some c152 := by kernel_rfl
def c153 : Fu := ⟨57, [.t 8, .t 9], (.sq (.rg [kG 4 (.bx 45 (.t 0)),
  kG 8 (.mv (.c (.pointer none))),
  kG 9 (.mv (.c (.int .i64 0)))]) (.sq (.rg [kG 11 (.mf (.func 224) [] [.t 4]),
  kM 10 11]) (.sq (.sq (.rg [kM 12 3,
  kG 13 (.ib .lss (.t 12) (.c (.int .i64 1))),
  kM 14 13,
  kH 15 14 false (.mv (.t 3)),
  kH 16 14 false (.ib .gtr (.t 15) (.c (.int .i64 4096))),
  kG 17 (.pk (.t 14) (.c (.bool true)) (.t 16)),
  kM 18 17,
  kH 19 18 false (.mv (.t 10)),
  kH 20 18 false (.mv (.t 1)),
  kH 21 18 false (.cl (.t 19) [.t 20]),
  kH 22 18 false (.nt (.t 21)),
  kG 23 (.pk (.t 18) (.c (.bool true)) (.t 22)),
  kM 24 23,
  kH 25 24 false (.mv (.t 10)),
  kH 26 24 false (.mv (.t 2)),
  kH 27 24 false (.cl (.t 25) [.t 26]),
  kH 28 24 false (.nt (.t 27)),
  kG 29 (.pk (.t 24) (.c (.bool true)) (.t 28)),
  kM 30 29,
  kH 31 30 false (.mv (.t 10)),
  kH 32 30 false (.mv (.t 2)),
  kH 33 30 false (.mv (.t 3)),
  kH 34 30 false (.ib .add (.t 32) (.t 33)),
  kH 35 30 false (.ib .sub (.t 34) (.c (.int .i64 1))),
  kH 36 30 false (.cl (.t 31) [.t 35]),
  kH 37 30 false (.nt (.t 36)),
  kG 38 (.pk (.t 30) (.c (.bool true)) (.t 37)),
  kM 39 38,
  kH 40 39 false (.mv (.t 1)),
  kH 41 39 false (.mv (.t 2)),
  kH 42 39 false (.ib .geq (.t 40) (.t 41)),
  kH 43 39 false (.mv (.t 42)),
  kH 44 43 true (.mv (.t 1)),
  kH 45 43 true (.mv (.t 2)),
  kH 46 43 true (.mv (.t 3)),
  kH 47 43 true (.ib .add (.t 45) (.t 46)),
  kH 48 43 true (.ib .lss (.t 44) (.t 47)),
  kH 49 39 false (.pk (.t 43) (.t 48) (.c (.bool false))),
  kG 50 (.pk (.t 39) (.c (.bool true)) (.t 49))]) (.cd (.t 50) (.sq (.rg [kG 8 (.mv (.c (.pointer none))),
  kG 9 (.mv (.c (.int .i64 1)))]) .rt) .sk)) (.sq (.rg [kL 51 4,
  kM 52 1,
  kM 53 2,
  kM 54 3,
  kG 55 (.bd [(.pointer none), .int .i64 0, .int .i64 0, .int .i64 0] [(0, 1, (.t 51)), (1, 1, (.t 52)), (2, 1, (.t 53)), (3, 1, (.t 54))]),
  kG 56 (.bx 145 (.t 55)),
  kM 8 56,
  kG 9 (.mv (.c (.int .i64 0)))]) .rt))))⟩
theorem k153 : cF Tryz.prog Tryz.f153 = some c153 := by kernel_rfl
def c154 : Fu := ⟨8, [.t 4], (.sq (.rg [kG 2 (.bx 25 (.t 0)),
  kG 4 (.mv (.c (.int .i64 0)))]) (.sq (.rg [kG 5 (.ld (.t 2) 6 true),
  kM 6 1,
  kG 7 (.ca 111 [.t 5, (.c (.int .i64 6)), .t 6]),
  kM 4 7]) .rt))⟩
theorem k154 : cF Tryz.prog Tryz.f154 = some c154 := by kernel_rfl
def c155 : Fu := ⟨57, [], (.sq (.sq (.rg [kM 5 0,
  kN 6 5,
  kF 7 6 3,
  kL 8 7,
  kG 9 (.mv (.c (.int .i64 0)))]) (.bl 0 (.lp (.sq (.rg [kG 10 (.ib .lss (.t 9) (.t 8))]) (.sq (.cd (.t 10) .sk (.ex 0)) (.sq (.bl 1 (.sq (.rg [kM 11 9,
  kM 2 11]) (.rd [⟨0, 0, [0], kM 12 0⟩, ⟨1, 1, [12], kN 13 12⟩, ⟨2, 3, [13], kF 14 13 0⟩, ⟨3, 7, [14], kL 15 14⟩, ⟨4, 0, [0], kM 16 0⟩, ⟨5, 16, [16], kN 17 16⟩, ⟨6, 48, [17], kF 18 17 2⟩, ⟨7, 112, [18], kL 19 18⟩, ⟨8, 0, [2], kM 20 2⟩, ⟨9, 496, [19, 20], kG 21 (.ib .add (.t 19) (.t 20))⟩, ⟨10, 0, [2], kM 22 2⟩, ⟨11, 1024, [22], kG 23 (.ib .add (.t 22) (.c (.int .i64 2)))⟩, ⟨12, 3072, [23], kG 24 (.cv .u64 (.t 23))⟩, ⟨13, 8191, [15, 21, 24], kG 25 (.ca 34 [.t 15, .t 21, .t 24])⟩]))) (.rg [kG 26 (.ib .add (.t 9) (.c (.int .i64 1))),
  kM 9 26]))))))) (.sq (.rd [⟨0, 0, [0], kM 27 0⟩, ⟨1, 1, [27], kN 28 27⟩, ⟨2, 3, [28], kF 29 28 0⟩, ⟨3, 7, [29], kL 30 29⟩, ⟨4, 0, [0], kM 31 0⟩, ⟨5, 16, [31], kN 32 31⟩, ⟨6, 48, [32], kF 33 32 2⟩, ⟨7, 112, [33], kL 34 33⟩, ⟨8, 0, [0], kM 35 0⟩, ⟨9, 256, [35], kN 36 35⟩, ⟨10, 768, [36], kF 37 36 3⟩, ⟨11, 1792, [37], kL 38 37⟩, ⟨12, 4080, [34, 38], kG 39 (.ib .add (.t 34) (.t 38))⟩, ⟨13, 8176, [39], kG 40 (.ib .sub (.t 39) (.c (.int .i64 1)))⟩, ⟨14, 16383, [30, 40], kG 41 (.ca 34 [.t 30, .t 40, (.c (.int .u64 0))])⟩]) (.sq (.rg [kG 43 (.bd [.int .i64 0, .int .i64 0] []),
  kG 44 (.ca 225 [.t 43]),
  kM 42 44,
  kG 45 (.ex (.t 42) 0),
  kG 46 (.ex (.t 42) 1),
  kM 3 45,
  kM 4 46]) (.rd [⟨0, 0, [0], kM 47 0⟩, ⟨1, 1, [47], kN 48 47⟩, ⟨2, 3, [48], kF 49 48 0⟩, ⟨3, 7, [49], kL 50 49⟩, ⟨4, 0, [0], kM 51 0⟩, ⟨5, 16, [51], kN 52 51⟩, ⟨6, 48, [52], kF 53 52 1⟩, ⟨7, 112, [53], kL 54 53⟩, ⟨8, 0, [3], kM 55 3⟩, ⟨9, 511, [50, 54, 55], kG 56 (.ca 34 [.t 50, .t 54, .t 55])⟩]))))⟩
theorem k155 : cF Tryz.prog Tryz.f155 = some c155 := by kernel_rfl
def c156 : Fu := ⟨7, [.t 2], (.sq (.rg [kG 2 (.mv (.c (.pointer none)))]) (.sq (.rg [kM 3 0,
  kG 4 (.mk 89 1 8 [(.int .u64 0)] (.t 3) (.t 3)),
  kG 5 (.bd [(.slice none 0 0), .int .i64 0] [(0, 1, (.t 4))]),
  kG 6 (.bx 94 (.t 5)),
  kM 2 6]) .rt))⟩
theorem k156 : cF Tryz.prog Tryz.f156 = some c156 := by kernel_rfl
def c157 : Fu := ⟨22, [.t 2], (.sq (.rg [kG 1 (.bx 25 (.t 0)),
  kG 2 (.mv (.c (.int .i64 0)))]) (.sq (.sq (.rg [kG 3 (.ld (.t 1) 6 true),
  kG 4 (.ca 188 [.t 3]),
  kG 5 (.nt (.t 4))]) (.cd (.t 5) (.sq (.rg [kG 2 (.mv (.c (.int .i64 0)))]) .rt) .sk)) (.sq (.rg [kF 6 1 0,
  kL 7 6,
  kG 8 (.ib .add (.c (.int .i64 3)) (.t 7)),
  kF 9 1 3,
  kL 10 9,
  kG 11 (.ib .mul (.c (.int .i64 2)) (.t 10)),
  kG 12 (.ib .add (.t 8) (.t 11)),
  kF 13 1 1,
  kL 14 13,
  kG 15 (.ib .add (.t 12) (.t 14)),
  kF 16 1 1,
  kL 17 16,
  kF 18 1 2,
  kL 19 18,
  kG 20 (.ib .mul (.t 17) (.t 19)),
  kG 21 (.ib .add (.t 15) (.t 20)),
  kM 2 21]) .rt)))⟩
theorem k157 : cF Tryz.prog Tryz.f157 = some c157 := by kernel_rfl
def c158 : Fu := ⟨17, [.t 4], (.sq (.rg [kG 2 (.bx 25 (.t 0)),
  kG 4 (.mv (.c (.int .i64 0)))]) (.sq (.rg [kG 5 (.ld (.t 2) 6 true),
  kF 6 2 0,
  kL 7 6,
  kG 8 (.ib .add (.c (.int .i64 3)) (.t 7)),
  kF 9 2 3,
  kL 10 9,
  kG 11 (.ib .mul (.c (.int .i64 2)) (.t 10)),
  kG 12 (.ib .add (.t 8) (.t 11)),
  kF 13 2 1,
  kL 14 13,
  kM 15 1,
  kG 16 (.ca 109 [.t 5, .t 12, .t 14, .t 15]),
  kM 4 16]) .rt))⟩
theorem k158 : cF Tryz.prog Tryz.f158 = some c158 := by kernel_rfl
def c159 : Fu := ⟨75, [], (.sq (.rg [kG 6 (.bd [.int .i64 0, .int .i64 0] [(0, 1, (.c (.int .i64 0)))]),
  kG 7 (.ca 226 [.t 6]),
  kM 5 7,
  kG 8 (.ex (.t 5) 0),
  kG 9 (.ex (.t 5) 1),
  kM 2 8,
  kM 3 9]) (.sq (.rd [⟨0, 0, [0], kM 10 0⟩, ⟨1, 1, [10], kN 11 10⟩, ⟨2, 3, [11], kF 12 11 0⟩, ⟨3, 7, [12], kL 13 12⟩, ⟨4, 15, [13], kN 14 13⟩, ⟨5, 31, [14], kF 15 14 0⟩, ⟨6, 63, [15], kL 16 15⟩, ⟨7, 0, [0], kM 17 0⟩, ⟨8, 128, [17], kN 18 17⟩, ⟨9, 384, [18], kF 19 18 1⟩, ⟨10, 896, [19], kL 20 19⟩, ⟨11, 0, [2], kM 21 2⟩, ⟨12, 4095, [16, 20], kG 22 (.ia (.t 16) (.t 20) 1)⟩, ⟨13, 8191, [22, 21], kS (.st (.t 22) (.t 21) 1)⟩]) (.sq (.rg [kG 4 (.mv (.c (.int .i64 0)))]) (.bl 0 (.lp (.sq (.sq (.rg [kM 23 4,
  kM 24 0,
  kN 25 24,
  kF 26 25 3,
  kL 27 26,
  kG 28 (.ib .lss (.t 23) (.t 27))]) (.cd (.t 28) .sk (.ex 0))) (.sq (.bl 1 (.sq (.rd [⟨0, 0, [0], kM 31 0⟩, ⟨1, 1, [31], kN 32 31⟩, ⟨2, 3, [32], kF 33 32 0⟩, ⟨3, 7, [33], kL 34 33⟩, ⟨4, 15, [34], kN 35 34⟩, ⟨5, 31, [35], kF 36 35 0⟩, ⟨6, 63, [36], kL 37 36⟩, ⟨7, 0, [0], kM 38 0⟩, ⟨8, 128, [38], kN 39 38⟩, ⟨9, 384, [39], kF 40 39 2⟩, ⟨10, 896, [40], kL 41 40⟩, ⟨11, 0, [4], kM 42 4⟩, ⟨12, 3968, [41, 42], kG 43 (.ib .add (.t 41) (.t 42))⟩, ⟨13, 0, [4], kM 44 4⟩, ⟨14, 8192, [44], kG 45 (.ib .add (.t 44) (.c (.int .i64 2)))⟩, ⟨15, 0, [0], kM 46 0⟩, ⟨16, 32768, [46], kN 47 46⟩, ⟨17, 98304, [47], kF 48 47 3⟩, ⟨18, 229376, [48], kL 49 48⟩, ⟨19, 491520, [49], kG 50 (.ib .add (.t 49) (.c (.int .i64 1)))⟩, ⟨20, 1040384, [45, 50], kG 51 (.ib .rem (.t 45) (.t 50))⟩, ⟨21, 2088960, [51], kG 52 (.cv .u64 (.t 51))⟩, ⟨22, 4194303, [37, 43], kG 53 (.ia (.t 37) (.t 43) 1)⟩, ⟨23, 8388607, [53, 52], kS (.st (.t 53) (.t 52) 1)⟩]) (.sq (.rg [kM 54 4,
  kM 55 0,
  kN 56 55,
  kF 57 56 3,
  kL 58 57,
  kG 59 (.ib .sub (.t 58) (.c (.int .i64 1))),
  kG 60 (.ib .eql (.t 54) (.t 59))]) (.cd (.t 60) (.rd [⟨0, 0, [0], kM 61 0⟩, ⟨1, 1, [61], kN 62 61⟩, ⟨2, 3, [62], kF 63 62 0⟩, ⟨3, 7, [63], kL 64 63⟩, ⟨4, 15, [64], kN 65 64⟩, ⟨5, 31, [65], kF 66 65 0⟩, ⟨6, 63, [66], kL 67 66⟩, ⟨7, 0, [0], kM 68 0⟩, ⟨8, 128, [68], kN 69 68⟩, ⟨9, 384, [69], kF 70 69 2⟩, ⟨10, 896, [70], kL 71 70⟩, ⟨11, 0, [4], kM 72 4⟩, ⟨12, 3968, [71, 72], kG 73 (.ib .add (.t 71) (.t 72))⟩, ⟨13, 8191, [67, 73], kG 74 (.ia (.t 67) (.t 73) 1)⟩, ⟨14, 16383, [74], kS (.st (.t 74) (.c (.int .u64 0)) 1)⟩]) .sk)))) (.rg [kM 29 4,
  kG 30 (.ib .add (.t 29) (.c (.int .i64 1))),
  kM 4 30]))))))))⟩
theorem k159 : cF Tryz.prog Tryz.f159 = some c159 := by kernel_rfl
def c160 : Fu := ⟨8, [.t 2], (.sq (.rg [kG 2 (.mv (.c (.pointer none)))]) (.sq (.rg [kM 3 0,
  kG 4 (.mm true (.t 3) (.c (.int .i64 0))),
  kG 5 (.mm false (.t 4) (.c (.int .i64 64))),
  kG 6 (.bd [.int .i64 0, (.slice none 0 0)] [(0, 1, (.t 5))]),
  kG 7 (.bx 142 (.t 6)),
  kM 2 7]) .rt))⟩
theorem k160 : cF Tryz.prog Tryz.f160 = some c160 := by kernel_rfl
def c161 : Fu := ⟨3, [.t 0], (.sq (.rg [kG 0 (.mv (.c (.pointer none)))]) (.sq (.rg [kG 1 (.bd [.int .i64 0, .int .i64 0, .int .i64 0, (.slice none 0 0), (.slice none 0 0), (.slice none 0 0), .int .i64 0] [(6, 1, (.c (.int .i64 (-1))))]),
  kG 2 (.bx 181 (.t 1)),
  kM 0 2]) .rt))⟩
theorem k161 : cF Tryz.prog Tryz.f161 = some c161 := by kernel_rfl
def c162 : Fu := ⟨23, [], (.sq (.rg [kM 5 0,
  kN 6 5,
  kF 7 6 0,
  kL 8 7,
  kN 9 8,
  kF 10 9 1,
  kL 11 10,
  kG 12 (.ca 227 [.t 11]),
  kM 4 12,
  kG 13 (.ex (.t 4) 0),
  kG 14 (.ex (.t 4) 1),
  kM 2 13,
  kM 3 14]) (.sq (.rg [kM 15 3]) (.cd (.t 15) (.rg [kM 16 0,
  kM 17 0,
  kM 18 2,
  kN 19 16,
  kF 20 19 2,
  kS (.st (.t 20) (.t 18) 1),
  kN 21 17,
  kF 22 21 5,
  kS (.st (.t 22) (.c (.bool true)) 1)]) .sk)))⟩
theorem k162 : cF Tryz.prog Tryz.f162 = some c162 := by kernel_rfl
def c163 : Fu := ⟨30, [], (.rd [⟨0, 0, [0], kM 2 0⟩, ⟨1, 0, [0], kM 3 0⟩, ⟨2, 0, [0], kM 4 0⟩, ⟨3, 4, [4], kN 5 4⟩, ⟨4, 12, [5], kF 6 5 0⟩, ⟨5, 28, [6], kL 7 6⟩, ⟨6, 60, [7], kN 8 7⟩, ⟨7, 124, [8], kF 9 8 0⟩, ⟨8, 252, [9], kL 10 9⟩, ⟨9, 508, [10], kN 11 10⟩, ⟨10, 1020, [11], kF 12 11 7⟩, ⟨11, 2044, [12], kL 13 12⟩, ⟨12, 0, [0], kM 14 0⟩, ⟨13, 4096, [14], kN 15 14⟩, ⟨14, 12288, [15], kF 16 15 0⟩, ⟨15, 28672, [16], kL 17 16⟩, ⟨16, 61440, [17], kN 18 17⟩, ⟨17, 126976, [18], kF 19 18 0⟩, ⟨18, 258048, [19], kL 20 19⟩, ⟨19, 520192, [20], kN 21 20⟩, ⟨20, 1044480, [21], kF 22 21 0⟩, ⟨21, 2093056, [22], kF 23 22 5⟩, ⟨22, 4190208, [23], kL 24 23⟩, ⟨23, 8388604, [13, 24], kG 25 (.ca 196 [.t 13, .t 24])⟩, ⟨24, 16777213, [2], kN 26 2⟩, ⟨25, 33554429, [26], kF 27 26 1⟩, ⟨26, 67108861, [27], kS (.st (.t 27) (.c (.int .i64 1)) 1)⟩, ⟨27, 134217727, [3], kN 28 3⟩, ⟨28, 268435455, [28], kF 29 28 4⟩, ⟨29, 536870911, [29, 25], kS (.st (.t 29) (.t 25) 1)⟩])⟩
theorem k163 : cF Tryz.prog Tryz.f163 = some c163 := by kernel_rfl
def c164 : Fu := ⟨148, [.t 2], (.sq (.rg [kG 2 (.mv (.c (.bool false)))]) (.sq (.sq (.rg [kM 5 0,
  kN 6 5,
  kF 7 6 6,
  kL 8 7]) (.cd (.t 8) (.sq (.rg [kG 2 (.mv (.c (.bool false)))]) .rt) .sk)) (.sq (.rg [kM 9 0,
  kN 10 9,
  kF 11 10 0,
  kL 12 11,
  kM 3 12]) (.sq (.sq (.rg [kM 13 0,
  kN 14 13,
  kF 15 14 2,
  kL 16 15]) (.bl 0 (.sq (.rg [kG 46 (.ib .eql (.t 16) (.c (.int .i64 0))),
  kM 45 46]) (.cd (.t 45) (.sq (.rd [⟨0, 0, [0], kM 47 0⟩, ⟨1, 0, [3], kM 48 3⟩, ⟨2, 2, [48], kN 49 48⟩, ⟨3, 6, [49], kF 50 49 0⟩, ⟨4, 14, [50], kL 51 50⟩, ⟨5, 0, [3], kM 52 3⟩, ⟨6, 32, [52], kN 53 52⟩, ⟨7, 96, [53], kF 54 53 1⟩, ⟨8, 224, [54], kL 55 54⟩, ⟨9, 510, [51, 55], kG 56 (.ca 95 [.t 51, .t 55])⟩, ⟨10, 1023, [47], kN 57 47⟩, ⟨11, 2047, [57], kF 58 57 4⟩, ⟨12, 4095, [58, 56], kS (.st (.t 58) (.t 56) 1)⟩]) (.sq (.rg [kM 59 0,
  kN 60 59,
  kF 61 60 5,
  kS (.st (.t 61) (.c (.slice none 0 0)) 1)]) (.sq (.rg [kM 62 3,
  kM 63 0,
  kN 64 63,
  kF 65 64 4,
  kL 66 65,
  kG 67 (.ca 86 [.t 62, .t 66]),
  kM 4 67]) (.sq (.rg [kM 68 4,
  kG 69 (.ib .lss (.t 68) (.c (.int .i64 0)))]) (.cd (.t 69) (.rg [kM 70 0,
  kN 71 70,
  kF 72 71 6,
  kS (.st (.t 72) (.c (.bool true)) 1)]) (.rg [kM 73 0,
  kM 74 0,
  kM 75 0,
  kN 76 75,
  kF 77 76 5,
  kL 78 77,
  kM 79 4,
  kG 80 (.bs 3 1 [.int .i64 0] [(0, 1, (.t 79))]),
  kG 81 (.ap 22 3 1 8 [.int .i64 0] (.t 78) (.t 80)),
  kN 82 73,
  kF 83 82 5,
  kS (.st (.t 83) (.t 81) 1),
  kN 84 74,
  kF 85 84 2,
  kS (.st (.t 85) (.c (.int .i64 1)) 1)])))))) (.sq (.rg [kG 87 (.ib .eql (.t 16) (.c (.int .i64 1))),
  kM 86 87]) (.cd (.t 86) (.sq (.rd [⟨0, 0, [0], kM 88 0⟩, ⟨1, 0, [3], kM 89 3⟩, ⟨2, 0, [3], kM 90 3⟩, ⟨3, 4, [90], kN 91 90⟩, ⟨4, 12, [91], kF 92 91 0⟩, ⟨5, 28, [92], kL 93 92⟩, ⟨6, 0, [3], kM 94 3⟩, ⟨7, 64, [94], kN 95 94⟩, ⟨8, 192, [95], kF 96 95 2⟩, ⟨9, 448, [96], kL 97 96⟩, ⟨10, 0, [0], kM 98 0⟩, ⟨11, 1024, [98], kN 99 98⟩, ⟨12, 3072, [99], kF 100 99 5⟩, ⟨13, 7168, [100], kL 101 100⟩, ⟨14, 0, [0], kM 102 0⟩, ⟨15, 16384, [102], kN 103 102⟩, ⟨16, 49152, [103], kF 104 103 5⟩, ⟨17, 114688, [104], kL 105 104⟩, ⟨18, 245760, [105], kG 106 (.len (.t 105))⟩, ⟨19, 507904, [106], kG 107 (.ib .sub (.t 106) (.c (.int .i64 1)))⟩, ⟨20, 1047552, [101, 107], kG 108 (.ia (.t 101) (.t 107) 1)⟩, ⟨21, 2096128, [108], kL 109 108⟩, ⟨22, 4194240, [97, 109], kG 110 (.ib .add (.t 97) (.t 109))⟩, ⟨23, 8388604, [93, 110], kG 111 (.ca 95 [.t 93, .t 110])⟩, ⟨24, 16777214, [89, 111], kG 112 (.ca 87 [.t 89, .t 111])⟩, ⟨25, 33554431, [88], kN 113 88⟩, ⟨26, 67108863, [113], kF 114 113 3⟩, ⟨27, 134217727, [114, 112], kS (.st (.t 114) (.t 112) 1)⟩]) (.sq (.rd [⟨0, 0, [0], kM 115 0⟩, ⟨1, 1, [115], kN 116 115⟩, ⟨2, 3, [116], kF 117 116 3⟩, ⟨3, 7, [117], kL 118 117⟩, ⟨4, 15, [118], kG 119 (.ib .geq (.t 118) (.c (.int .i64 0)))⟩, ⟨5, 31, [119], kM 120 119⟩, ⟨6, 63, [0, 120], kH 121 120 true (.mv (.t 0))⟩, ⟨7, 127, [121, 120], kH 122 120 true (.nc (.t 121))⟩, ⟨8, 255, [122, 120], kH 123 120 true (.fa (.t 122) 5)⟩, ⟨9, 511, [123, 120], kH 124 120 true (.ld (.t 123) 1 false)⟩, ⟨10, 1023, [124, 120], kH 125 120 true (.len (.t 124))⟩, ⟨11, 63, [0, 120], kH 126 120 true (.mv (.t 0))⟩, ⟨12, 2111, [126, 120], kH 127 120 true (.nc (.t 126))⟩, ⟨13, 6207, [127, 120], kH 128 120 true (.fa (.t 127) 1)⟩, ⟨14, 14399, [128, 120], kH 129 120 true (.ld (.t 128) 1 false)⟩, ⟨15, 32767, [125, 129, 120], kH 130 120 true (.ib .lss (.t 125) (.t 129))⟩, ⟨16, 65535, [120, 130], kG 131 (.pk (.t 120) (.t 130) (.c (.bool false)))⟩]) (.cd (.t 131) (.rd [⟨0, 0, [0], kM 132 0⟩, ⟨1, 0, [0], kM 133 0⟩, ⟨2, 2, [133], kN 134 133⟩, ⟨3, 6, [134], kF 135 134 5⟩,
  ⟨4, 14, [135], kL 136 135⟩, ⟨5, 0, [0], kM 137 0⟩, ⟨6, 32, [137], kN 138 137⟩, ⟨7, 96, [138], kF 139 138 3⟩, ⟨8, 224, [139], kL 140 139⟩, ⟨9, 480, [140], kG 141 (.bs 3 1 [.int .i64 0] [(0, 1, (.t 140))])⟩, ⟨10, 1022, [136, 141], kG 142 (.ap 22 3 1 8 [.int .i64 0] (.t 136) (.t 141))⟩, ⟨11, 2047, [132], kN 143 132⟩, ⟨12, 4095, [143], kF 144 143 5⟩, ⟨13, 8191, [144, 142], kS (.st (.t 144) (.t 142) 1)⟩]) (.rg [kM 145 0,
  kN 146 145,
  kF 147 146 2,
  kS (.st (.t 147) (.c (.int .i64 2)) 1)])))) (.sq (.rd [⟨0, 0, [0], kM 17 0⟩, ⟨1, 0, [3], kM 18 3⟩, ⟨2, 2, [18], kN 19 18⟩, ⟨3, 6, [19], kF 20 19 0⟩, ⟨4, 14, [20], kL 21 20⟩, ⟨5, 0, [3], kM 22 3⟩, ⟨6, 32, [22], kN 23 22⟩, ⟨7, 96, [23], kF 24 23 1⟩, ⟨8, 224, [24], kL 25 24⟩, ⟨9, 0, [0], kM 26 0⟩, ⟨10, 512, [26], kN 27 26⟩, ⟨11, 1536, [27], kF 28 27 4⟩, ⟨12, 3584, [28], kL 29 28⟩, ⟨13, 0, [0], kM 30 0⟩, ⟨14, 8192, [30], kN 31 30⟩, ⟨15, 24576, [31], kF 32 31 4⟩, ⟨16, 57344, [32], kL 33 32⟩, ⟨17, 0, [0], kM 34 0⟩, ⟨18, 131072, [34], kN 35 34⟩, ⟨19, 393216, [35], kF 36 35 3⟩, ⟨20, 917504, [36], kL 37 36⟩, ⟨21, 2088960, [33, 37], kG 38 (.ca 218 [.t 33, .t 37])⟩, ⟨22, 4194302, [21, 25, 29, 38], kG 39 (.ca 183 [.t 21, .t 25, .t 29, .t 38])⟩, ⟨23, 8388607, [17], kN 40 17⟩, ⟨24, 16777215, [40], kF 41 40 6⟩, ⟨25, 33554431, [41, 39], kS (.st (.t 41) (.t 39) 1)⟩]) (.rg [kM 42 0,
  kN 43 42,
  kF 44 43 2,
  kS (.st (.t 44) (.c (.int .i64 0)) 1)])))))))) (.sq (.rg [kG 2 (.mv (.c (.bool true)))]) .rt)))))⟩
theorem k164 : cF Tryz.prog Tryz.f164 = some c164 := by kernel_rfl
def c165 : Fu := ⟨13, [.t 2], (.sq (.rg [kG 2 (.mv (.c (.slice none 0 0)))]) (.sq (.sq (.rg [kM 3 0,
  kN 4 3,
  kF 5 4 6,
  kL 6 5,
  kG 7 (.nt (.t 6))]) (.cd (.t 7) (.sq (.rg [kG 2 (.mv (.c (.slice none 0 0)))]) .rt) .sk)) (.sq (.rg [kM 8 0,
  kN 9 8,
  kF 10 9 5,
  kL 11 10,
  kG 12 (.ap 22 3 1 8 [.int .i64 0] (.c (.slice none 0 0)) (.t 11)),
  kM 2 12]) .rt)))⟩
theorem k165 : cF Tryz.prog Tryz.f165 = some c165 := by kernel_rfl
def c166 : Fu := ⟨7, [.t 2], (.sq (.rg [kG 2 (.mv (.c (.bool false)))]) (.sq (.rg [kM 3 0,
  kN 4 3,
  kF 5 4 0,
  kG 6 (.ca 96 [.t 5]),
  kM 2 6]) .rt))⟩
theorem k166 : cF Tryz.prog Tryz.f166 = some c166 := by kernel_rfl
def c167 : Fu := ⟨23, [.t 2], (.sq (.rg [kG 2 (.mv (.c (.int .i64 0)))]) (.sq (.rd [⟨0, 0, [0], kM 3 0⟩, ⟨1, 1, [3], kN 4 3⟩, ⟨2, 3, [4], kF 5 4 3⟩, ⟨3, 7, [5], kG 6 (.iaa (.t 5) (.c (.int .i64 0)) 3 1)⟩, ⟨4, 15, [6], kL 7 6⟩, ⟨5, 31, [7], kG 8 (.len (.t 7))⟩, ⟨6, 0, [0], kM 9 0⟩, ⟨7, 64, [9], kN 10 9⟩, ⟨8, 192, [10], kF 11 10 3⟩, ⟨9, 448, [11], kG 12 (.iaa (.t 11) (.c (.int .i64 1)) 3 1)⟩, ⟨10, 960, [12], kL 13 12⟩, ⟨11, 1984, [13], kG 14 (.len (.t 13))⟩, ⟨12, 4095, [8, 14], kG 15 (.ib .add (.t 8) (.t 14))⟩, ⟨13, 0, [0], kM 16 0⟩, ⟨14, 8192, [16], kN 17 16⟩, ⟨15, 24576, [17], kF 18 17 3⟩, ⟨16, 57344, [18], kG 19 (.iaa (.t 18) (.c (.int .i64 2)) 3 1)⟩, ⟨17, 122880, [19], kL 20 19⟩, ⟨18, 253952, [20], kG 21 (.len (.t 20))⟩, ⟨19, 524287, [15, 21], kG 22 (.ib .add (.t 15) (.t 21))⟩, ⟨20, 1048575, [22], kM 2 22⟩]) .rt))⟩
theorem k167 : cF Tryz.prog Tryz.f167 = some c167 := by kernel_rfl
def c168 : Fu := ⟨33, [.t 4], (.sq (.rg [kG 4 (.mv (.c (.pointer none)))]) (.sq (.rg [kM 8 1,
  kG 9 (.bd [.nilFunc, .nilFunc, .nilFunc, .nilFunc, .int .i64 0, (.slice none 0 0)] [(5, 1, (.t 8))]),
  kG 10 (.bx 256 (.t 9)),
  kM 5 10]) (.sq (.sq (.rg [kM 12 0,
  kN 13 12,
  kF 14 13 7,
  kL 15 14,
  kM 16 1,
  kG 17 (.ca 228 [.t 15, .t 16]),
  kM 11 17,
  kG 18 (.ex (.t 11) 0),
  kG 19 (.ex (.t 11) 1),
  kM 6 18,
  kM 7 19]) (.sq (.rg [kM 20 7,
  kG 21 (.ib .eql (.t 20) (.c (.int .i64 0)))]) (.cd (.t 21) (.rg [kM 22 5,
  kN 23 22,
  kF 24 23 0,
  kM 25 6,
  kG 26 (.mf (.func 229) [.t 25] []),
  kM 27 6,
  kG 28 (.mf (.func 230) [.t 27] []),
  kM 29 5,
  kG 30 (.mf (.func 231) [.t 29] []),
  kG 31 (.ca 101 [.t 24, .t 26, .t 28, .t 30])]) .sk))) (.sq (.rg [kM 32 5,
  kM 4 32]) .rt))))⟩
theorem k168 : cF Tryz.prog Tryz.f168 = some c168 := by kernel_rfl
def c169 : Fu := ⟨16, [.t 2], (.sq (.rg [kG 2 (.mv (.c (.slice none 0 0)))]) (.sq (.rd [⟨0, 0, [0], kM 3 0⟩, ⟨1, 0, [0], kM 4 0⟩, ⟨2, 2, [4], kN 5 4⟩, ⟨3, 6, [5], kF 6 5 1⟩, ⟨4, 14, [6], kL 7 6⟩, ⟨5, 30, [7], kG 8 (.len (.t 7))⟩, ⟨6, 0, [0], kM 9 0⟩, ⟨7, 64, [9], kN 10 9⟩, ⟨8, 192, [10], kF 11 10 0⟩, ⟨9, 448, [11], kL 12 11⟩, ⟨10, 1022, [8, 12], kG 13 (.ib .sub (.t 8) (.t 12))⟩, ⟨11, 2046, [13], kG 14 (.mm true (.t 13) (.c (.int .i64 0)))⟩, ⟨12, 4095, [3, 14], kG 15 (.ca 232 [.t 3, .t 14])⟩, ⟨13, 8191, [15], kM 2 15⟩]) .rt))⟩
theorem k169 : cF Tryz.prog Tryz.f169 = some c169 := by kernel_rfl
def c170 : Fu := ⟨21, [.t 4], (.sq (.rg [kG 4 (.mv (.c (.pointer none)))]) (.sq (.rg [kM 5 0,
  kN 6 5,
  kF 7 6 0,
  kL 8 7,
  kN 9 8,
  kF 10 9 7,
  kL 11 10,
  kM 12 1,
  kG 13 (.ca 217 [.t 11, .t 12]),
  kM 14 1,
  kG 15 (.ap 22 3 1 8 [.int .i64 0] (.c (.slice none 0 0)) (.t 14)),
  kM 16 1,
  kG 17 (.len (.t 16)),
  kG 18 (.ib .eql (.t 17) (.c (.int .i64 0))),
  kG 19 (.bd [(.pointer none), (.slice none 0 0), (.bool false)] [(0, 1, (.t 13)), (1, 1, (.t 15)), (2, 1, (.t 18))]),
  kG 20 (.bx 162 (.t 19)),
  kM 4 20]) .rt))⟩
theorem k170 : cF Tryz.prog Tryz.f170 = some c170 := by kernel_rfl
def c171 : Fu := ⟨34, [.t 2], (.sq (.rg [kG 2 (.mv (.c (.slice none 0 0)))]) (.sq (.rd [⟨0, 0, [0], kM 5 0⟩, ⟨1, 1, [5], kN 6 5⟩, ⟨2, 3, [6], kF 7 6 1⟩, ⟨3, 7, [7], kL 8 7⟩, ⟨4, 15, [8], kG 9 (.len (.t 8))⟩, ⟨5, 0, [0], kM 10 0⟩, ⟨6, 32, [10], kN 11 10⟩, ⟨7, 96, [11], kF 12 11 0⟩, ⟨8, 224, [12], kL 13 12⟩, ⟨9, 511, [9, 13], kG 14 (.ib .sub (.t 9) (.t 13))⟩, ⟨10, 1023, [14], kG 15 (.mm true (.t 14) (.c (.int .i64 0)))⟩, ⟨11, 2047, [15], kM 3 15⟩]) (.sq (.rg [kM 16 0,
  kN 17 16,
  kF 18 17 1,
  kL 19 18,
  kM 20 3,
  kG 21 (.sl 1 (.t 19) none (some (.t 20)) none),
  kG 22 (.ap 22 3 1 8 [.int .i64 0] (.c (.slice none 0 0)) (.t 21)),
  kM 4 22]) (.sq (.rg [kM 23 0,
  kM 24 0,
  kN 25 24,
  kF 26 25 1,
  kL 27 26,
  kM 28 3,
  kG 29 (.sl 1 (.t 27) (some (.t 28)) none none),
  kG 30 (.ap 22 3 1 8 [.int .i64 0] (.c (.slice none 0 0)) (.t 29)),
  kN 31 23,
  kF 32 31 1,
  kS (.st (.t 32) (.t 30) 1)]) (.sq (.rg [kM 33 4,
  kM 2 33]) .rt)))))⟩
theorem k171 : cF Tryz.prog Tryz.f171 = some c171 := by kernel_rfl
def c172 : Fu := ⟨10, [.t 2], (.sq (.rg [kG 2 (.mv (.c (.slice none 0 0)))]) (.sq (.rg [kM 3 0,
  kM 4 0,
  kN 5 4,
  kF 6 5 1,
  kL 7 6,
  kG 8 (.len (.t 7)),
  kG 9 (.ca 232 [.t 3, .t 8]),
  kM 2 9]) .rt))⟩
theorem k172 : cF Tryz.prog Tryz.f172 = some c172 := by kernel_rfl
def c173 : Fu := ⟨12, [.t 2], (.sq (.rg [kG 2 (.mv (.c (.slice none 0 0)))]) (.sq (.rg [kM 4 0,
  kN 5 4,
  kF 6 5 1,
  kL 7 6,
  kM 3 7]) (.sq (.rg [kM 8 0,
  kN 9 8,
  kF 10 9 1,
  kS (.st (.t 10) (.c (.slice none 0 0)) 1)]) (.sq (.rg [kM 11 3,
  kM 2 11]) .rt))))⟩
theorem k173 : cF Tryz.prog Tryz.f173 = some c173 := by kernel_rfl
def c174 : Fu := ⟨51, [.t 4], (.sq (.rg [kG 4 (.mv (.c (.slice none 0 0)))]) (.sq (.rg [kG 5 (.mv (.c (.slice none 0 0)))]) (.sq (.bl 0 (.lp (.sq (.sq (.rg [kM 9 1,
  kG 10 (.ib .geq (.t 9) (.c (.int .i64 2)))]) (.cd (.t 10) .sk (.ex 0))) (.bl 1 (.sq (.rg [kG 6 (.mv (.c (.pointer none)))]) (.sq (.sq (.rg [kG 11 (.mv (.c (.int .i64 0)))]) (.bl 2 (.lp (.sq (.rg [kG 12 (.ib .lss (.t 11) (.c (.int .i64 3)))]) (.sq (.cd (.t 12) .sk (.ex 2)) (.sq (.bl 3 (.sq (.rg [kM 13 11,
  kM 7 13]) (.sq (.rg [kM 14 0,
  kM 15 7,
  kN 16 14,
  kF 17 16 0,
  kG 18 (.iaa (.t 17) (.t 15) 3 2),
  kM 8 18]) (.sq (.rd [⟨0, 0, [8], kM 19 8⟩, ⟨1, 0, [1], kM 20 1⟩, ⟨2, 3, [19, 20], kG 21 (.ca 233 [.t 19, .t 20])⟩, ⟨3, 7, [21], kM 22 21⟩, ⟨4, 15, [6, 22], kH 23 22 true (.mv (.t 6))⟩, ⟨5, 31, [23, 22], kH 24 22 true (.en 0 false (.t 23) (.c (.pointer none)))⟩, ⟨6, 63, [24, 22], kH 25 22 true (.mv (.t 24))⟩, ⟨7, 127, [8, 25], kH 26 25 false (.mv (.t 8))⟩, ⟨8, 255, [26, 25], kH 27 25 false (.nc (.t 26))⟩, ⟨9, 511, [27, 25], kH 28 25 false (.fa (.t 27) 0)⟩, ⟨10, 1023, [28, 25], kH 29 25 false (.ld (.t 28) 1 false)⟩, ⟨11, 127, [6, 25], kH 30 25 false (.mv (.t 6))⟩, ⟨12, 2175, [30, 25], kH 31 25 false (.nc (.t 30))⟩, ⟨13, 6271, [31, 25], kH 32 25 false (.fa (.t 31) 0)⟩, ⟨14, 14463, [32, 25], kH 33 25 false (.ld (.t 32) 1 false)⟩, ⟨15, 32767, [29, 33, 25], kH 34 25 false (.ib .lss (.t 29) (.t 33))⟩, ⟨16, 65535, [25, 34, 22], kH 35 22 true (.pk (.t 25) (.c (.bool true)) (.t 34))⟩, ⟨17, 131071, [22, 35], kG 36 (.pk (.t 22) (.t 35) (.c (.bool false)))⟩]) (.cd (.t 36) (.rg [kM 37 8,
  kM 6 37]) .sk))))) (.rg [kG 38 (.ib .add (.t 11) (.c (.int .i64 1))),
  kM 11 38]))))))) (.sq (.sq (.rg [kM 39 6,
  kG 40 (.en 0 false (.t 39) (.c (.pointer none)))]) (.cd (.t 40) (.ex 0) .sk)) (.sq (.rg [kM 41 5,
  kM 42 6,
  kN 43 42,
  kF 44 43 1,
  kL 45 44,
  kG 46 (.ap 22 3 1 8 [.int .i64 0] (.t 41) (.t 45)),
  kM 5 46]) (.rg [kM 47 6,
  kG 48 (.bd [.int .i64 0, (.slice none 0 0)] []),
  kN 49 47,
  kS (.st (.t 49) (.t 48) 2)]))))))))) (.sq (.rg [kM 50 5,
  kM 4 50]) .rt))))⟩
theorem k174 : cF Tryz.prog Tryz.f174 = some c174 := by kernel_rfl
def c175 : Fu := ⟨27, [.t 4], (.sq (.rg [kG 4 (.mv (.c (.slice none 0 0)))]) (.sq (.rg [kG 5 (.mv (.c (.slice none 0 0)))]) (.sq (.bl 0 (.lp (.sq (.sq (.rg [kM 7 0,
  kM 8 1,
  kG 9 (.ca 234 [.t 7, .t 8])]) (.cd (.t 9) .sk (.ex 0))) (.bl 1 (.sq (.rg [kM 10 0,
  kM 11 1,
  kG 12 (.ca 235 [.t 10, .t 11]),
  kM 6 12]) (.sq (.rg [kM 13 5,
  kM 14 0,
  kM 15 6,
  kN 16 14,
  kF 17 16 3,
  kG 18 (.iaa (.t 17) (.t 15) 3 1),
  kL 19 18,
  kG 20 (.ap 22 3 1 8 [.int .i64 0] (.t 13) (.t 19)),
  kM 5 20]) (.rg [kM 21 0,
  kM 22 6,
  kN 23 21,
  kF 24 23 3,
  kG 25 (.iaa (.t 24) (.t 22) 3 1),
  kS (.st (.t 25) (.c (.slice none 0 0)) 1)]))))))) (.sq (.rg [kM 26 5,
  kM 4 26]) .rt))))⟩
theorem k175 : cF Tryz.prog Tryz.f175 = some c175 := by kernel_rfl
def c176 : Fu := ⟨8, [.t 2], (.sq (.rg [kG 2 (.mv (.c (.slice none 0 0)))]) (.sq (.rg [kM 3 0,
  kN 4 3,
  kF 5 4 1,
  kL 6 5,
  kG 7 (.ca 184 [.t 6]),
  kM 2 7]) .rt))⟩
theorem k176 : cF Tryz.prog Tryz.f176 = some c176 := by kernel_rfl
def c177 : Fu := ⟨38, [.t 4, .t 5], (.sq (.rg [kG 4 (.mv (.c (.int .i64 0))),
  kG 5 (.mv (.c (.slice none 0 0)))]) (.sq (.sq (.rg [kM 6 1,
  kG 7 (.ib .lss (.t 6) (.c (.int .i64 0))),
  kM 8 7,
  kH 9 8 false (.mv (.t 1)),
  kH 10 8 false (.ib .geq (.t 9) (.c (.int .i64 3))),
  kG 11 (.pk (.t 8) (.c (.bool true)) (.t 10)),
  kM 12 11,
  kH 13 12 false (.mv (.t 0)),
  kH 14 12 false (.mv (.t 1)),
  kH 15 12 false (.nc (.t 13)),
  kH 16 12 false (.fa (.t 15) 0),
  kH 17 12 false (.iaa (.t 16) (.t 14) 3 2),
  kH 18 12 false (.fa (.t 17) 1),
  kH 19 12 false (.ld (.t 18) 1 false),
  kH 20 12 false (.len (.t 19)),
  kH 21 12 false (.ib .eql (.t 20) (.c (.int .i64 0))),
  kG 22 (.pk (.t 12) (.c (.bool true)) (.t 21))]) (.cd (.t 22) (.sq (.rg [kG 4 (.mv (.c (.int .i64 0))),
  kG 5 (.mv (.c (.slice none 0 0)))]) .rt) .sk)) (.sq (.rd [⟨0, 0, [0], kM 23 0⟩, ⟨1, 0, [1], kM 24 1⟩, ⟨2, 1, [23], kN 25 23⟩, ⟨3, 5, [25], kF 26 25 0⟩, ⟨4, 15, [26, 24], kG 27 (.iaa (.t 26) (.t 24) 3 2)⟩, ⟨5, 31, [27], kF 28 27 0⟩, ⟨6, 63, [28], kL 29 28⟩, ⟨7, 0, [0], kM 30 0⟩, ⟨8, 0, [1], kM 31 1⟩, ⟨9, 128, [30], kN 32 30⟩, ⟨10, 640, [32], kF 33 32 0⟩, ⟨11, 1920, [33, 31], kG 34 (.iaa (.t 33) (.t 31) 3 2)⟩, ⟨12, 3968, [34], kF 35 34 1⟩, ⟨13, 8064, [35], kL 36 35⟩, ⟨14, 16256, [36], kG 37 (.ca 184 [.t 36])⟩, ⟨15, 32767, [29], kM 4 29⟩, ⟨16, 65535, [37], kM 5 37⟩]) .rt)))⟩
theorem k177 : cF Tryz.prog Tryz.f177 = some c177 := by kernel_rfl
def c178 : Fu := ⟨11, [.c 2 2 true], (.sq (.rg [kG 2 (.al 260 [.int .i64 0, .int .i64 0])]) (.sq (.rg [kM 3 0,
  kG 4 (.ca 236 [.t 3, (.c (.int .i64 0)), (.c (.int .i64 32))]),
  kG 5 (.cv .i64 (.t 4)),
  kG 6 (.ib .sub (.t 5) (.c (.int .i64 1))),
  kM 7 0,
  kG 8 (.ca 236 [.t 7, (.c (.int .i64 32)), (.c (.int .i64 32))]),
  kG 9 (.cv .i64 (.t 8)),
  kG 10 (.bd [.int .i64 0, .int .i64 0] [(0, 1, (.t 6)), (1, 1, (.t 9))]),
  kS (.st (.t 2) (.t 10) 2)]) .rt))⟩
theorem k178 : cF Tryz.prog Tryz.f178 = some c178 := by kernel_rfl
def c179 : Fu := ⟨11, [.c 2 2 true], (.sq (.rg [kG 2 (.al 262 [.int .i64 0, .int .i64 0])]) (.sq (.rg [kM 3 0,
  kG 4 (.ib .rem (.t 3) (.c (.int .u64 4294967296))),
  kG 5 (.cv .i64 (.t 4)),
  kG 6 (.ib .sub (.t 5) (.c (.int .i64 1))),
  kM 7 0,
  kG 8 (.ib .quo (.t 7) (.c (.int .u64 4294967296))),
  kG 9 (.cv .i64 (.t 8)),
  kG 10 (.bd [.int .i64 0, .int .i64 0] [(0, 1, (.t 6)), (1, 1, (.t 9))]),
  kS (.st (.t 2) (.t 10) 2)]) .rt))⟩
theorem k179 : cF Tryz.prog Tryz.f179 = some c179 := by kernel_rfl
def c180 : Fu := ⟨6, [.t 2], (.sq (.rg [kG 2 (.mv (.c (.int .i64 0)))]) (.sq (.rg [kM 3 0,
  kG 4 (.mm false (.t 3) (.c (.int .u64 4611686018427387903))),
  kG 5 (.cv .i64 (.t 4)),
  kM 2 5]) .rt))⟩
theorem k180 : cF Tryz.prog Tryz.f180 = some c180 := by kernel_rfl
def c183 : Fu := ⟨32, [.t 8], (.sq (.rg [kG 8 (.mv (.c (.bool false)))]) (.sq (.rg [kM 9 0,
  kN 10 9,
  kF 11 10 1,
  kL 12 11,
  kG 13 (.ib .add (.t 12) (.c (.int .i64 1))),
  kN 14 9,
  kF 15 14 1,
  kS (.st (.t 15) (.t 13) 1)]) (.sq (.sq (.rg [kM 16 0,
  kN 17 16,
  kF 18 17 0,
  kL 19 18,
  kM 20 1,
  kG 21 (.ia (.t 19) (.t 20) 1),
  kL 22 21,
  kM 23 2,
  kG 24 (.ib .neq (.t 22) (.t 23))]) (.cd (.t 24) (.sq (.rg [kG 8 (.mv (.c (.bool false)))]) .rt) .sk)) (.sq (.rg [kM 25 0,
  kN 26 25,
  kF 27 26 0,
  kL 28 27,
  kM 29 1,
  kM 30 3,
  kG 31 (.ia (.t 28) (.t 29) 1),
  kS (.st (.t 31) (.t 30) 1)]) (.sq (.rg [kG 8 (.mv (.c (.bool true)))]) .rt)))))⟩
theorem k183 : cF Tryz.prog Tryz.f183 = some c183 := by kernel_rfl
def c184 : Fu := ⟨8, [.t 2], (.sq (.rg [kG 2 (.mv (.c (.slice none 0 0)))]) (.sq (.sq (.rg [kM 3 0,
  kG 4 (.en 1 false (.t 3) (.c (.slice none 0 0)))]) (.cd (.t 4) (.sq (.rg [kG 2 (.mv (.c (.slice none 0 0)))]) .rt) .sk)) (.sq (.rg [kG 5 (.bs 3 0 [] []),
  kM 6 0,
  kG 7 (.ap 22 3 1 8 [.int .i64 0] (.t 5) (.t 6)),
  kM 2 7]) .rt)))⟩
theorem k184 : cF Tryz.prog Tryz.f184 = some c184 := by kernel_rfl
def c186 : Fu := ⟨17, [], (.sq (.sq (.rg [kM 2 0,
  kN 3 2,
  kF 4 3 2,
  kL 5 4,
  kG 6 (.cl (.t 5) [])]) (.cd (.t 6) (.sq (.rg [kM 7 0,
  kN 8 7,
  kF 9 8 3,
  kL 10 9,
  kG 11 (.cl (.t 10) [])]) .rt) .sk)) (.rg [kM 12 0,
  kM 13 0,
  kG 14 (.mf (.func 238) [.t 13] []),
  kN 15 12,
  kF 16 15 0,
  kS (.st (.t 16) (.t 14) 1)]))⟩
theorem k186 : cF Tryz.prog Tryz.f186 = some c186 := by kernel_rfl
def c188 : Fu := ⟨37, [.t 2], (.sq (.rg [kG 1 (.bx 25 (.t 0)),
  kG 2 (.mv (.c (.bool false)))]) (.sq (.rg [kF 3 1 0,
  kL 4 3,
  kG 5 (.ca 108 [.t 4, (.c (.int .i64 1)), (.c (.int .i64 64))]),
  kM 6 5,
  kH 7 6 true (.fa (.t 1) 1),
  kH 8 6 true (.ld (.t 7) 1 false),
  kH 9 6 true (.ca 108 [.t 8, (.c (.int .i64 1)), (.c (.int .i64 4096))]),
  kG 10 (.pk (.t 6) (.t 9) (.c (.bool false))),
  kM 11 10,
  kH 12 11 true (.fa (.t 1) 2),
  kH 13 11 true (.ld (.t 12) 1 false),
  kH 14 11 true (.ca 108 [.t 13, (.c (.int .i64 8)), (.c (.int .i64 1024))]),
  kG 15 (.pk (.t 11) (.t 14) (.c (.bool false))),
  kM 16 15,
  kH 17 16 true (.fa (.t 1) 2),
  kH 18 16 true (.ld (.t 17) 1 false),
  kH 19 16 true (.ib .rem (.t 18) (.c (.int .i64 8))),
  kH 20 16 true (.ib .eql (.t 19) (.c (.int .i64 0))),
  kG 21 (.pk (.t 16) (.t 20) (.c (.bool false))),
  kM 22 21,
  kH 23 22 true (.fa (.t 1) 3),
  kH 24 22 true (.ld (.t 23) 1 false),
  kH 25 22 true (.ca 108 [.t 24, (.c (.int .i64 1)), (.c (.int .i64 4096))]),
  kG 26 (.pk (.t 22) (.t 25) (.c (.bool false))),
  kM 27 26,
  kH 28 27 true (.fa (.t 1) 4),
  kH 29 27 true (.ld (.t 28) 1 false),
  kH 30 27 true (.ca 108 [.t 29, (.c (.int .i64 0)), (.c (.int .i64 64))]),
  kG 31 (.pk (.t 27) (.t 30) (.c (.bool false))),
  kM 32 31,
  kH 33 32 true (.fa (.t 1) 5),
  kH 34 32 true (.ld (.t 33) 1 false),
  kH 35 32 true (.ca 108 [.t 34, (.c (.int .i64 1)), (.c (.int .i64 8))]),
  kG 36 (.pk (.t 32) (.t 35) (.c (.bool false))),
  kM 2 36]) .rt))⟩
theorem k188 : cF Tryz.prog Tryz.f188 = some c188 := by kernel_rfl
def c189 : Fu := ⟨15, [.t 6], (.sq (.rg [kG 6 (.mv (.c (.bool false)))]) (.sq (.rg [kM 7 0,
  kM 8 1,
  kG 9 (.ib .geq (.t 7) (.t 8)),
  kM 10 9,
  kH 11 10 true (.mv (.t 0)),
  kH 12 10 true (.mv (.t 2)),
  kH 13 10 true (.ib .leq (.t 11) (.t 12)),
  kG 14 (.pk (.t 10) (.t 13) (.c (.bool false))),
  kM 6 14]) .rt))⟩
theorem k189 : cF Tryz.prog Tryz.f189 = some c189 := by kernel_rfl
def c192 : Fu := ⟨19, [.t 4], (.sq (.rg [kG 4 (.mv (.c (.pointer none)))]) (.sq (.rg [kM 6 0,
  kM 7 1,
  kG 8 (.mm true (.t 7) (.c (.int .i64 1))),
  kG 9 (.mm false (.t 8) (.c (.int .i64 8))),
  kG 10 (.bd [.nilFunc, .nilFunc, .nilFunc, .nilFunc, .int .i64 0, (.pointer none), .int .i64 0, .int .i64 0, (.int .u64 0), (.slice none 0 0)] [(5, 1, (.t 6)), (6, 1, (.t 9))]),
  kG 11 (.bx 310 (.t 10)),
  kM 5 11]) (.sq (.rg [kM 12 5,
  kN 13 12,
  kF 14 13 0,
  kM 15 5,
  kG 16 (.mf (.func 240) [.t 15] []),
  kG 17 (.ca 147 [.t 14, .t 16])]) (.sq (.rg [kM 18 5,
  kM 4 18]) .rt))))⟩
theorem k192 : cF Tryz.prog Tryz.f192 = some c192 := by kernel_rfl
def c193 : Fu := ⟨7, [.t 2], (.sq (.rg [kG 2 (.mv (.c (.bool false)))]) (.sq (.rg [kM 3 0,
  kN 4 3,
  kF 5 4 0,
  kG 6 (.ca 92 [.t 5]),
  kM 2 6]) .rt))⟩
theorem k193 : cF Tryz.prog Tryz.f193 = some c193 := by kernel_rfl
def c194 : Fu := ⟨7, [.t 2], (.sq (.rg [kG 2 (.mv (.c (.bool false)))]) (.sq (.rg [kM 3 0,
  kN 4 3,
  kF 5 4 0,
  kG 6 (.ca 96 [.t 5]),
  kM 2 6]) .rt))⟩
theorem k194 : cF Tryz.prog Tryz.f194 = some c194 := by kernel_rfl
def c196 : Fu := ⟨11, [.t 4], (.sq (.rg [kG 4 (.mv (.c (.pointer none)))]) (.sq (.rg [kM 5 0,
  kM 6 1,
  kG 7 (.mm true (.t 6) (.c (.int .i64 1))),
  kG 8 (.mm false (.t 7) (.c (.int .i64 8))),
  kG 9 (.bd [(.pointer none), .int .i64 0, .int .i64 0, .int .i64 0, (.int .u64 0), (.slice none 0 0), (.bool false)] [(0, 1, (.t 5)), (1, 1, (.t 8))]),
  kG 10 (.bx 254 (.t 9)),
  kM 4 10]) .rt))⟩
theorem k196 : cF Tryz.prog Tryz.f196 = some c196 := by kernel_rfl
def c201 : Fu := ⟨20, [], (.sq (.rg [kM 6 0,
  kN 7 6,
  kF 8 7 1,
  kL 9 8,
  kG 10 (.ib .add (.t 9) (.c (.int .i64 1))),
  kN 11 6,
  kF 12 11 1,
  kS (.st (.t 12) (.t 10) 1)]) (.rg [kM 13 0,
  kN 14 13,
  kF 15 14 0,
  kL 16 15,
  kM 17 1,
  kM 18 2,
  kG 19 (.ia (.t 16) (.t 17) 1),
  kS (.st (.t 19) (.t 18) 1)]))⟩
theorem k201 : cF Tryz.prog Tryz.f201 = some c201 := by kernel_rfl
def c217 : Fu := ⟨13, [.t 4], (.sq (.rg [kG 4 (.mv (.c (.pointer none)))]) (.sq (.rg [kM 5 0,
  kM 6 1,
  kG 7 (.ap 22 3 1 8 [.int .i64 0] (.c (.slice none 0 0)) (.t 6)),
  kM 8 1,
  kG 9 (.len (.t 8)),
  kG 10 (.ib .eql (.t 9) (.c (.int .i64 0))),
  kG 11 (.bd [(.pointer none), (.slice none 0 0), .int .i64 0, (.int .u64 0), (.bool false)] [(0, 1, (.t 5)), (1, 1, (.t 7)), (4, 1, (.t 10))]),
  kG 12 (.bx 233 (.t 11)),
  kM 4 12]) .rt))⟩
theorem k217 : cF Tryz.prog Tryz.f217 = some c217 := by kernel_rfl
def c218 : Fu := ⟨16, [.t 4], (.sq (.rg [kG 4 (.mv (.c (.int .u64 0)))]) (.sq (.rg [kM 8 0,
  kG 9 (.ca 179 [.t 8]),
  kM 10 1,
  kG 11 (.ca 264 [.t 9, .t 10]),
  kG 12 (.ca 226 [.t 11]),
  kM 7 12,
  kG 13 (.ex (.t 7) 0),
  kG 14 (.ex (.t 7) 1),
  kM 5 13,
  kM 6 14]) (.sq (.rg [kM 15 5,
  kM 4 15]) .rt)))⟩
theorem k218 : cF Tryz.prog Tryz.f218 = some c218 := by kernel_rfl
def c221 : Fu := ⟨35, [.t 2, .t 3], (.sq (.rg [kG 2 (.mv (.c (.int .i64 0))),
  kG 3 (.mv (.c (.bool false)))]) (.sq (.sq (.rg [kM 6 0,
  kN 7 6,
  kF 8 7 1,
  kL 9 8,
  kG 10 (.len (.t 9)),
  kG 11 (.ib .eql (.t 10) (.c (.int .i64 0)))]) (.cd (.t 11) (.sq (.rg [kG 2 (.mv (.c (.int .i64 0))),
  kG 3 (.mv (.c (.bool false)))]) .rt) .sk)) (.sq (.rg [kM 12 0,
  kN 13 12,
  kF 14 13 1,
  kL 15 14,
  kG 16 (.len (.t 15)),
  kG 17 (.ib .sub (.t 16) (.c (.int .i64 1))),
  kM 4 17]) (.sq (.rg [kM 18 0,
  kN 19 18,
  kF 20 19 1,
  kL 21 20,
  kM 22 4,
  kG 23 (.ia (.t 21) (.t 22) 1),
  kL 24 23,
  kM 5 24]) (.sq (.rg [kM 25 0,
  kM 26 0,
  kN 27 26,
  kF 28 27 1,
  kL 29 28,
  kM 30 4,
  kG 31 (.sl 1 (.t 29) none (some (.t 30)) none),
  kN 32 25,
  kF 33 32 1,
  kS (.st (.t 33) (.t 31) 1)]) (.sq (.rg [kM 34 5,
  kM 2 34,
  kG 3 (.mv (.c (.bool true)))]) .rt))))))⟩
theorem k221 : cF Tryz.prog Tryz.f221 = some c221 := by kernel_rfl
def c222 : Fu := ⟨20, [.t 4, .t 5], (.sq (.rg [kG 4 (.mv (.c (.int .u64 0))),
  kG 5 (.mv (.c (.int .i64 0)))]) (.sq (.sq (.rg [kM 6 0,
  kM 7 1,
  kG 8 (.ca 110 [.t 6, .t 7]),
  kG 9 (.nt (.t 8))]) (.cd (.t 9) (.sq (.rg [kG 4 (.mv (.c (.int .u64 0))),
  kG 5 (.mv (.c (.int .i64 1)))]) .rt) .sk)) (.sq (.rg [kM 10 0,
  kM 11 1,
  kM 12 0,
  kN 13 12,
  kF 14 13 0,
  kL 15 14,
  kM 16 1,
  kG 17 (.ia (.t 15) (.t 16) 1),
  kL 18 17,
  kG 19 (.ca 265 [.t 10, (.c (.int .i64 1)), .t 11, .t 18, (.c (.bool true))]),
  kM 4 19,
  kG 5 (.mv (.c (.int .i64 0)))]) .rt)))⟩
theorem k222 : cF Tryz.prog Tryz.f222 = some c222 := by kernel_rfl
def c223 : Fu := ⟨27, [], (.sq (.rg [kM 3 0,
  kN 4 3,
  kF 5 4 6,
  kL 6 5,
  kG 7 (.ca 241 [.t 6]),
  kM 2 7]) (.sq (.rg [kM 8 2,
  kG 9 (.len (.t 8)),
  kG 10 (.ib .gtr (.t 9) (.c (.int .i64 0)))]) (.cd (.t 10) (.sq (.rg [kM 11 0,
  kM 12 0,
  kM 13 2,
  kG 14 (.ia (.t 13) (.c (.int .i64 0)) 1),
  kL 15 14,
  kN 16 11,
  kF 17 16 7,
  kS (.st (.t 17) (.t 15) 1),
  kN 18 12,
  kF 19 18 9,
  kS (.st (.t 19) (.c (.bool true)) 1)]) (.rd [⟨0, 0, [0], kM 20 0⟩, ⟨1, 1, [20], kN 21 20⟩, ⟨2, 3, [21], kF 22 21 5⟩, ⟨3, 7, [22], kL 23 22⟩, ⟨4, 0, [2], kM 24 2⟩, ⟨5, 16, [24], kG 25 (.sl 1 (.t 24) (some (.c (.int .i64 1))) none none)⟩, ⟨6, 63, [23, 25], kG 26 (.ca 30 [.t 23, .t 25])⟩])) .sk)))⟩
theorem k223 : cF Tryz.prog Tryz.f223 = some c223 := by kernel_rfl
def c224 : Fu := ⟨12, [.t 3], (.sq (.rg [kG 3 (.mv (.c (.bool false)))]) (.sq (.rg [kM 4 0,
  kG 5 (.ib .geq (.t 4) (.c (.int .i64 0))),
  kM 6 5,
  kH 7 6 true (.mv (.t 0)),
  kH 8 6 true (.ld (.t 1) 1 false),
  kH 9 6 true (.ca 152 [.t 8]),
  kH 10 6 true (.ib .lss (.t 7) (.t 9)),
  kG 11 (.pk (.t 6) (.t 10) (.c (.bool false))),
  kM 3 11]) .rt))⟩
theorem k224 : cF Tryz.prog Tryz.f224 = some c224 := by kernel_rfl
def c225 : Fu := ⟨31, [.t 2, .t 3], (.sq (.rg [kG 1 (.bx 260 (.t 0)),
  kG 2 (.mv (.c (.int .u64 0))),
  kG 3 (.mv (.c (.bool false)))]) (.sq (.sq (.rg [kF 6 1 0,
  kL 7 6,
  kG 8 (.ca 266 [.t 7, (.c (.int .i64 (-1))), (.c (.int .i64 4294967294))]),
  kG 9 (.nt (.t 8)),
  kM 10 9,
  kH 11 10 false (.fa (.t 1) 1),
  kH 12 10 false (.ld (.t 11) 1 false),
  kH 13 10 false (.ca 266 [.t 12, (.c (.int .i64 0)), (.c (.int .i64 4294967295))]),
  kH 14 10 false (.nt (.t 13)),
  kG 15 (.pk (.t 10) (.c (.bool true)) (.t 14))]) (.cd (.t 15) (.sq (.rg [kG 2 (.mv (.c (.int .u64 0))),
  kG 3 (.mv (.c (.bool false)))]) .rt) .sk)) (.sq (.rg [kF 17 1 0,
  kL 18 17,
  kG 19 (.ib .add (.t 18) (.c (.int .i64 1))),
  kG 20 (.cv .u64 (.t 19)),
  kG 21 (.ca 267 [(.c (.int .u64 0)), (.c (.int .i64 0)), (.c (.int .i64 32)), .t 20]),
  kM 16 21,
  kG 22 (.ex (.t 16) 0),
  kG 23 (.ex (.t 16) 1),
  kM 4 22,
  kM 5 23]) (.sq (.rg [kM 24 4,
  kF 25 1 1,
  kL 26 25,
  kG 27 (.cv .u64 (.t 26)),
  kG 28 (.ca 267 [.t 24, (.c (.int .i64 32)), (.c (.int .i64 32)), .t 27]),
  kG 29 (.ex (.t 28) 0),
  kG 30 (.ex (.t 28) 1),
  kM 2 29,
  kM 3 30]) .rt))))⟩
theorem k225 : cF Tryz.prog Tryz.f225 = some c225 := by kernel_rfl
def c226 : Fu := ⟨31, [.t 2, .t 3], (.sq (.rg [kG 1 (.bx 262 (.t 0)),
  kG 2 (.mv (.c (.int .u64 0))),
  kG 3 (.mv (.c (.bool false)))]) (.sq (.sq (.rg [kF 4 1 0,
  kL 5 4,
  kG 6 (.ib .lss (.t 5) (.c (.int .i64 (-1)))),
  kM 7 6,
  kH 8 7 false (.fa (.t 1) 0),
  kH 9 7 false (.ld (.t 8) 1 false),
  kH 10 7 false (.ib .geq (.t 9) (.c (.int .i64 4294967295))),
  kG 11 (.pk (.t 7) (.c (.bool true)) (.t 10)),
  kM 12 11,
  kH 13 12 false (.fa (.t 1) 1),
  kH 14 12 false (.ld (.t 13) 1 false),
  kH 15 12 false (.ib .lss (.t 14) (.c (.int .i64 0))),
  kG 16 (.pk (.t 12) (.c (.bool true)) (.t 15)),
  kM 17 16,
  kH 18 17 false (.fa (.t 1) 1),
  kH 19 17 false (.ld (.t 18) 1 false),
  kH 20 17 false (.ib .gtr (.t 19) (.c (.int .i64 4294967295))),
  kG 21 (.pk (.t 17) (.c (.bool true)) (.t 20))]) (.cd (.t 21) (.sq (.rg [kG 2 (.mv (.c (.int .u64 0))),
  kG 3 (.mv (.c (.bool false)))]) .rt) .sk)) (.sq (.rg [kF 22 1 1,
  kL 23 22,
  kG 24 (.cv .u64 (.t 23)),
  kG 25 (.ib .mul (.t 24) (.c (.int .u64 4294967296))),
  kF 26 1 0,
  kL 27 26,
  kG 28 (.ib .add (.t 27) (.c (.int .i64 1))),
  kG 29 (.cv .u64 (.t 28)),
  kG 30 (.ib .add (.t 25) (.t 29)),
  kM 2 30,
  kG 3 (.mv (.c (.bool true)))]) .rt)))⟩
theorem k226 : cF Tryz.prog Tryz.f226 = some c226 := by kernel_rfl
def c227 : Fu := ⟨33, [.t 2, .t 3], (.sq (.rg [kG 2 (.mv (.c (.int .i64 0))),
  kG 3 (.mv (.c (.bool false)))]) (.sq (.rg [kM 6 0,
  kN 7 6,
  kF 8 7 1,
  kL 9 8,
  kG 10 (.len (.t 9)),
  kM 4 10]) (.sq (.sq (.rg [kM 11 4,
  kG 12 (.ib .eql (.t 11) (.c (.int .i64 0)))]) (.cd (.t 12) (.sq (.rg [kG 2 (.mv (.c (.int .i64 0))),
  kG 3 (.mv (.c (.bool false)))]) .rt) .sk)) (.sq (.rg [kM 13 0,
  kN 14 13,
  kF 15 14 1,
  kL 16 15,
  kM 17 4,
  kG 18 (.ib .sub (.t 17) (.c (.int .i64 1))),
  kG 19 (.ia (.t 16) (.t 18) 1),
  kL 20 19,
  kM 5 20]) (.sq (.rg [kM 21 0,
  kM 22 0,
  kN 23 22,
  kF 24 23 1,
  kL 25 24,
  kM 26 4,
  kG 27 (.ib .sub (.t 26) (.c (.int .i64 1))),
  kG 28 (.sl 1 (.t 25) none (some (.t 27)) none),
  kG 29 (.ap 22 3 1 8 [.int .i64 0] (.c (.slice none 0 0)) (.t 28)),
  kN 30 21,
  kF 31 30 1,
  kS (.st (.t 31) (.t 29) 1)]) (.sq (.rg [kM 32 5,
  kM 2 32,
  kG 3 (.mv (.c (.bool true)))]) .rt))))))⟩
theorem k227 : cF Tryz.prog Tryz.f227 = some c227 := by kernel_rfl
def c228 : Fu := ⟨58, [.t 4, .t 5], (.sq (.rg [kG 4 (.mv (.c (.pointer none))),
  kG 5 (.mv (.c (.int .i64 0)))]) (.sq (.sq (.rg [kM 9 1,
  kG 10 (.len (.t 9)),
  kG 11 (.mv (.c (.int .i64 0)))]) (.bl 0 (.lp (.sq (.rg [kG 12 (.ib .lss (.t 11) (.t 10))]) (.sq (.cd (.t 12) .sk (.ex 0)) (.sq (.bl 1 (.sq (.rg [kM 13 11,
  kG 14 (.ia (.t 9) (.t 11) 1),
  kL 15 14,
  kM 6 13,
  kM 7 15]) (.sq (.rg [kM 16 7,
  kG 17 (.ib .lss (.t 16) (.c (.int .i64 0))),
  kM 18 17,
  kH 19 18 false (.mv (.t 7)),
  kH 20 18 false (.mv (.t 0)),
  kH 21 18 false (.nc (.t 20)),
  kH 22 18 false (.fa (.t 21) 3),
  kH 23 18 false (.ld (.t 22) 1 false),
  kH 24 18 false (.ib .geq (.t 19) (.t 23)),
  kG 25 (.pk (.t 18) (.c (.bool true)) (.t 24)),
  kM 26 25,
  kH 27 26 false (.mv (.t 1)),
  kH 28 26 false (.mv (.t 6)),
  kH 29 26 false (.sl 1 (.t 27) none (some (.t 28)) none),
  kH 30 26 false (.mv (.t 7)),
  kH 31 26 false (.ca 268 [.t 29, .t 30]),
  kG 32 (.pk (.t 26) (.c (.bool true)) (.t 31))]) (.cd (.t 32) (.sq (.rg [kG 4 (.mv (.c (.pointer none))),
  kG 5 (.mv (.c (.int .i64 1)))]) .rt) .sk)))) (.rg [kG 33 (.ib .add (.t 11) (.c (.int .i64 1))),
  kM 11 33]))))))) (.sq (.rg [kM 34 0,
  kM 35 1,
  kG 36 (.ca 184 [.t 35]),
  kG 37 (.bd [.nilFunc, .nilFunc, .nilFunc, .nilFunc, .int .i64 0, (.pointer none), (.slice none 0 0), .int .i64 0, (.int .u64 0)] [(5, 1, (.t 34)), (6, 1, (.t 36))]),
  kG 38 (.bx 325 (.t 37)),
  kM 8 38]) (.sq (.sq (.rg [kM 39 1,
  kG 40 (.len (.t 39))]) (.bl 2 (.sq (.rg [kG 48 (.ib .eql (.t 40) (.c (.int .i64 0))),
  kM 47 48]) (.cd (.t 47) .sk (.sq (.rg [kG 50 (.ib .eql (.t 40) (.c (.int .i64 1))),
  kM 49 50]) (.cd (.t 49) (.rg [kM 51 8,
  kN 52 51,
  kF 53 52 0,
  kM 54 8,
  kG 55 (.mf (.func 269) [.t 54] []),
  kG 56 (.ca 147 [.t 53, .t 55])]) (.rg [kM 41 8,
  kN 42 41,
  kF 43 42 0,
  kM 44 8,
  kG 45 (.mf (.func 270) [.t 44] []),
  kG 46 (.ca 147 [.t 43, .t 45])]))))))) (.sq (.rg [kM 57 8,
  kM 4 57,
  kG 5 (.mv (.c (.int .i64 0)))]) .rt)))))⟩
theorem k228 : cF Tryz.prog Tryz.f228 = some c228 := by kernel_rfl
def c229 : Fu := ⟨7, [.t 2], (.sq (.rg [kG 2 (.mv (.c (.bool false)))]) (.sq (.rg [kM 3 0,
  kN 4 3,
  kF 5 4 0,
  kG 6 (.ca 92 [.t 5]),
  kM 2 6]) .rt))⟩
theorem k229 : cF Tryz.prog Tryz.f229 = some c229 := by kernel_rfl
def c230 : Fu := ⟨7, [.t 2], (.sq (.rg [kG 2 (.mv (.c (.bool false)))]) (.sq (.rg [kM 3 0,
  kN 4 3,
  kF 5 4 0,
  kG 6 (.ca 96 [.t 5]),
  kM 2 6]) .rt))⟩
theorem k230 : cF Tryz.prog Tryz.f230 = some c230 := by kernel_rfl
def c231 : Fu := ⟨2, [], .sk⟩
theorem k231 : cF Tryz.prog Tryz.f231 = some c231 := by kernel_rfl
def c232 : Fu := ⟨24, [.t 4], (.sq (.rg [kG 4 (.mv (.c (.slice none 0 0)))]) (.sq (.rg [kM 6 0,
  kN 7 6,
  kF 8 7 1,
  kL 9 8,
  kM 10 1,
  kG 11 (.sl 1 (.t 9) none (some (.t 10)) none),
  kG 12 (.ca 184 [.t 11]),
  kM 5 12]) (.sq (.rg [kM 13 0,
  kM 14 0,
  kN 15 14,
  kF 16 15 1,
  kL 17 16,
  kM 18 1,
  kG 19 (.sl 1 (.t 17) (some (.t 18)) none none),
  kG 20 (.ca 184 [.t 19]),
  kN 21 13,
  kF 22 21 1,
  kS (.st (.t 22) (.t 20) 1)]) (.sq (.rg [kM 23 5,
  kM 4 23]) .rt))))⟩
theorem k232 : cF Tryz.prog Tryz.f232 = some c232 := by kernel_rfl
def c233 : Fu := ⟨20, [.t 4], (.sq (.rg [kG 4 (.mv (.c (.bool false)))]) (.sq (.rg [kM 5 0,
  kN 6 5,
  kF 7 6 1,
  kL 8 7,
  kG 9 (.len (.t 8)),
  kG 10 (.ib .gtr (.t 9) (.c (.int .i64 0))),
  kM 11 10,
  kH 12 11 true (.mv (.t 0)),
  kH 13 11 true (.nc (.t 12)),
  kH 14 11 true (.fa (.t 13) 0),
  kH 15 11 true (.ld (.t 14) 1 false),
  kH 16 11 true (.mv (.t 1)),
  kH 17 11 true (.ib .sub (.t 16) (.c (.int .i64 2))),
  kH 18 11 true (.ib .leq (.t 15) (.t 17)),
  kG 19 (.pk (.t 11) (.t 18) (.c (.bool false))),
  kM 4 19]) .rt))⟩
theorem k233 : cF Tryz.prog Tryz.f233 = some c233 := by kernel_rfl
def c234 : Fu := ⟨13, [.t 4], (.sq (.rg [kG 4 (.mv (.c (.bool false)))]) (.sq (.rg [kM 5 1,
  kG 6 (.ib .geq (.t 5) (.c (.int .i64 2))),
  kM 7 6,
  kH 8 7 true (.mv (.t 0)),
  kH 9 7 true (.mv (.t 1)),
  kH 10 7 true (.ca 235 [.t 8, .t 9]),
  kH 11 7 true (.ib .geq (.t 10) (.c (.int .i64 0))),
  kG 12 (.pk (.t 7) (.t 11) (.c (.bool false))),
  kM 4 12]) .rt))⟩
theorem k234 : cF Tryz.prog Tryz.f234 = some c234 := by kernel_rfl
def c235 : Fu := ⟨51, [.t 4], (.sq (.rg [kG 4 (.mv (.c (.int .i64 0)))]) (.sq (.rg [kG 5 (.mv (.c (.int .i64 (-1))))]) (.sq (.sq (.rg [kG 6 (.mv (.c (.int .i64 0)))]) (.bl 0 (.lp (.sq (.sq (.rg [kM 7 6,
  kG 8 (.ib .lss (.t 7) (.c (.int .i64 3)))]) (.cd (.t 8) .sk (.ex 0))) (.sq (.bl 1 (.sq (.rd [⟨0, 0, [0], kM 11 0⟩, ⟨1, 0, [6], kM 12 6⟩, ⟨2, 1, [11], kN 13 11⟩, ⟨3, 5, [13], kF 14 13 3⟩, ⟨4, 15, [14, 12], kG 15 (.iaa (.t 14) (.t 12) 3 1)⟩, ⟨5, 31, [15], kL 16 15⟩, ⟨6, 63, [16], kG 17 (.len (.t 16))⟩, ⟨7, 127, [17], kG 18 (.ib .gtr (.t 17) (.c (.int .i64 0)))⟩, ⟨8, 255, [18], kM 19 18⟩, ⟨9, 511, [0, 19], kH 20 19 true (.mv (.t 0))⟩, ⟨10, 511, [6, 19], kH 21 19 true (.mv (.t 6))⟩, ⟨11, 1023, [20, 19], kH 22 19 true (.nc (.t 20))⟩, ⟨12, 3071, [22, 19], kH 23 19 true (.fa (.t 22) 0)⟩, ⟨13, 8191, [23, 21, 19], kH 24 19 true (.iaa (.t 23) (.t 21) 3 1)⟩, ⟨14, 16383, [24, 19], kH 25 19 true (.ld (.t 24) 1 false)⟩, ⟨15, 511, [1, 19], kH 26 19 true (.mv (.t 1))⟩, ⟨16, 33279, [26, 19], kH 27 19 true (.ib .sub (.t 26) (.c (.int .i64 2)))⟩, ⟨17, 131071, [25, 27, 19], kH 28 19 true (.ib .leq (.t 25) (.t 27))⟩, ⟨18, 262143, [19, 28], kG 29 (.pk (.t 19) (.t 28) (.c (.bool false)))⟩, ⟨19, 524287, [29], kM 30 29⟩, ⟨20, 1048575, [5, 30], kH 31 30 true (.mv (.t 5))⟩, ⟨21, 2097151, [31, 30], kH 32 30 true (.ib .lss (.t 31) (.c (.int .i64 0)))⟩, ⟨22, 4194303, [32, 30], kH 33 30 true (.mv (.t 32))⟩, ⟨23, 8388607, [0, 33], kH 34 33 false (.mv (.t 0))⟩, ⟨24, 8388607, [6, 33], kH 35 33 false (.mv (.t 6))⟩, ⟨25, 16777215, [34, 33], kH 36 33 false (.nc (.t 34))⟩, ⟨26, 50331647, [36, 33], kH 37 33 false (.fa (.t 36) 0)⟩, ⟨27, 134217727, [37, 35, 33], kH 38 33 false (.iaa (.t 37) (.t 35) 3 1)⟩, ⟨28, 268435455, [38, 33], kH 39 33 false (.ld (.t 38) 1 false)⟩, ⟨29, 8388607, [0, 33], kH 40 33 false (.mv (.t 0))⟩, ⟨30, 8388607, [5, 33], kH 41 33 false (.mv (.t 5))⟩, ⟨31, 545259519, [40, 33], kH 42 33 false (.nc (.t 40))⟩, ⟨32, 2692743167, [42, 33], kH 43 33 false (.fa (.t 42) 0)⟩, ⟨33, 8061452287, [43, 41, 33], kH 44 33 false (.iaa (.t 43) (.t 41) 3 1)⟩, ⟨34, 16651386879, [44, 33], kH 45 33 false (.ld (.t 44) 1 false)⟩, ⟨35, 34359738367, [39, 45, 33], kH 46 33 false (.ib .lss (.t 39) (.t 45))⟩, ⟨36, 68719476735, [33, 46, 30], kH 47 30 true (.pk (.t 33) (.c (.bool true)) (.t 46))⟩,
  ⟨37, 137438953471, [30, 47], kG 48 (.pk (.t 30) (.t 47) (.c (.bool false)))⟩]) (.cd (.t 48) (.rg [kM 49 6,
  kM 5 49]) .sk))) (.rg [kM 9 6,
  kG 10 (.ib .add (.t 9) (.c (.int .i64 1))),
  kM 6 10])))))) (.sq (.rg [kM 50 5,
  kM 4 50]) .rt))))⟩
theorem k235 : cF Tryz.prog Tryz.f235 = some c235 := by kernel_rfl
def c236 : Fu := ⟨17, [.t 6], (.sq (.rg [kG 6 (.mv (.c (.int .u64 0)))]) (.sq (.sq (.rg [kM 7 1,
  kM 8 2,
  kG 9 (.ca 271 [.t 7, .t 8]),
  kG 10 (.nt (.t 9))]) (.cd (.t 10) (.sq (.rg [kG 6 (.mv (.c (.int .u64 0)))]) .rt) .sk)) (.sq (.rd [⟨0, 0, [0], kM 11 0⟩, ⟨1, 0, [1], kM 12 1⟩, ⟨2, 3, [11, 12], kG 13 (.ib .shr (.t 11) (.t 12))⟩, ⟨3, 0, [2], kM 14 2⟩, ⟨4, 8, [14], kG 15 (.ca 272 [.t 14])⟩, ⟨5, 31, [13, 15], kG 16 (.ib .and (.t 13) (.t 15))⟩, ⟨6, 63, [16], kM 6 16⟩]) .rt)))⟩
theorem k236 : cF Tryz.prog Tryz.f236 = some c236 := by kernel_rfl
def c238 : Fu := ⟨9, [], (.sq (.rg [kM 2 0,
  kN 3 2,
  kF 4 3 1,
  kL 5 4,
  kG 6 (.cl (.t 5) [])]) (.rg [kM 7 0,
  kG 8 (.ca 186 [.t 7])]))⟩
theorem k238 : cF Tryz.prog Tryz.f238 = some c238 := by kernel_rfl
def c240 : Fu := ⟨54, [], (.sq (.rd [⟨0, 0, [0], kM 4 0⟩, ⟨1, 0, [0], kM 5 0⟩, ⟨2, 2, [5], kN 6 5⟩, ⟨3, 6, [6], kF 7 6 5⟩, ⟨4, 14, [7], kL 8 7⟩, ⟨5, 30, [8], kN 9 8⟩, ⟨6, 62, [9], kF 10 9 0⟩, ⟨7, 126, [10], kL 11 10⟩, ⟨8, 0, [0], kM 12 0⟩, ⟨9, 256, [12], kN 13 12⟩, ⟨10, 768, [13], kF 14 13 5⟩, ⟨11, 1792, [14], kL 15 14⟩, ⟨12, 3840, [15], kN 16 15⟩, ⟨13, 7936, [16], kF 17 16 1⟩, ⟨14, 16128, [17], kL 18 17⟩, ⟨15, 32766, [11, 18], kG 19 (.ca 222 [.t 11, .t 18])⟩, ⟨16, 65534, [19], kM 3 19⟩, ⟨17, 131070, [3], kG 20 (.ex (.t 3) 0)⟩, ⟨18, 131070, [3], kG 21 (.ex (.t 3) 1)⟩, ⟨19, 262143, [4], kN 22 4⟩, ⟨20, 786431, [22], kF 23 22 8⟩, ⟨21, 1835007, [23, 20], kS (.st (.t 23) (.t 20) 1)⟩]) (.sq (.rg [kM 24 0,
  kN 25 24,
  kF 26 25 9,
  kS (.st (.t 26) (.c (.slice none 0 0)) 1)]) (.sq (.rd [⟨0, 0, [0], kM 27 0⟩, ⟨1, 1, [27], kN 28 27⟩, ⟨2, 3, [28], kF 29 28 5⟩, ⟨3, 7, [29], kL 30 29⟩, ⟨4, 0, [0], kM 31 0⟩, ⟨5, 16, [31], kN 32 31⟩, ⟨6, 48, [32], kF 33 32 8⟩, ⟨7, 112, [33], kL 34 33⟩, ⟨8, 255, [30, 34], kG 35 (.ca 84 [.t 30, .t 34])⟩, ⟨9, 511, [35], kM 2 35⟩]) (.sq (.rg [kM 36 2,
  kG 37 (.ib .geq (.t 36) (.c (.int .i64 0)))]) (.cd (.t 37) (.sq (.rg [kM 38 0,
  kM 39 0,
  kN 40 39,
  kF 41 40 9,
  kL 42 41,
  kM 43 2,
  kG 44 (.bs 3 1 [.int .i64 0] [(0, 1, (.t 43))]),
  kG 45 (.ap 22 3 1 8 [.int .i64 0] (.t 42) (.t 44)),
  kN 46 38,
  kF 47 46 9,
  kS (.st (.t 47) (.t 45) 1)]) (.rg [kM 48 0,
  kN 49 48,
  kF 50 49 0,
  kM 51 0,
  kG 52 (.mf (.func 275) [.t 51] []),
  kG 53 (.ca 147 [.t 50, .t 52])])) .sk)))))⟩
theorem k240 : cF Tryz.prog Tryz.f240 = some c240 := by kernel_rfl
def c241 : Fu := ⟨11, [.t 2], (.sq (.rg [kG 2 (.mv (.c (.slice none 0 0)))]) (.sq (.sq (.rg [kM 3 0,
  kG 4 (.ca 194 [.t 3]),
  kG 5 (.nt (.t 4))]) (.cd (.t 5) (.sq (.rg [kG 2 (.mv (.c (.slice none 0 0)))]) .rt) .sk)) (.sq (.rg [kM 6 0,
  kN 7 6,
  kF 8 7 9,
  kL 9 8,
  kG 10 (.ca 184 [.t 9]),
  kM 2 10]) .rt)))⟩
theorem k241 : cF Tryz.prog Tryz.f241 = some c241 := by kernel_rfl
def c264 : Fu := ⟨20, [.c 4 2 true], (.sq (.rg [kG 2 (.bx 262 (.t 0)),
  kG 4 (.al 262 [.int .i64 0, .int .i64 0])]) (.sq (.sq (.rg [kF 5 2 1,
  kL 6 5,
  kG 7 (.ib .lss (.t 6) (.c (.int .i64 0))),
  kM 8 7,
  kH 9 8 false (.fa (.t 2) 1),
  kH 10 8 false (.ld (.t 9) 1 false),
  kH 11 8 false (.ib .geq (.t 10) (.c (.int .i64 4294967295))),
  kG 12 (.pk (.t 8) (.c (.bool true)) (.t 11))]) (.cd (.t 12) (.sq (.rg [kM 13 1,
  kG 14 (.bd [.int .i64 0, .int .i64 0] [(0, 1, (.t 13)), (1, 1, (.c (.int .i64 0)))]),
  kS (.st (.t 4) (.t 14) 2)]) .rt) .sk)) (.sq (.rg [kM 15 1,
  kF 16 2 1,
  kL 17 16,
  kG 18 (.ib .add (.t 17) (.c (.int .i64 1))),
  kG 19 (.bd [.int .i64 0, .int .i64 0] [(0, 1, (.t 15)), (1, 1, (.t 18))]),
  kS (.st (.t 4) (.t 19) 2)]) .rt)))⟩
theorem k264 : cF Tryz.prog Tryz.f264 = some c264 := by kernel_rfl
def c265 : Fu := ⟨43, [.t 10], (.sq (.rg [kG 10 (.mv (.c (.int .u64 0)))]) (.sq (.rg [kM 12 0,
  kN 13 12,
  kF 14 13 0,
  kL 15 14,
  kM 16 2,
  kG 17 (.ia (.t 15) (.t 16) 1),
  kL 18 17,
  kM 11 18]) (.sq (.rg [kM 19 0,
  kN 20 19,
  kF 21 20 0,
  kL 22 21,
  kM 23 2,
  kM 24 3,
  kG 25 (.ia (.t 22) (.t 23) 1),
  kS (.st (.t 25) (.t 24) 1)]) (.sq (.rg [kM 26 0,
  kN 27 26,
  kF 28 27 1,
  kL 29 28,
  kG 30 (.ib .add (.t 29) (.c (.int .i64 1))),
  kN 31 26,
  kF 32 31 1,
  kS (.st (.t 32) (.t 30) 1)]) (.sq (.rg [kM 33 0,
  kM 34 1,
  kM 35 2,
  kM 36 11,
  kM 37 3,
  kM 38 4,
  kG 39 (.bd [.int .i64 0, .int .i64 0, (.int .u64 0), (.int .u64 0), (.bool false)] [(0, 1, (.t 34)), (1, 1, (.t 35)), (2, 1, (.t 36)), (3, 1, (.t 37)), (4, 1, (.t 38))]),
  kN 40 33,
  kF 41 40 2,
  kS (.st (.t 41) (.t 39) 5)]) (.sq (.rg [kM 42 11,
  kM 10 42]) .rt))))))⟩
theorem k265 : cF Tryz.prog Tryz.f265 = some c265 := by kernel_rfl
def c266 : Fu := ⟨15, [.t 6], (.sq (.rg [kG 6 (.mv (.c (.bool false)))]) (.sq (.rg [kM 7 0,
  kM 8 1,
  kG 9 (.ib .geq (.t 7) (.t 8)),
  kM 10 9,
  kH 11 10 true (.mv (.t 0)),
  kH 12 10 true (.mv (.t 2)),
  kH 13 10 true (.ib .leq (.t 11) (.t 12)),
  kG 14 (.pk (.t 10) (.t 13) (.c (.bool false))),
  kM 6 14]) .rt))⟩
theorem k266 : cF Tryz.prog Tryz.f266 = some c266 := by kernel_rfl
end Go.Proofs.YtggnbdeokmdjbaaGreat


namespace Go.Proofs.YtggnbdeokmdjbaaGreat
open Go
set_option maxRecDepth 100000
def c267 : Fu := ⟨30, [.t 8, .t 9], (.sq (.rg [kG 8 (.mv (.c (.int .u64 0))),
  kG 9 (.mv (.c (.bool false)))]) (.sq (.sq (.rg [kM 10 1,
  kM 11 2,
  kG 12 (.ca 271 [.t 10, .t 11]),
  kG 13 (.nt (.t 12)),
  kM 14 13,
  kH 15 14 false (.mv (.t 3)),
  kH 16 14 false (.mv (.t 2)),
  kH 17 14 false (.ca 291 [.t 15, .t 16]),
  kH 18 14 false (.nt (.t 17)),
  kG 19 (.pk (.t 14) (.c (.bool true)) (.t 18))]) (.cd (.t 19) (.sq (.rg [kG 8 (.mv (.c (.int .u64 0))),
  kG 9 (.mv (.c (.bool false)))]) .rt) .sk)) (.sq (.rd [⟨0, 0, [0], kM 20 0⟩, ⟨1, 0, [2], kM 21 2⟩, ⟨2, 2, [21], kG 22 (.ca 272 [.t 21])⟩, ⟨3, 0, [1], kM 23 1⟩, ⟨4, 14, [22, 23], kG 24 (.ib .shl (.t 22) (.t 23))⟩, ⟨5, 31, [20, 24], kG 25 (.ib .andNot (.t 20) (.t 24))⟩, ⟨6, 0, [3], kM 26 3⟩, ⟨7, 0, [1], kM 27 1⟩, ⟨8, 192, [26, 27], kG 28 (.ib .shl (.t 26) (.t 27))⟩, ⟨9, 511, [25, 28], kG 29 (.ib .or (.t 25) (.t 28))⟩, ⟨10, 1023, [29], kM 8 29⟩, ⟨11, 2047, [], kG 9 (.mv (.c (.bool true)))⟩]) .rt)))⟩
theorem k267 : cF Tryz.prog Tryz.f267 = some c267 := by kernel_rfl
def c268 : Fu := ⟨9, [.t 4], (.sq (.rg [kG 4 (.mv (.c (.bool false)))]) (.sq (.rg [kM 5 0,
  kM 6 1,
  kG 7 (.ca 292 [.t 5, .t 6]),
  kG 8 (.ib .geq (.t 7) (.c (.int .i64 0))),
  kM 4 8]) .rt))⟩
theorem k268 : cF Tryz.prog Tryz.f268 = some c268 := by kernel_rfl
def c269 : Fu := ⟨29, [], (.sq (.rd [⟨0, 0, [0], kM 3 0⟩, ⟨1, 0, [0], kM 4 0⟩, ⟨2, 2, [4], kN 5 4⟩, ⟨3, 6, [5], kF 6 5 5⟩, ⟨4, 14, [6], kL 7 6⟩, ⟨5, 30, [7], kN 8 7⟩, ⟨6, 62, [8], kF 9 8 0⟩, ⟨7, 126, [9], kL 10 9⟩, ⟨8, 0, [0], kM 11 0⟩, ⟨9, 256, [11], kN 12 11⟩, ⟨10, 768, [12], kF 13 12 5⟩, ⟨11, 1792, [13], kL 14 13⟩, ⟨12, 3840, [14], kN 15 14⟩, ⟨13, 7936, [15], kF 16 15 1⟩, ⟨14, 16128, [16], kL 17 16⟩, ⟨15, 32766, [10, 17], kG 18 (.ca 222 [.t 10, .t 17])⟩, ⟨16, 65534, [18], kM 2 18⟩, ⟨17, 131070, [2], kG 19 (.ex (.t 2) 0)⟩, ⟨18, 131070, [2], kG 20 (.ex (.t 2) 1)⟩, ⟨19, 262143, [3], kN 21 3⟩, ⟨20, 786431, [21], kF 22 21 8⟩, ⟨21, 1835007, [22, 19], kS (.st (.t 22) (.t 19) 1)⟩]) (.rg [kM 23 0,
  kN 24 23,
  kF 25 24 0,
  kM 26 0,
  kG 27 (.mf (.func 293) [.t 26] []),
  kG 28 (.ca 147 [.t 25, .t 27])]))⟩
theorem k269 : cF Tryz.prog Tryz.f269 = some c269 := by kernel_rfl
def c270 : Fu := ⟨71, [], (.sq (.rd [⟨0, 0, [0], kM 2 0⟩, ⟨1, 1, [2], kN 3 2⟩, ⟨2, 3, [3], kF 4 3 5⟩, ⟨3, 7, [4], kL 5 4⟩, ⟨4, 15, [5], kN 6 5⟩, ⟨5, 31, [6], kF 7 6 0⟩, ⟨6, 63, [7], kL 8 7⟩, ⟨7, 0, [0], kM 9 0⟩, ⟨8, 128, [9], kN 10 9⟩, ⟨9, 384, [10], kF 11 10 5⟩, ⟨10, 896, [11], kL 12 11⟩, ⟨11, 1920, [12], kN 13 12⟩, ⟨12, 3968, [13], kF 14 13 2⟩, ⟨13, 8064, [14], kL 15 14⟩, ⟨14, 0, [0], kM 16 0⟩, ⟨15, 16384, [16], kN 17 16⟩, ⟨16, 49152, [17], kF 18 17 6⟩, ⟨17, 114688, [18], kL 19 18⟩, ⟨18, 0, [0], kM 20 0⟩, ⟨19, 262144, [20], kN 21 20⟩, ⟨20, 786432, [21], kF 22 21 7⟩, ⟨21, 1835008, [22], kL 23 22⟩, ⟨22, 4177920, [19, 23], kG 24 (.ia (.t 19) (.t 23) 1)⟩, ⟨23, 8372224, [24], kL 25 24⟩, ⟨24, 16777088, [15, 25], kG 26 (.ib .add (.t 15) (.t 25))⟩, ⟨25, 0, [0], kM 27 0⟩, ⟨26, 33554432, [27], kN 28 27⟩, ⟨27, 100663296, [28], kF 29 28 6⟩, ⟨28, 234881024, [29], kL 30 29⟩, ⟨29, 0, [0], kM 31 0⟩, ⟨30, 536870912, [31], kN 32 31⟩, ⟨31, 1610612736, [32], kF 33 32 7⟩, ⟨32, 3758096384, [33], kL 34 33⟩, ⟨33, 8053063680, [34], kG 35 (.ib .add (.t 34) (.c (.int .i64 1)))⟩, ⟨34, 17146314752, [30, 35], kG 36 (.ia (.t 30) (.t 35) 1)⟩, ⟨35, 34326183936, [36], kL 37 36⟩, ⟨36, 68685922304, [37], kG 38 (.ib .add (.t 37) (.c (.int .i64 1)))⟩, ⟨37, 137405399040, [38], kG 39 (.cv .u64 (.t 38))⟩, ⟨38, 274877906943, [8, 26, 39], kG 40 (.ca 283 [.t 8, .t 26, .t 39])⟩]) (.sq (.rg [kM 41 0,
  kN 42 41,
  kF 43 42 7,
  kL 44 43,
  kG 45 (.ib .add (.t 44) (.c (.int .i64 1))),
  kN 46 41,
  kF 47 46 7,
  kS (.st (.t 47) (.t 45) 1)]) (.sq (.rd [⟨0, 0, [0], kM 48 0⟩, ⟨1, 1, [48], kN 49 48⟩, ⟨2, 3, [49], kF 50 49 7⟩, ⟨3, 7, [50], kL 51 50⟩, ⟨4, 0, [0], kM 52 0⟩, ⟨5, 16, [52], kN 53 52⟩, ⟨6, 48, [53], kF 54 53 6⟩, ⟨7, 112, [54], kL 55 54⟩, ⟨8, 240, [55], kG 56 (.len (.t 55))⟩, ⟨9, 496, [56], kG 57 (.ib .sub (.t 56) (.c (.int .i64 1)))⟩, ⟨10, 1023, [51, 57], kG 58 (.ib .lss (.t 51) (.t 57))⟩]) (.cd (.t 58) (.rg [kM 59 0,
  kN 60 59,
  kF 61 60 0,
  kM 62 0,
  kG 63 (.mf (.func 270) [.t 62] []),
  kG 64 (.ca 147 [.t 61, .t 63])]) (.rg [kM 65 0,
  kN 66 65,
  kF 67 66 0,
  kM 68 0,
  kG 69 (.mf (.func 269) [.t 68] []),
  kG 70 (.ca 147 [.t 67, .t 69])])))))⟩
theorem k270 : cF Tryz.prog Tryz.f270 = some c270 := by kernel_rfl
def c271 : Fu := ⟨21, [.t 4], (.sq (.rg [kG 4 (.mv (.c (.bool false)))]) (.sq (.rg [kM 5 1,
  kG 6 (.ib .geq (.t 5) (.c (.int .i64 0))),
  kM 7 6,
  kH 8 7 true (.mv (.t 1)),
  kH 9 7 true (.ib .leq (.t 8) (.c (.int .i64 64))),
  kG 10 (.pk (.t 7) (.t 9) (.c (.bool false))),
  kM 11 10,
  kH 12 11 true (.mv (.t 0)),
  kH 13 11 true (.ib .geq (.t 12) (.c (.int .i64 0))),
  kG 14 (.pk (.t 11) (.t 13) (.c (.bool false))),
  kM 15 14,
  kH 16 15 true (.mv (.t 0)),
  kH 17 15 true (.mv (.t 1)),
  kH 18 15 true (.ib .sub (.c (.int .i64 64)) (.t 17)),
  kH 19 15 true (.ib .leq (.t 16) (.t 18)),
  kG 20 (.pk (.t 15) (.t 19) (.c (.bool false))),
  kM 4 20]) .rt))⟩
theorem k271 : cF Tryz.prog Tryz.f271 = some c271 := by kernel_rfl
def c272 : Fu := ⟨8, [.t 2], (.sq (.rg [kG 2 (.mv (.c (.int .u64 0)))]) (.sq (.rg [kM 3 0,
  kG 4 (.mm true (.t 3) (.c (.int .i64 0))),
  kG 5 (.mm false (.t 4) (.c (.int .i64 64))),
  kG 6 (.ib .shl (.c (.int .u64 1)) (.t 5)),
  kG 7 (.ib .sub (.t 6) (.c (.int .u64 1))),
  kM 2 7]) .rt))⟩
theorem k272 : cF Tryz.prog Tryz.f272 = some c272 := by kernel_rfl
def c275 : Fu := ⟨86, [], (.sq (.rd [⟨0, 0, [0], kM 5 0⟩, ⟨1, 1, [5], kN 6 5⟩, ⟨2, 3, [6], kF 7 6 5⟩, ⟨3, 7, [7], kL 8 7⟩, ⟨4, 15, [8], kN 9 8⟩, ⟨5, 31, [9], kF 10 9 0⟩, ⟨6, 63, [10], kL 11 10⟩, ⟨7, 0, [0], kM 12 0⟩, ⟨8, 128, [12], kN 13 12⟩, ⟨9, 384, [13], kF 14 13 5⟩, ⟨10, 896, [14], kL 15 14⟩, ⟨11, 1920, [15], kN 16 15⟩, ⟨12, 3968, [16], kF 17 16 2⟩, ⟨13, 8064, [17], kL 18 17⟩, ⟨14, 0, [0], kM 19 0⟩, ⟨15, 16384, [19], kN 20 19⟩, ⟨16, 49152, [20], kF 21 20 9⟩, ⟨17, 114688, [21], kL 22 21⟩, ⟨18, 0, [0], kM 23 0⟩, ⟨19, 262144, [23], kN 24 23⟩, ⟨20, 786432, [24], kF 25 24 9⟩, ⟨21, 1835008, [25], kL 26 25⟩, ⟨22, 3932160, [26], kG 27 (.len (.t 26))⟩, ⟨23, 8126464, [27], kG 28 (.ib .sub (.t 27) (.c (.int .i64 1)))⟩, ⟨24, 16760832, [22, 28], kG 29 (.ia (.t 22) (.t 28) 1)⟩, ⟨25, 33538048, [29], kL 30 29⟩, ⟨26, 67108736, [18, 30], kG 31 (.ib .add (.t 18) (.t 30))⟩, ⟨27, 134217727, [11, 31], kG 32 (.ca 222 [.t 11, .t 31])⟩, ⟨28, 268435455, [32], kM 4 32⟩, ⟨29, 536870911, [4], kG 33 (.ex (.t 4) 0)⟩, ⟨30, 536870911, [4], kG 34 (.ex (.t 4) 1)⟩, ⟨31, 1073741823, [33], kM 2 33⟩, ⟨32, 4294967295, [34], kM 3 34⟩]) (.sq (.rg [kM 35 0,
  kM 36 0,
  kN 37 36,
  kF 38 37 5,
  kL 39 38,
  kM 40 2,
  kG 41 (.ca 85 [.t 39, .t 40]),
  kN 42 35,
  kF 43 42 7,
  kS (.st (.t 43) (.t 41) 1)]) (.sq (.rd [⟨0, 0, [0], kM 44 0⟩, ⟨1, 1, [44], kN 45 44⟩, ⟨2, 3, [45], kF 46 45 7⟩, ⟨3, 7, [46], kL 47 46⟩, ⟨4, 15, [47], kG 48 (.ib .geq (.t 47) (.c (.int .i64 0)))⟩, ⟨5, 31, [48], kM 49 48⟩, ⟨6, 63, [0, 49], kH 50 49 true (.mv (.t 0))⟩, ⟨7, 127, [50, 49], kH 51 49 true (.nc (.t 50))⟩, ⟨8, 255, [51, 49], kH 52 49 true (.fa (.t 51) 9)⟩, ⟨9, 511, [52, 49], kH 53 49 true (.ld (.t 52) 1 false)⟩, ⟨10, 1023, [53, 49], kH 54 49 true (.len (.t 53))⟩, ⟨11, 63, [0, 49], kH 55 49 true (.mv (.t 0))⟩, ⟨12, 2111, [55, 49], kH 56 49 true (.nc (.t 55))⟩, ⟨13, 6207, [56, 49], kH 57 49 true (.fa (.t 56) 6)⟩, ⟨14, 14399, [57, 49], kH 58 49 true (.ld (.t 57) 1 false)⟩, ⟨15, 32767, [54, 58, 49], kH 59 49 true (.ib .lss (.t 54) (.t 58))⟩, ⟨16, 65535, [49, 59], kG 60 (.pk (.t 49) (.t 59) (.c (.bool false)))⟩]) (.cd (.t 60) (.sq (.rd [⟨0, 0, [0], kM 61 0⟩, ⟨1, 0, [0], kM 62 0⟩, ⟨2, 2, [62], kN 63 62⟩, ⟨3, 6, [63], kF 64 63 9⟩, ⟨4, 14, [64], kL 65 64⟩, ⟨5, 0, [0], kM 66 0⟩, ⟨6, 32, [66], kN 67 66⟩, ⟨7, 96, [67], kF 68 67 7⟩, ⟨8, 224, [68], kL 69 68⟩, ⟨9, 480, [69], kG 70 (.bs 3 1 [.int .i64 0] [(0, 1, (.t 69))])⟩, ⟨10, 1022, [65, 70], kG 71 (.ap 22 3 1 8 [.int .i64 0] (.t 65) (.t 70))⟩, ⟨11, 2047, [61], kN 72 61⟩, ⟨12, 4095, [72], kF 73 72 9⟩, ⟨13, 8191, [73, 71], kS (.st (.t 73) (.t 71) 1)⟩]) (.rg [kM 74 0,
  kN 75 74,
  kF 76 75 0,
  kM 77 0,
  kG 78 (.mf (.func 275) [.t 77] []),
  kG 79 (.ca 147 [.t 76, .t 78])])) (.rg [kM 80 0,
  kN 81 80,
  kF 82 81 0,
  kM 83 0,
  kG 84 (.mf (.func 294) [.t 83] []),
  kG 85 (.ca 147 [.t 82, .t 84])])))))⟩
theorem k275 : cF Tryz.prog Tryz.f275 = some c275 := by kernel_rfl
def c283 : Fu := ⟨15, [.t 6], (.sq (.rg [kG 6 (.mv (.c (.int .i64 0)))]) (.sq (.sq (.rg [kM 7 0,
  kM 8 1,
  kG 9 (.ca 110 [.t 7, .t 8]),
  kG 10 (.nt (.t 9))]) (.cd (.t 10) (.sq (.rg [kG 6 (.mv (.c (.int .i64 1)))]) .rt) .sk)) (.sq (.rg [kM 11 0,
  kM 12 1,
  kM 13 2,
  kG 14 (.ca 265 [.t 11, (.c (.int .i64 2)), .t 12, .t 13, (.c (.bool true))])]) (.sq (.rg [kG 6 (.mv (.c (.int .i64 0)))]) .rt))))⟩
theorem k283 : cF Tryz.prog Tryz.f283 = some c283 := by kernel_rfl
def c287 : Fu := ⟨37, [.t 8, .t 9], (.sq (.rg [kG 8 (.mv (.c (.bool false))),
  kG 9 (.mv (.c (.int .i64 0)))]) (.sq (.sq (.rg [kM 10 0,
  kM 11 1,
  kG 12 (.ca 110 [.t 10, .t 11]),
  kG 13 (.nt (.t 12))]) (.cd (.t 13) (.sq (.rg [kG 8 (.mv (.c (.bool false))),
  kG 9 (.mv (.c (.int .i64 1)))]) .rt) .sk)) (.sq (.sq (.rg [kM 14 0,
  kN 15 14,
  kF 16 15 0,
  kL 17 16,
  kM 18 1,
  kG 19 (.ia (.t 17) (.t 18) 1),
  kL 20 19,
  kM 21 2,
  kG 22 (.ib .neq (.t 20) (.t 21))]) (.cd (.t 22) (.sq (.rg [kM 23 0,
  kM 24 1,
  kM 25 0,
  kN 26 25,
  kF 27 26 0,
  kL 28 27,
  kM 29 1,
  kG 30 (.ia (.t 28) (.t 29) 1),
  kL 31 30,
  kG 32 (.ca 265 [.t 23, (.c (.int .i64 3)), .t 24, .t 31, (.c (.bool false))])]) (.sq (.rg [kG 8 (.mv (.c (.bool false))),
  kG 9 (.mv (.c (.int .i64 0)))]) .rt)) .sk)) (.sq (.rg [kM 33 0,
  kM 34 1,
  kM 35 3,
  kG 36 (.ca 265 [.t 33, (.c (.int .i64 3)), .t 34, .t 35, (.c (.bool true))])]) (.sq (.rg [kG 8 (.mv (.c (.bool true))),
  kG 9 (.mv (.c (.int .i64 0)))]) .rt)))))⟩
theorem k287 : cF Tryz.prog Tryz.f287 = some c287 := by kernel_rfl
def c291 : Fu := ⟨10, [.t 4], (.sq (.rg [kG 4 (.mv (.c (.bool false)))]) (.sq (.rg [kM 5 0,
  kM 6 1,
  kG 7 (.ca 272 [.t 6]),
  kG 8 (.ib .andNot (.t 5) (.t 7)),
  kG 9 (.ib .eql (.t 8) (.c (.int .u64 0))),
  kM 4 9]) .rt))⟩
theorem k291 : cF Tryz.prog Tryz.f291 = some c291 := by kernel_rfl
def c292 : Fu := ⟨19, [.t 4], (.sq (.rg [kG 4 (.mv (.c (.int .i64 0)))]) (.sq (.sq (.rg [kM 6 0,
  kG 7 (.len (.t 6)),
  kG 8 (.mv (.c (.int .i64 0)))]) (.bl 0 (.lp (.sq (.rg [kG 9 (.ib .lss (.t 8) (.t 7))]) (.sq (.cd (.t 9) .sk (.ex 0)) (.sq (.bl 1 (.sq (.rg [kM 10 8,
  kM 5 10]) (.sq (.rg [kM 11 1,
  kM 12 0,
  kM 13 5,
  kG 14 (.ia (.t 12) (.t 13) 1),
  kL 15 14,
  kG 16 (.ib .eql (.t 11) (.t 15))]) (.cd (.t 16) (.sq (.rg [kM 17 5,
  kM 4 17]) .rt) .sk)))) (.rg [kG 18 (.ib .add (.t 8) (.c (.int .i64 1))),
  kM 8 18]))))))) (.sq (.rg [kG 4 (.mv (.c (.int .i64 (-1))))]) .rt)))⟩
theorem k292 : cF Tryz.prog Tryz.f292 = some c292 := by kernel_rfl
def c293 : Fu := ⟨47, [], (.sq (.rd [⟨0, 0, [0], kM 2 0⟩, ⟨1, 1, [2], kN 3 2⟩, ⟨2, 3, [3], kF 4 3 5⟩, ⟨3, 7, [4], kL 5 4⟩, ⟨4, 15, [5], kN 6 5⟩, ⟨5, 31, [6], kF 7 6 0⟩, ⟨6, 63, [7], kL 8 7⟩, ⟨7, 0, [0], kM 9 0⟩, ⟨8, 128, [9], kN 10 9⟩, ⟨9, 384, [10], kF 11 10 5⟩, ⟨10, 896, [11], kL 12 11⟩, ⟨11, 1920, [12], kN 13 12⟩, ⟨12, 3968, [13], kF 14 13 2⟩, ⟨13, 8064, [14], kL 15 14⟩, ⟨14, 0, [0], kM 16 0⟩, ⟨15, 16384, [16], kN 17 16⟩, ⟨16, 49152, [17], kF 18 17 6⟩, ⟨17, 114688, [18], kL 19 18⟩, ⟨18, 0, [0], kM 20 0⟩, ⟨19, 262144, [20], kN 21 20⟩, ⟨20, 786432, [21], kF 22 21 6⟩, ⟨21, 1835008, [22], kL 23 22⟩, ⟨22, 3932160, [23], kG 24 (.len (.t 23))⟩, ⟨23, 8126464, [24], kG 25 (.ib .sub (.t 24) (.c (.int .i64 1)))⟩, ⟨24, 16760832, [19, 25], kG 26 (.ia (.t 19) (.t 25) 1)⟩, ⟨25, 33538048, [26], kL 27 26⟩, ⟨26, 67108736, [15, 27], kG 28 (.ib .add (.t 15) (.t 27))⟩, ⟨27, 0, [0], kM 29 0⟩, ⟨28, 134217728, [29], kN 30 29⟩, ⟨29, 402653184, [30], kF 31 30 5⟩, ⟨30, 939524096, [31], kL 32 31⟩, ⟨31, 0, [0], kM 33 0⟩, ⟨32, 2147483648, [33], kN 34 33⟩, ⟨33, 6442450944, [34], kF 35 34 8⟩, ⟨34, 15032385536, [35], kL 36 35⟩, ⟨35, 34225520640, [32, 36], kG 37 (.ca 84 [.t 32, .t 36])⟩, ⟨36, 68585259008, [37], kG 38 (.ib .add (.t 37) (.c (.int .i64 1)))⟩, ⟨37, 137304735744, [38], kG 39 (.cv .u64 (.t 38))⟩, ⟨38, 274877906943, [8, 28, 39], kG 40 (.ca 283 [.t 8, .t 28, .t 39])⟩]) (.rg [kM 41 0,
  kN 42 41,
  kF 43 42 0,
  kM 44 0,
  kG 45 (.mf (.func 297) [.t 44] []),
  kG 46 (.ca 147 [.t 43, .t 45])]))⟩
theorem k293 : cF Tryz.prog Tryz.f293 = some c293 := by kernel_rfl
def c294 : Fu := ⟨22, [], (.sq (.rd [⟨0, 0, [0], kM 2 0⟩, ⟨1, 1, [2], kN 3 2⟩, ⟨2, 3, [3], kF 4 3 5⟩, ⟨3, 7, [4], kL 5 4⟩, ⟨4, 0, [0], kM 6 0⟩, ⟨5, 16, [6], kN 7 6⟩, ⟨6, 48, [7], kF 8 7 8⟩, ⟨7, 112, [8], kL 9 8⟩, ⟨8, 0, [0], kM 10 0⟩, ⟨9, 256, [10], kN 11 10⟩, ⟨10, 768, [11], kF 12 11 7⟩, ⟨11, 1792, [12], kL 13 12⟩, ⟨12, 4095, [5, 9, 13], kG 14 (.ca 298 [.t 5, .t 9, .t 13])⟩, ⟨13, 8191, [14], kG 15 (.nt (.t 14))⟩]) (.cd (.t 15) (.rg [kM 16 0,
  kN 17 16,
  kF 18 17 0,
  kM 19 0,
  kG 20 (.mf (.func 240) [.t 19] []),
  kG 21 (.ca 147 [.t 18, .t 20])]) .sk))⟩
theorem k294 : cF Tryz.prog Tryz.f294 = some c294 := by kernel_rfl
def c297 : Fu := ⟨24, [], (.sq (.rd [⟨0, 0, [0], kM 2 0⟩, ⟨1, 1, [2], kN 3 2⟩, ⟨2, 3, [3], kF 4 3 5⟩, ⟨3, 7, [4], kL 5 4⟩, ⟨4, 0, [0], kM 6 0⟩, ⟨5, 16, [6], kN 7 6⟩, ⟨6, 48, [7], kF 8 7 8⟩, ⟨7, 112, [8], kL 9 8⟩, ⟨8, 0, [0], kM 10 0⟩, ⟨9, 256, [10], kN 11 10⟩, ⟨10, 768, [11], kF 12 11 6⟩, ⟨11, 1792, [12], kL 13 12⟩, ⟨12, 3840, [13], kG 14 (.ia (.t 13) (.c (.int .i64 0)) 1)⟩, ⟨13, 7936, [14], kL 15 14⟩, ⟨14, 16383, [5, 9, 15], kG 16 (.ca 298 [.t 5, .t 9, .t 15])⟩, ⟨15, 32767, [16], kG 17 (.nt (.t 16))⟩]) (.cd (.t 17) (.rg [kM 18 0,
  kN 19 18,
  kF 20 19 0,
  kM 21 0,
  kG 22 (.mf (.func 269) [.t 21] []),
  kG 23 (.ca 147 [.t 20, .t 22])]) .sk))⟩
theorem k297 : cF Tryz.prog Tryz.f297 = some c297 := by kernel_rfl
def c298 : Fu := ⟨34, [.t 6], (.sq (.rg [kG 6 (.mv (.c (.bool false)))]) (.sq (.rg [kM 12 1,
  kG 13 (.ca 178 [.t 12]),
  kM 14 2,
  kG 15 (.ca 299 [.t 13, .t 14]),
  kG 16 (.ca 225 [.t 15]),
  kM 11 16,
  kG 17 (.ex (.t 11) 0),
  kG 18 (.ex (.t 11) 1),
  kM 7 17,
  kM 8 18]) (.sq (.rd [⟨0, 0, [0], kM 20 0⟩, ⟨1, 1, [20], kN 21 20⟩, ⟨2, 3, [21], kF 22 21 0⟩, ⟨3, 7, [22], kL 23 22⟩, ⟨4, 0, [0], kM 24 0⟩, ⟨5, 16, [24], kN 25 24⟩, ⟨6, 48, [25], kF 26 25 1⟩, ⟨7, 112, [26], kL 27 26⟩, ⟨8, 0, [1], kM 28 1⟩, ⟨9, 0, [7], kM 29 7⟩, ⟨10, 1023, [23, 27, 28, 29], kG 30 (.ca 287 [.t 23, .t 27, .t 28, .t 29])⟩, ⟨11, 2047, [30], kM 19 30⟩, ⟨12, 4095, [19], kG 31 (.ex (.t 19) 0)⟩, ⟨13, 4095, [19], kG 32 (.ex (.t 19) 1)⟩, ⟨14, 8191, [31], kM 9 31⟩, ⟨15, 32767, [32], kM 10 32⟩]) (.sq (.rg [kM 33 9,
  kM 6 33]) .rt))))⟩
theorem k298 : cF Tryz.prog Tryz.f298 = some c298 := by kernel_rfl
def c299 : Fu := ⟨15, [.c 4 2 true], (.sq (.rg [kG 2 (.bx 260 (.t 0)),
  kG 4 (.al 260 [.int .i64 0, .int .i64 0])]) (.sq (.rg [kG 5 (.mv (.c (.int .i64 0)))]) (.sq (.sq (.rg [kF 6 2 1,
  kL 7 6,
  kG 8 (.ca 266 [.t 7, (.c (.int .i64 0)), (.c (.int .i64 4294967294))])]) (.cd (.t 8) (.rg [kF 9 2 1,
  kL 10 9,
  kG 11 (.ib .add (.t 10) (.c (.int .i64 1))),
  kM 5 11]) .sk)) (.sq (.rg [kM 12 1,
  kM 13 5,
  kG 14 (.bd [.int .i64 0, .int .i64 0] [(0, 1, (.t 12)), (1, 1, (.t 13))]),
  kS (.st (.t 4) (.t 14) 2)]) .rt))))⟩
theorem k299 : cF Tryz.prog Tryz.f299 = some c299 := by kernel_rfl
end Go.Proofs.YtggnbdeokmdjbaaGreat


namespace Go.Proofs.YtggnbdeokmdjbaaGreat
end Go.Proofs.YtggnbdeokmdjbaaGreat


namespace Go.Proofs.YtggnbdeokmdjbaaGreat
open Go
attribute [local irreducible] Sx Cx Rx Fx Krg Ksq Kbl Klp Kr
def ints (xs : List Int) : List Value := xs.map (Value.int .i64)
theorem length_ints (xs : List Int) : (ints xs).length = xs.length := by simp [ints]
theorem ones_ints (xs : List Int) : ones (ints xs) = true := by simp [ones, ints, Value.oneCell']
theorem ints_append (xs ys : List Int) : ints (xs ++ ys) = ints xs ++ ints ys := by simp [ints]
theorem ints_take (xs : List Int) (n : Nat) : (ints xs).take n = ints (xs.take n) := by simp [ints, List.map_take]
theorem ints_drop (xs : List Int) (n : Nat) : (ints xs).drop n = ints (xs.drop n) := by simp [ints, List.map_drop]
section
variable {L F : St}
theorem Ent.rownil (E sz : Nat) : Ent L (pt none (Row E sz 0 0 []) :: L) := .of fun h H =>
 ⟨Hp.no, h, fun _ => .inl rfl, by funext k; simp [Hp.join, Hp.no], ⟨by simp, .inl ⟨rfl, rfl, rfl, rfl⟩⟩, H⟩
theorem Row.shrink {E sz n cap m : Nat} {xs : List Value} {a : Option Addr} (hm : m ≤ n) : ∀ g, pt a (Row E sz n cap xs) g → pt a (Row E sz m cap (xs.take (m * sz))) g := by
 rintro h ⟨hx, hh⟩
 have hms : m * sz ≤ n * sz := Nat.mul_le_mul_right _ hm
 refine ⟨by rw [List.length_take, hx]; omega, ?_⟩
 rcases hh with ⟨h1, h2, h3, h4⟩ | ⟨g, cur, h1, h2, h3, h4, h5, h6⟩
 ·exact .inl ⟨h1, by omega, h3, h4⟩
 ·refine .inr ⟨g, cur, h1, h2, by omega, h4, h5, ?_⟩
  rw [← h6, List.take_take, Nat.min_eq_left hms]
theorem clone {a : Option Addr} {m c : Nat} {vs : List Value} (hr : Rd L 1 a m vs) (h1 : ones vs = true) (hm : m ≤ 1000000000) :
  Fx Tryz.prog 184 [.slice a m c] L (fun v L' => ∃ a' c', v = .slice a' m c' ∧ L' = pt a' (Row 3 1 m c' vs) :: L) := by
 refine Fx.mk Tryz.func184 k184 nb_ ?_
 dsimp only [c184, kG, kS, kH, kM, kN, kF, kL, envOf, Nat.reduceAdd]
 cases a with
 | none =>
   refine go ?_
   have hm0 : m = 0 := by
    rcases hr.2 with h | ⟨b, o, h, _⟩
    ·exact h
    ·cases h
   subst hm0
   have hv : vs = [] := List.eq_nil_of_length_eq_zero (by simpa using hr.1)
   subst hv
   exact Kr.one (.inr rfl) rfl (Ent.rownil _ _) ⟨none, 0, rfl, rfl⟩
 | some a =>
   refine go ?_
   refine Sx.bs (sz := 1) rfl rfl fun g => ?_
   refine go ?_
   refine Sx.ap rfl rfl (hr.ent Ent.drop) h1 (by simp [maxLen]; omega) (by omega) fun ra ca hc => ?_
   refine go ?_
   refine Kr.one (.inr rfl) rfl (Ent.refl _) ⟨ra, ca, ?_, ?_⟩
   ·simp
   ·simp
def StashT (T : TypeId) (most : Int) (xs : List Int) (a : Option Addr) : As :=
 exs fun (y : Option Addr × Nat) => [pt a (Blk T [.int .i64 most, .slice y.1 xs.length y.2]), pt y.1 (Row 3 1 xs.length y.2 (ints xs))]
abbrev StashO := StashT 279
theorem StashO.close {T : TypeId} {most : Int} {xs : List Int} {a r : Option Addr} {cap n : Nat} {v : Value} {vs : List Value} {F G : St} [t : Take L a (Blk T [v, .slice r n cap]) F] [u : Take F r (Row 3 1 n cap vs) G]
  (hn : n = xs.length) (hv : v = .int .i64 most) (hvs : vs = ints xs) : Ent L (pt a (StashT T most xs) :: G) := by
 subst hn; subst hv; subst hvs
 exact (Ent.take1 (t := t) (Ent.of u.out)).trans (Ent.close (f := fun (y : Option Addr × Nat) => [pt a (Blk T [.int .i64 most, .slice y.1 xs.length y.2]), pt y.1 (Row 3 1 xs.length y.2 (ints xs))]) rfl (r, cap))
theorem stashNew (m : Int) : Fx Tryz.prog 143 [.int .i64 m] L (fun v L' => ∃ g, v = .pointer (some ⟨g, 0, none⟩) ∧ L' = pt (some ⟨g, 0, none⟩) (StashO (min (max m 0) 64) []) :: L) := by
 refine Fx.mk Tryz.func143 k143 nb_ ?_
 dsimp only [c143, kG, kS, kH, kM, kN, kF, kL, envOf, Nat.reduceAdd]
 refine go ?_
 refine Sx.bx rfl rfl fun g => ?_
 refine go ?_
 refine Kr.one (.inr rfl) rfl (Ent.trans (Ent.rownil 3 1) (StashO.close (xs := []) rfl ?_ rfl)) ⟨g, rfl, rfl⟩
 simp only [cond_true, cond_false]
 congr 1
 omega
theorem stashGive {b : Nat} {most : Int} {xs ys : List Int} {ya : Option Addr} {m c : Nat} {F : St} [t : Take L (some ⟨b, 0, none⟩) (StashO most xs) F] (hr : Rd F 1 ya m (ints ys)) (hb : xs.length + m ≤ 1000000000) :
  Fx Tryz.prog 106 [.pointer (some ⟨b, 0, none⟩), .slice ya m c] L (fun v L' => v = .tuple #[] ∧ L' = pt (some ⟨b, 0, none⟩) (StashO most (xs ++ ys)) :: F) := by
 refine Fx.mk Tryz.func106 k106 nb_ ?_
 dsimp only [c106, kG, kS, kH, kM, kN, kF, kL, envOf, Nat.reduceAdd]
 refine Cx.openp (t := t) rfl ?_
 rintro ⟨r, cap⟩
 simp only [List.cons_append, List.nil_append]
 refine go ?_
 refine Sx.ap rfl rfl (hr.ent (Ent.drop.trans Ent.drop)) (ones_ints ys) (by simp [maxLen]; omega) (by omega) fun ra ca hc => ?_
 refine go ?_
 have hm : m = ys.length := by have := hr.1; simp [length_ints] at this; omega
 exact Kr.none (.inl rfl) (StashO.close (by simp [hm]) rfl (by simp [ints])) ⟨rfl, rfl⟩
theorem stashTakeNone {b : Nat} {most : Int} {F : St} [t : Take L (some ⟨b, 0, none⟩) (StashO most []) F] :
  Fx Tryz.prog 221 [.pointer (some ⟨b, 0, none⟩)] L (fun v L' => v = .tuple #[.int .i64 0, .bool false] ∧ L' = pt (some ⟨b, 0, none⟩) (StashO most []) :: F) := by
 refine Fx.mk Tryz.func221 k221 nb_ ?_
 dsimp only [c221, kG, kS, kH, kM, kN, kF, kL, envOf, Nat.reduceAdd]
 refine Cx.openp (t := t) rfl ?_
 rintro ⟨r, cap⟩
 simp only [List.cons_append, List.nil_append]
 refine go ?_
 exact Kr.two (.inr rfl) rfl rfl (StashO.close rfl rfl rfl) ⟨rfl, rfl⟩
theorem stashTakeSome {b : Nat} {most : Int} {xs : List Int} {x : Int} {F : St} [t : Take L (some ⟨b, 0, none⟩) (StashO most (xs ++ [x])) F] (hb : xs.length ≤ 1000000000) :
  Fx Tryz.prog 221 [.pointer (some ⟨b, 0, none⟩)] L (fun v L' => v = .tuple #[.int .i64 x, .bool true] ∧ L' = pt (some ⟨b, 0, none⟩) (StashO most xs) :: F) := by
 refine Fx.mk Tryz.func221 k221 nb_ ?_
 dsimp only [c221, kG, kS, kH, kM, kN, kF, kL, envOf, Nat.reduceAdd]
 refine Cx.openp (t := t) rfl ?_
 rintro ⟨r, cap⟩
 simp only [List.cons_append, List.nil_append]
 generalize hn : (xs ++ [x]).length = n
 have hn' : n = xs.length + 1 := by simp at hn; omega
 clear hn
 refine Cx.rowkey (a := r) fun _ hnc _ hk => ?_
 obtain ⟨g, rfl⟩ : ∃ g, r = some ⟨g, 0, none⟩ := by
  rcases hk with h | h
  ·exfalso; omega
  ·exact h
 have hw : IntKind.i64.wrap ((n : Int) - 1) = (xs.length : Int) := by rw [w64 (by omega) (by omega)]; omega
 refine go ?_
 refine Cx.cno rfl (by simp; omega) ?_
 refine go ?_
 rw [hw]
 refine go ?_
 refine Sx.pv rfl ⟨by omega, by omega⟩ ?_
 refine Sx.ldr rfl (v := .int .i64 x) ?_ ?_
 ·simp [ints]
 refine go ?_
 refine Sx.pv rfl ⟨by omega, by omega⟩ ?_
 refine go ?_
 refine Kr.two (.inr rfl) rfl rfl ?_ ⟨rfl, rfl⟩
 refine Ent.trans (Ent.take1 (a := some ⟨g, 0, none⟩) (Ent.refl _)) (Ent.trans (Ent.head (Row.shrink (m := xs.length) (by omega))) ?_)
 refine StashO.close (by simp) rfl ?_
 simp [ints]
theorem Rd.prefix_ {a : Option Addr} {E sz n cap m : Nat} {xs : List Value} [t : Take L a (Row E sz n cap xs) F] (hx : xs.length = n * sz) (hk : (a = none ∧ n = 0 ∧ cap = 0) ∨ ∃ g, a = some ⟨g, 0, none⟩) (hm : m ≤ n) : Rd L sz a m (xs.take (m * sz)) := by
 have hms : m * sz ≤ n * sz := Nat.mul_le_mul_right _ hm
 refine ⟨by rw [List.length_take]; omega, ?_⟩
 rcases hk with ⟨_, h, _⟩ | ⟨g, rfl⟩
 ·left; omega
 ·right
  have h := Has.row (L := L) (b := g) (E := E) (sz := sz) (n := n) (cap := cap) (xs := xs) (off := 0) (m := m * sz)
  rw [List.drop_zero] at h
  exact ⟨g, 0, rfl, h⟩
theorem Rd.suffix_ {g : Nat} {E sz n cap i : Nat} {xs : List Value} [t : Take L (some ⟨g, 0, none⟩) (Row E sz n cap xs) F] (hx : xs.length = n * sz) (hn : n ≤ cap) (hi : i ≤ n) : Rd L sz (some ⟨g, 0 + skp cap i sz, none⟩) (n - i) (xs.drop (i * sz)) := by
 have hms : i * sz ≤ n * sz := Nat.mul_le_mul_right _ hi
 refine ⟨by rw [List.length_drop, hx, Nat.sub_mul], ?_⟩
 by_cases hc : cap = i
 ·left; omega
 ·right
  refine ⟨g, 0 + skp cap i sz, rfl, ?_⟩
  have h := Has.row (L := L) (b := g) (E := E) (sz := sz) (n := n) (cap := cap) (xs := xs) (off := i * sz) (m := (xs.drop (i * sz)).length)
  rw [List.take_length] at h
  simp only [skp, hc, if_false, Nat.zero_add]
  exact h
theorem stashCut {b : Nat} {most : Int} {xs : List Int} {k : Nat} {F : St} [t : Take L (some ⟨b, 0, none⟩) (StashO most xs) F] (hb : xs.length ≤ 1000000000) (hk : k ≤ xs.length) :
  Fx Tryz.prog 232 [.pointer (some ⟨b, 0, none⟩), .int .i64 k] L (fun v L' => ∃ a c, v = .slice a k c ∧ L' = pt a (Row 3 1 k c (ints (xs.take k))) :: pt (some ⟨b, 0, none⟩) (StashO most (xs.drop k)) :: F) := by
 refine Fx.mk Tryz.func232 k232 nb_ ?_
 dsimp only [c232, kG, kS, kH, kM, kN, kF, kL, envOf, Nat.reduceAdd]
 refine Cx.openp (t := t) rfl ?_
 rintro ⟨r, cap⟩
 simp only [List.cons_append, List.nil_append]
 refine Cx.rowkey (a := r) fun hx hnc _ hkey => ?_
 refine go ?_
 refine Sx.pv rfl ⟨by omega, by omega⟩ ?_
 have h1 := Rd.prefix_ (L := pt (some ⟨b, 0, none⟩) (Blk 279 [.int .i64 most, .slice r xs.length cap]) :: pt r (Row 3 1 xs.length cap (ints xs)) :: F) (a := r) hx hkey hk
 simp only [Nat.mul_one, ints_take] at h1
 refine Sx.ca rfl (clone (by simpa using h1) (ones_ints _) (by omega)) ?_
 rintro v L' ⟨a1, c1, rfl, rfl⟩
 refine go ?_
 rcases hkey with ⟨rfl, h0, rfl⟩ | ⟨g, rfl⟩
 ·have hx0 : xs = [] := List.eq_nil_of_length_eq_zero h0
  subst hx0
  have hk0 : k = 0 := by simpa using hk
  subst hk0
  refine Sx.pv rfl (by simp) ?_
  refine Sx.ca rfl (clone (vs := []) (Rd.nil _ _ _) rfl (by omega)) ?_
  rintro v L' ⟨a2, c2, rfl, rfl⟩
  refine go ?_
  refine Kr.one (.inr rfl) rfl ?_ ⟨a1, c1, rfl, rfl⟩
  refine Ent.trans (StashO.close (a := some ⟨b, 0, none⟩) (r := a2) (xs := []) rfl rfl rfl) ?_
  simp only [Int.toNat_natCast, List.take_nil, List.drop_nil, ints, List.map_nil]
  exact ent
 ·refine Sx.pv rfl ⟨by omega, by omega⟩ ?_
  have h2 := Rd.suffix_ (L := pt a1 (Row 3 1 k c1 (ints (xs.take k))) :: pt (some ⟨b, 0, none⟩) (Blk 279 [.int .i64 most, .slice (some ⟨g, 0, none⟩) xs.length cap]) :: pt (some ⟨g, 0, none⟩) (Row 3 1 xs.length cap (ints xs)) :: F) (g := g) hx hnc hk
  simp only [Nat.mul_one, ints_drop] at h2
  refine Sx.ca rfl (clone (vs := ints (xs.drop k)) (by simpa using h2) (ones_ints _) (by omega)) ?_
  rintro v L' ⟨a2, c2, rfl, rfl⟩
  refine go ?_
  refine Kr.one (.inr rfl) rfl ?_ ⟨a1, c1, rfl, rfl⟩
  refine Ent.trans (StashO.close (a := some ⟨b, 0, none⟩) (r := a2) (xs := xs.drop k) (by simp) rfl rfl) ?_
  simp only [Int.toNat_natCast]
  exact ent
theorem stashAll {b : Nat} {most : Int} {xs : List Int} {F : St} [t : Take L (some ⟨b, 0, none⟩) (StashO most xs) F] (hb : xs.length ≤ 1000000000) :
  Fx Tryz.prog 172 [.pointer (some ⟨b, 0, none⟩)] L (fun v L' => ∃ a c, v = .slice a xs.length c ∧ L' = pt a (Row 3 1 xs.length c (ints xs)) :: pt (some ⟨b, 0, none⟩) (StashO most []) :: F) := by
 refine Fx.mk Tryz.func172 k172 nb_ ?_
 dsimp only [c172, kG, kS, kH, kM, kN, kF, kL, envOf, Nat.reduceAdd]
 refine Cx.openp (t := t) rfl ?_
 rintro ⟨r, cap⟩
 simp only [List.cons_append, List.nil_append]
 refine go ?_
 refine Sx.ent (StashO.close (a := some ⟨b, 0, none⟩) (r := r) (xs := xs) rfl rfl rfl) ?_
 refine Sx.ca rfl (stashCut (b := b) (most := most) (xs := xs) (k := xs.length) hb (Nat.le_refl _)) ?_
 rintro v L' ⟨a, c, rfl, rfl⟩
 refine go ?_
 refine Kr.one (.inr rfl) rfl ?_ ⟨a, c, rfl, rfl⟩
 simp only [List.take_length, List.drop_length]
 exact Ent.refl _
theorem stashList {b : Nat} {most : Int} {xs : List Int} {F : St} [t : Take L (some ⟨b, 0, none⟩) (StashO most xs) F] (hb : xs.length ≤ 1000000000) :
  Fx Tryz.prog 176 [.pointer (some ⟨b, 0, none⟩)] L (fun v L' => ∃ a c, v = .slice a xs.length c ∧ L' = pt a (Row 3 1 xs.length c (ints xs)) :: pt (some ⟨b, 0, none⟩) (StashO most xs) :: F) := by
 refine Fx.mk Tryz.func176 k176 nb_ ?_
 dsimp only [c176, kG, kS, kH, kM, kN, kF, kL, envOf, Nat.reduceAdd]
 refine Cx.openp (t := t) rfl ?_
 rintro ⟨r, cap⟩
 simp only [List.cons_append, List.nil_append]
 refine Cx.rowkey (a := r) fun hx hnc _ hkey => ?_
 refine go ?_
 have h1 := Rd.prefix_ (L := pt (some ⟨b, 0, none⟩) (Blk 279 [.int .i64 most, .slice r xs.length cap]) :: pt r (Row 3 1 xs.length cap (ints xs)) :: F) (a := r) hx hkey (Nat.le_refl _)
 simp only [Nat.mul_one, ints_take, List.take_length] at h1
 refine Sx.ca rfl (clone h1 (ones_ints _) (by omega)) ?_
 rintro v L' ⟨a1, c1, rfl, rfl⟩
 refine go ?_
 refine Kr.one (.inr rfl) rfl ?_ ⟨a1, c1, rfl, rfl⟩
 refine Ent.trans (StashO.close (a := some ⟨b, 0, none⟩) (r := r) (xs := xs) rfl rfl rfl) ?_
 exact ent
def overK (most : Int) (xs : List Int) : Nat := (max ((xs.length : Int) - most) 0).toNat
theorem stashOver {b : Nat} {most : Int} {xs : List Int} {F : St} [t : Take L (some ⟨b, 0, none⟩) (StashO most xs) F] (hb : xs.length ≤ 1000000000) (hm : 0 ≤ most) (hm2 : most ≤ 64) :
  Fx Tryz.prog 169 [.pointer (some ⟨b, 0, none⟩)] L (fun v L' => ∃ a c, v = .slice a (overK most xs) c ∧ L' = pt a (Row 3 1 (overK most xs) c (ints (xs.take (overK most xs)))) :: pt (some ⟨b, 0, none⟩) (StashO most (xs.drop (overK most xs))) :: F) := by
 refine Fx.mk Tryz.func169 k169 nb_ ?_
 dsimp only [c169, kG, kS, kH, kM, kN, kF, kL, envOf, Nat.reduceAdd]
 refine Cx.openp (t := t) rfl ?_
 rintro ⟨r, cap⟩
 simp only [List.cons_append, List.nil_append]
 refine go ?_
 refine Cx.rd ?_
 refine Rx.pvs rfl ?_
 refine Rx.ldbS 0 rfl rfl rfl (by rfl) rfl rfl ?_
 refine Rx.pvs rfl ?_
 refine Rx.ldbS 0 rfl rfl rfl (by rfl) rfl rfl ?_
 refine Rx.pvs rfl ?_
 refine Rx.one rfl rfl rfl ?_
 refine Sx.ent (StashO.close (a := some ⟨b, 0, none⟩) (r := r) (xs := xs) rfl rfl rfl) ?_
 have hw : IntKind.i64.wrap ((xs.length : Int) - most) = (xs.length : Int) - most := w64 (by omega) (by omega)
 have hk : (if (xs.length : Int) - most < 0 then 0 else (xs.length : Int) - most) = (overK most xs : Int) := by unfold overK; omega
 rw [hw]
 simp only [cond_true, hk]
 refine Sx.ca rfl (stashCut (b := b) (most := most) (xs := xs) (k := overK most xs) hb (by unfold overK; omega)) ?_
 rintro v L' ⟨a, c, rfl, rfl⟩
 refine Sx.nil ⟨trivial, ?_⟩
 refine Rx.pvs rfl ?_
 refine Rx.nil ?_
 refine go ?_
 exact Kr.one (.inr rfl) rfl (Ent.refl _) ⟨a, c, rfl, rfl⟩
end
end Go.Proofs.YtggnbdeokmdjbaaGreat


namespace Go.Proofs.YtggnbdeokmdjbaaGreat
open Go
attribute [local irreducible] Sx Cx Rx Fx Krg Ksq Kbl Klp Kr
section
variable {P : Program} {N : Nat} {e : En} {K : En → St → Prop} {L F : St} {l : List G}
theorem Sx.apn {d : Option Nat} {T E sz by_ : Nat} {z : List Value} {x y : X} {ya : Option Addr} {m c : Nat} {ys : List Value}
  (hx : x.get e = some (.slice none 0 0)) (hy : y.get e = some (.slice ya m c)) (hr : Rd L sz ya m ys) (h1 : ones ys = true) (hm : m ≤ maxLen) (hb : m * by_ ≤ 140737488355328)
  (k : ∀ ra' cap', m ≤ cap' → Sx P N l (e.put d (.slice ra' m cap')) K (pt ra' (Row E sz m cap' ys) :: L)) : Sx P N (⟨d, none, .ap T E sz by_ z x y⟩ :: l) e K L := by
 refine Sx.ent (Ent.rownil E sz) ?_
 refine Sx.ap (ra := none) (n := 0) (cap := 0) (xs := []) hx hy (hr.ent Ent.drop) h1 (by omega) (by simpa using hb) fun ra ca hc => ?_
 simp only [Nat.zero_add, List.nil_append] at hc ⊢
 exact k ra ca hc
theorem Has.at_ {b o i : Nat} {vs : List Value} {v : Value} (h : Has L b o vs) (hv : vs[i]? = some v) : Has L b (o + i) [v] := by
 have := Has.sub (i := i) (n := 1) h
 rwa [take_one hv] at this
end
section
variable {L F : St}
theorem number (v n : Int) (hn : 0 < n) (hn2 : n ≤ 4611686018427387904) : Fx Tryz.prog 10 [.int .i64 v, .int .i64 n] L (fun r L' => r = .int .i64 (v % n) ∧ L = L') := by
 have h1 := Int.tmod_lt_of_pos v hn
 have h2 : v % n = if v.tmod n < 0 then v.tmod n + n else v.tmod n := by
  rw [Int.tmod_eq_emod]
  have h3 := Int.emod_nonneg v (show n ≠ 0 by omega)
  have h4 := Int.emod_lt_of_pos v hn
  have h5 : (n.natAbs : Int) = n := by omega
  split <;> split <;> omega
 have h6 : -n < v.tmod n := by
  rw [Int.tmod_eq_emod]
  have h3 := Int.emod_nonneg v (show n ≠ 0 by omega)
  have h4 := Int.emod_lt_of_pos v hn
  have h5 : (n.natAbs : Int) = n := by omega
  split <;> omega
 refine Fx.mk Tryz.func10 k10 nb_ ?_
 dsimp only [c10, kG, kS, kH, kM, kN, kF, kL, envOf, Nat.reduceAdd]
 refine go ?_
 refine Sx.pv rfl (by omega) ?_
 refine go ?_
 refine Cx.ifp rfl (fun h => ?_) (fun h => ?_)
 ·refine go ?_
  refine Kr.one (.inr rfl) rfl (Ent.refl _) ⟨?_, rfl⟩
  rw [w64 (by omega) (by omega), h2, if_pos h]
 ·refine go ?_
  refine Kr.one (.inr rfl) rfl (Ent.refl _) ⟨?_, rfl⟩
  rw [h2, if_neg h]
theorem sameInts {xs ys : List Int} {a b : Option Addr} {n m c d : Nat} (h1 : Rd L 1 a n (ints xs)) (h2 : Rd L 1 b m (ints ys)) (hb : n ≤ 1000000000) :
  Fx Tryz.prog 12 [.slice a n c, .slice b m d] L (fun v L' => v = .bool (decide (xs = ys)) ∧ L = L') := by
 have hn : n = xs.length := by have := h1.1; simp [ints] at this; omega
 have hm : m = ys.length := by have := h2.1; simp [ints] at this; omega
 refine Fx.mk Tryz.func12 k12 nb_ ?_
 dsimp only [c12, kG, kS, kH, kM, kN, kF, kL, envOf, Nat.reduceAdd]
 refine go ?_
 refine Cx.ifn rfl (fun h => ?_) (fun h => ?_)
 ·refine go ?_
  have hne : xs ≠ ys := fun he => h (by rw [hn, hm, he])
  exact Kr.one (.inr rfl) rfl (Ent.refl _) ⟨by simp [hne], rfl⟩
 ·refine go ?_
  have hnm : n = m := by omega
  refine Cx.lp (α := {i : Nat // i ≤ n ∧ xs.take i = ys.take i}) (fun i => [(0, .slice a n c), (1, .slice b m d), (5, .int .i64 i.1)]) (fun _ => L) (fun i => n - i.1) ⟨0, by omega, rfl⟩ (sub.cons rfl (sub.cons rfl (sub.cons rfl sub.nil))) (Ent.refl _) ?_
  rintro ⟨i, hi, heq⟩
  dsimp only
  refine go ?_
  refine Cx.ifp rfl (fun h => ?_) (fun h => ?_)
  ·have hlt : i < n := by omega
   obtain ⟨_, h0 | ⟨ga, oa, rfl, ha⟩⟩ := h1
   ·omega
   obtain ⟨_, h0 | ⟨gb, ob, rfl, hbb⟩⟩ := h2
   ·omega
   have hx : (ints xs)[i]? = some (.int .i64 xs[i]) := by simp [ints]
   have hy : (ints ys)[i]? = some (.int .i64 ys[i]) := by simp [ints]
   refine go ?_
   refine Cx.rd ?_
   refine Rx.pvs rfl ?_
   refine Rx.pv 0 rfl rfl rfl ⟨by omega, by omega⟩ rfl rfl ?_
   refine Rx.pv 1 rfl rfl rfl ⟨by omega, by omega⟩ rfl rfl ?_
   refine Rx.ldS 0 rfl rfl rfl (by simpa using ha.at_ hx) rfl rfl rfl ?_
   refine Rx.ldS 0 rfl rfl rfl (by simpa using hbb.at_ hy) rfl rfl rfl ?_
   refine Rx.pvs rfl ?_
   refine Rx.nil ?_
   refine go ?_
   refine Cx.ifn rfl (fun hne => ?_) (fun he => ?_)
   ·refine go ?_
    have hxy : xs ≠ ys := fun he => by subst he; exact hne rfl
    exact Kr.one (.inr rfl) rfl (Ent.refl _) ⟨by simp [hxy], rfl⟩
   ·refine go ?_
    rw [w64 (by omega) (by omega)]
    refine Klp.nm ⟨i + 1, by omega, ?_⟩ (sub.cons rfl (sub.cons rfl (sub.cons (by simp [En.get, En.put]) sub.nil))) (Ent.refl _) (by simp; omega)
    rw [List.take_succ_eq_append_getElem (by omega), List.take_succ_eq_append_getElem (by omega), heq, he]
  ·refine go ?_
   have hin : i = n := by omega
   subst hin
   have hxy : xs = ys := by
    rw [hn, List.take_length] at heq
    rw [heq, ← hn, hnm, hm, List.take_length]
   exact Kr.one (.inr rfl) rfl (Ent.refl _) ⟨by simp [hxy], rfl⟩
abbrev RefO := StashT 142
theorem refNew (m : Int) : Fx Tryz.prog 160 [.int .i64 m] L (fun v L' => ∃ g, v = .pointer (some ⟨g, 0, none⟩) ∧ L' = pt (some ⟨g, 0, none⟩) (RefO (min (max m 0) 64) []) :: L) := by
 refine Fx.mk Tryz.func160 k160 nb_ ?_
 dsimp only [c160, kG, kS, kH, kM, kN, kF, kL, envOf, Nat.reduceAdd]
 refine go ?_
 refine Sx.bx rfl rfl fun g => ?_
 refine go ?_
 refine Kr.one (.inr rfl) rfl (Ent.trans (Ent.rownil 3 1) (StashO.close (xs := []) rfl ?_ rfl)) ⟨g, rfl, rfl⟩
 simp only [cond_true, cond_false]
 congr 1
 omega
theorem refGive {b : Nat} {most : Int} {xs ys : List Int} {ya : Option Addr} {m c : Nat} [t : Take L (some ⟨b, 0, none⟩) (RefO most xs) F] (hr : Rd F 1 ya m (ints ys)) (hb : xs.length + m ≤ 1000000000) :
  Fx Tryz.prog 31 [.pointer (some ⟨b, 0, none⟩), .slice ya m c] L (fun v L' => v = .tuple #[] ∧ L' = pt (some ⟨b, 0, none⟩) (RefO most (xs ++ ys)) :: F) := by
 refine Fx.mk Tryz.func31 k31 nb_ ?_
 dsimp only [c31, kG, kS, kH, kM, kN, kF, kL, envOf, Nat.reduceAdd]
 refine Cx.openp (t := t) rfl ?_
 rintro ⟨r, cap⟩
 simp only [List.cons_append, List.nil_append]
 refine Cx.rowkey (a := r) fun hx hnc _ hkey => ?_
 refine go ?_
 refine Sx.apn rfl rfl (Rd.any (a := r) hx (hkey.imp (fun h => h.2.1) id)) (ones_ints xs) (by simp [maxLen]; omega) (by omega) fun r1 c1 h1 => ?_
 refine go ?_
 refine Sx.ap rfl rfl (hr.ent (Ent.drop.trans (Ent.drop.trans Ent.drop))) (ones_ints ys) (by simp [maxLen]; omega) (by omega) fun r2 c2 h2 => ?_
 refine go ?_
 have hm : m = ys.length := by have := hr.1; simp [length_ints] at this; omega
 refine Kr.none (.inl rfl) ?_ ⟨rfl, rfl⟩
 refine Ent.trans (StashO.close (a := some ⟨b, 0, none⟩) (r := r2) (xs := xs ++ ys) (by simp [hm]) rfl (by simp [ints])) ?_
 exact ent
theorem refTakeNone {b : Nat} {most : Int} [t : Take L (some ⟨b, 0, none⟩) (RefO most []) F] :
  Fx Tryz.prog 227 [.pointer (some ⟨b, 0, none⟩)] L (fun v L' => v = .tuple #[.int .i64 0, .bool false] ∧ L' = pt (some ⟨b, 0, none⟩) (RefO most []) :: F) := by
 refine Fx.mk Tryz.func227 k227 nb_ ?_
 dsimp only [c227, kG, kS, kH, kM, kN, kF, kL, envOf, Nat.reduceAdd]
 refine Cx.openp (t := t) rfl ?_
 rintro ⟨r, cap⟩
 simp only [List.cons_append, List.nil_append]
 refine go ?_
 exact Kr.two (.inr rfl) rfl rfl (StashO.close rfl rfl rfl) ⟨rfl, rfl⟩
theorem refTakeSome {b : Nat} {most : Int} {xs : List Int} {x : Int} [t : Take L (some ⟨b, 0, none⟩) (RefO most (xs ++ [x])) F] (hb : xs.length ≤ 100000000) :
  Fx Tryz.prog 227 [.pointer (some ⟨b, 0, none⟩)] L (fun v L' => v = .tuple #[.int .i64 x, .bool true] ∧ L' = pt (some ⟨b, 0, none⟩) (RefO most xs) :: F) := by
 refine Fx.mk Tryz.func227 k227 nb_ ?_
 dsimp only [c227, kG, kS, kH, kM, kN, kF, kL, envOf, Nat.reduceAdd]
 refine Cx.openp (t := t) rfl ?_
 rintro ⟨r, cap⟩
 simp only [List.cons_append, List.nil_append]
 generalize hn : (xs ++ [x]).length = n
 have hn' : n = xs.length + 1 := by simp at hn; omega
 clear hn
 refine Cx.rowkey (a := r) fun hx hnc _ hk => ?_
 obtain ⟨g, rfl⟩ : ∃ g, r = some ⟨g, 0, none⟩ := by
  rcases hk with h | h
  ·exfalso; omega
  ·exact h
 have hw : IntKind.i64.wrap ((n : Int) - 1) = (xs.length : Int) := by rw [w64 (by omega) (by omega)]; omega
 refine go ?_
 refine Cx.cno rfl (by simp; omega) ?_
 refine go ?_
 rw [hw]
 refine go ?_
 refine Sx.pv rfl ⟨by omega, by omega⟩ ?_
 refine Sx.ldr rfl (v := .int .i64 x) ?_ ?_
 ·simp [ints]
 refine go ?_
 rw [hw]
 refine go ?_
 refine Sx.pv rfl ⟨by omega, by omega⟩ ?_
 have h1 := Rd.prefix_ (L := pt (some ⟨b, 0, none⟩) (Blk 142 [.int .i64 most, .slice (some ⟨g, 0, none⟩) n cap]) :: pt (some ⟨g, 0, none⟩) (Row 3 1 n cap (ints (xs ++ [x]))) :: F) (m := xs.length) (a := some ⟨g, 0, none⟩) hx (.inr ⟨g, rfl⟩) (by omega)
 have h2 : (ints (xs ++ [x])).take (xs.length * 1) = ints xs := by simp [ints]
 rw [h2] at h1
 refine Sx.apn rfl rfl (by simpa using h1) (ones_ints xs) (by simp [maxLen]; omega) (by omega) fun r1 c1 h3 => ?_
 refine go ?_
 refine Kr.two (.inr rfl) rfl rfl ?_ ⟨rfl, rfl⟩
 refine Ent.trans (StashO.close (a := some ⟨b, 0, none⟩) (r := r1) (xs := xs) (by simp) rfl rfl) ?_
 exact ent
theorem refAll {b : Nat} {most : Int} {xs : List Int} [t : Take L (some ⟨b, 0, none⟩) (RefO most xs) F] :
  Fx Tryz.prog 173 [.pointer (some ⟨b, 0, none⟩)] L (fun v L' => ∃ a c, v = .slice a xs.length c ∧ L' = pt a (Row 3 1 xs.length c (ints xs)) :: pt (some ⟨b, 0, none⟩) (RefO most []) :: F) := by
 refine Fx.mk Tryz.func173 k173 nb_ ?_
 dsimp only [c173, kG, kS, kH, kM, kN, kF, kL, envOf, Nat.reduceAdd]
 refine Cx.openp (t := t) rfl ?_
 rintro ⟨r, cap⟩
 simp only [List.cons_append, List.nil_append]
 refine go ?_
 refine Kr.one (.inr rfl) rfl ?_ ⟨r, cap, rfl, rfl⟩
 refine Ent.trans (Ent.rownil 3 1) ?_
 refine Ent.trans (StashO.close (a := some ⟨b, 0, none⟩) (r := none) (xs := []) rfl rfl rfl) ?_
 exact ent
theorem refOver {b : Nat} {most : Int} {xs : List Int} [t : Take L (some ⟨b, 0, none⟩) (RefO most xs) F] (hb : xs.length ≤ 100000000) (hm : 0 ≤ most) (hm2 : most ≤ 64) :
  Fx Tryz.prog 171 [.pointer (some ⟨b, 0, none⟩)] L (fun v L' => ∃ a c, v = .slice a (overK most xs) c ∧ L' = pt a (Row 3 1 (overK most xs) c (ints (xs.take (overK most xs)))) :: pt (some ⟨b, 0, none⟩) (RefO most (xs.drop (overK most xs))) :: F) := by
 refine Fx.mk Tryz.func171 k171 nb_ ?_
 dsimp only [c171, kG, kS, kH, kM, kN, kF, kL, envOf, Nat.reduceAdd]
 refine Cx.openp (t := t) rfl ?_
 rintro ⟨r, cap⟩
 simp only [List.cons_append, List.nil_append]
 refine Cx.rowkey (a := r) fun hx hnc _ hkey => ?_
 refine go ?_
 refine Cx.rd ?_
 refine Rx.pvs rfl ?_
 refine Rx.ldbS 0 rfl rfl rfl (by rfl) rfl rfl ?_
 refine Rx.pvs rfl ?_
 refine Rx.ldbS 0 rfl rfl rfl (by rfl) rfl rfl ?_
 refine Rx.pvs rfl ?_
 refine Rx.nil ?_
 have hw : IntKind.i64.wrap ((xs.length : Int) - most) = (xs.length : Int) - most := w64 (by omega) (by omega)
 have hk : (if (xs.length : Int) - most < 0 then 0 else (xs.length : Int) - most) = (overK most xs : Int) := by unfold overK; omega
 have hkl : overK most xs ≤ xs.length := by unfold overK; omega
 rw [hw]
 simp only [cond_true, hk]
 refine go ?_
 refine Sx.pv rfl ⟨by omega, by omega⟩ ?_
 have h1 := Rd.prefix_ (L := pt (some ⟨b, 0, none⟩) (Blk 142 [.int .i64 most, .slice r xs.length cap]) :: pt r (Row 3 1 xs.length cap (ints xs)) :: F) (a := r) hx hkey hkl
 simp only [Nat.mul_one, ints_take] at h1
 refine Sx.apn rfl rfl (by simpa using h1) (ones_ints _) (by simp [maxLen]; omega) (by omega) fun r1 c1 h3 => ?_
 refine go ?_
 rcases hkey with ⟨rfl, h0, rfl⟩ | ⟨g, rfl⟩
 ·have hx0 : xs = [] := List.eq_nil_of_length_eq_zero h0
  subst hx0
  have hk0 : overK most [] = 0 := by simpa using hkl
  rw [hk0] at h3 ⊢
  refine Sx.pv rfl (by simp) ?_
  refine Sx.apn rfl rfl (Rd.nil _ _ _) rfl (by simp) (by simp) fun r2 c2 h4 => ?_
  refine go ?_
  refine Kr.one (.inr rfl) rfl ?_ ⟨r1, c1, rfl, rfl⟩
  refine Ent.trans (StashO.close (a := some ⟨b, 0, none⟩) (r := r2) (xs := []) rfl rfl rfl) ?_
  simp only [Int.toNat_natCast, List.take_nil, List.drop_nil, ints, List.map_nil]
  exact ent
 ·refine Sx.pv rfl ⟨by omega, by omega⟩ ?_
  have h2 := Rd.suffix_ (L := pt r1 (Row 3 1 (overK most xs) c1 (ints (xs.take (overK most xs)))) :: pt (some ⟨b, 0, none⟩) (Blk 142 [.int .i64 most, .slice (some ⟨g, 0, none⟩) xs.length cap]) :: pt (some ⟨g, 0, none⟩) (Row 3 1 xs.length cap (ints xs)) :: F) (g := g) hx hnc hkl
  simp only [Nat.mul_one, ints_drop] at h2
  refine Sx.apn rfl rfl (ys := ints (xs.drop (overK most xs))) (by simpa using h2) (ones_ints _) (by simp [maxLen]; omega) (by omega) fun r2 c2 h4 => ?_
  refine go ?_
  refine Kr.one (.inr rfl) rfl ?_ ⟨r1, c1, rfl, rfl⟩
  refine Ent.trans (StashO.close (a := some ⟨b, 0, none⟩) (r := r2) (xs := xs.drop (overK most xs)) (by simp) rfl rfl) ?_
  simp only [Int.toNat_natCast]
  exact ent
end
end Go.Proofs.YtggnbdeokmdjbaaGreat
