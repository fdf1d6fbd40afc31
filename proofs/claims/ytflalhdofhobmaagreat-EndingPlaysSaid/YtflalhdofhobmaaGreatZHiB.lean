/-
  Parts of the proof, merged: what the statement leans on.
-/
import Derived.Test.YtflalhdofhobmaaGreatProg
import Derived.KernelRfl
import Derived.Test.YtflalhdofhobmaaGreatZHiA
set_option linter.unusedVariables false
set_option linter.unusedSimpArgs false

namespace Go.Proofs.YtflalhdofhobmaaGreat
section
open Go
section
variable {P : Program} {N : Nat} {L F : St}
def Se (P : Program) (N : Nat) (g : G) (e : En) (L : St) (R : Value → St → Prop) : Prop := ∀ K : En → St → Prop, (∀ v L', R v L' → K (e.put g.d v) L') → Sx P N [g] e K L
inductive Ev (P : Program) (N : Nat) (Kf : En → St → Prop) : List It → List (Nat × (St → Prop)) → En → St → Prop
 | nil {ms : List (Nat × (St → Prop))} {e : En} {L : St} (h : Kf e L) : Ev P N Kf [] ms e L
 | free {rem : List It} {ms : List (Nat × (St → Prop))} {e : En} {L : St} (x : It) (hx : x ∈ rem) (v : Value) (h : ∀ L e', sub (e.only x.rs) e' → Sc P N x.g e' v L) (k : Ev P N Kf (without rem x.i) ms (e.put x.g.d v) L) : Ev P N Kf rem ms e L
 | looks {rem : List It} {ms : List (Nat × (St → Prop))} {e : En} {L : St} (x : It) (hx : x ∈ rem) (v : Value) (Φ : St → Prop) (hΦ : Φ L) (h : ∀ M, Φ M → ∀ e', sub (e.only x.rs) e' → Sc P N x.g e' v M) (k : Ev P N Kf (without rem x.i) ((x.i, Φ) :: ms) (e.put x.g.d v) L) : Ev P N Kf rem ms e L
 | turns {rem : List It} {ms : List (Nat × (St → Prop))} {e : En} {L : St} (x : It) (hx : x ∈ rem) (R : Value → St → Prop) (h1 : (without rem x.i).all (fun y => bit y.ds x.i) = true) (h2 : ∀ q ∈ ms, bit x.ds q.1 = true ∨ ∀ v L', R v L' → q.2 L')
   (h : ∀ e', sub (e.only x.rs) e' → Se P N x.g e' L R) (k : ∀ v L', R v L' → Ev P N Kf (without rem x.i) ms (e.put x.g.d v) L') : Ev P N Kf rem ms e L
structure Told (P : Program) (N : Nat) (ms : List (Nat × (St → Prop))) (e : En) (L : St) (p : It × Value) : Prop where
 hv : ∀ d, p.1.g.d = some d → e.get d = some p.2
 hs : (∀ L e', (∀ t ∈ p.1.rs, ∀ u, e.get t = some u → e'.get t = some u) → Sc P N p.1.g e' p.2 L) ∨
  ∃ Φ, (p.1.i, Φ) ∈ ms ∧ Φ L ∧ ∀ M, Φ M → ∀ e', (∀ t ∈ p.1.rs, ∀ u, e.get t = some u → e'.get t = some u) → Sc P N p.1.g e' p.2 M
def okN : List It → Bool
 | [] => true
 | x :: r => r.all (fun y => dOK y.g.d (match x.g.d with | some d => [d] | none => [])) && okN r
theorem okN_iff : ∀ {l : List It}, okN l = true → ∀ x ∈ l, ∀ y ∈ l, ∀ d, x.g.d = some d → y.g.d = some d → x = y
 | [], _, x, hx => by cases hx
 | a :: r, h, x, hx => by
   simp only [okN, Bool.and_eq_true, List.all_eq_true] at h
   intro y hy d hdx hdy
   rcases List.mem_cons.1 hx with rfl | hxr <;> rcases List.mem_cons.1 hy with rfl | hyr
   ·rfl
   ·have := dOK_iff (h.1 y hyr) d hdy
    rw [hdx] at this; simp at this
   ·have := dOK_iff (h.1 x hxr) d hdx
    rw [hdy] at this; simp at this
   ·exact okN_iff h.2 x hxr y hyr d hdx hdy
theorem without_app (U tl : List It) (i : Nat) (h : ∀ y ∈ tl, y.i ≠ i) : without (U ++ tl) i = without U i ++ tl := by
 unfold without
 rw [List.filter_append]
 congr 1
 rw [List.filter_eq_self]
 intro y hy
 have := h y hy
 cases hb : Nat.beq y.i i with
 | true => exact absurd (bq hb) this
 | false => rfl
theorem split_ready {all tl U : List It} {x : It} (htl : ∀ y ∈ tl, ∀ x ∈ all, bit y.ds x.i = true ∧ y.i ≠ x.i) (hUa : ∀ x ∈ U, x ∈ all) (hU : U ≠ []) (hx : x ∈ readies (U ++ tl)) : x ∈ U ∧ ready x U = true ∧ without (U ++ tl) x.i = without U x.i ++ tl := by
 have h1 : x ∈ U ++ tl ∧ ready x (U ++ tl) = true := by simpa only [readies, List.mem_filter] using hx
 have h2 : ∀ z ∈ U ++ tl, bit x.ds z.i = false := by
  have := h1.2
  simp only [ready, List.all_eq_true] at this
  exact fun z hz => by simpa using this z hz
 have hxU : x ∈ U := by
  rcases List.mem_append.1 h1.1 with h | h
  ·exact h
  ·obtain ⟨z, hz⟩ := List.exists_mem_of_ne_nil U hU
   have h3 := (htl x h z (hUa z hz)).1
   rw [h2 z (by simp [hz])] at h3; cases h3
 refine ⟨hxU, ?_, without_app U tl x.i fun y hy => (htl y hy x (hUa x hxU)).2⟩
 simp only [ready, List.all_eq_true]
 exact fun z hz => by rw [h2 z (by simp [hz])]; rfl
theorem ev_runT {all tl : List It} {Kf Kt : En → St → Prop} (hi : okI 0 all = true) (hd : okD all = true) (hn : okN all = true) (htl : ∀ y ∈ tl, ∀ x ∈ all, bit y.ds x.i = true ∧ y.i ≠ x.i) (hK : ∀ e e' L, sub e e' → Kf e L → Rx P N tl [] (fun _ => True) e' Kt L) :
  ∀ (n : Nat) (rem : List It) (ms : List (Nat × (St → Prop))) (e : En) (L : St), Ev P N Kf rem ms e L → ∀ (T : List (It × Value)) (U : List It) (e' : En), U.length = n → (∀ x ∈ U, x ∈ all) → (∀ x, x ∈ U ↔ (∃ v, (x, v) ∈ T) ∨ x ∈ rem) →
   (∀ p ∈ T, p.1 ∉ rem) → (∀ p ∈ T, Told P N ms e L p) → (∀ y ∈ rem, ∀ d, y.g.d = some d → e.get d = none) →
   (∀ t u, e.get t = some u → (∀ p ∈ T, p.1.g.d ≠ some t) → e'.get t = some u) → Rx P N (U ++ tl) [] (fun _ => True) e' Kt L := by
 intro n
 induction n using Nat.strongRecOn with
 | _ n ihn =>
   have inj : ∀ x ∈ all, ∀ y ∈ all, x.i = y.i → x = y := fun x hx y hy h => (okI_inj hi x hx).2 y hy h
   -- one of those that were told comes
   have come : ∀ (rem : List It) (ms : List (Nat × (St → Prop))) (e : En) (L : St), Ev P N Kf rem ms e L → ∀ (T : List (It × Value)) (U : List It) (e' : En), U.length = n → (∀ x ∈ U, x ∈ all) → (∀ x, x ∈ U ↔ (∃ v, (x, v) ∈ T) ∨ x ∈ rem) →
     (∀ p ∈ T, p.1 ∉ rem) → (∀ p ∈ T, Told P N ms e L p) → (∀ y ∈ rem, ∀ d, y.g.d = some d → e.get d = none) → (∀ t u, e.get t = some u → (∀ p ∈ T, p.1.g.d ≠ some t) → e'.get t = some u) →
     ∀ x v, (x, v) ∈ T → ready x U = true → Sx P N [x.g] e' (fun e' L' => True ∧ Rx P N (without U x.i ++ tl) [] (fun _ => True) e' Kt L') L := by
    intro rem ms e L hev T U e' hU hUa hUm hTr hT hfr he x v hxv hrd
    have hxU : x ∈ U := (hUm x).2 (.inl ⟨v, hxv⟩)
    have hrd' : ∀ y ∈ U, bit x.ds y.i = false := by simpa [ready] using hrd
    have hto := hT _ hxv
    have hfacts : ∀ t ∈ x.rs, ∀ u, e.get t = some u → e'.get t = some u := by
     intro t ht u hu
     refine he t u hu fun p hp hpd => ?_
     have hpU : p.1 ∈ U := (hUm p.1).2 (.inl ⟨p.2, hp⟩)
     simp only [okD, List.all_eq_true, Bool.or_eq_true] at hd
     rcases hd x (hUa x hxU) p.1 (hUa _ hpU) with h | h
     ·exact dOK_iff h t hpd ht
     ·rw [hrd' _ hpU] at h; cases h
    have hS : Sc P N x.g e' v L := by
     rcases hto.hs with h | ⟨Φ, _, hΦ, h⟩
     ·exact h L e' hfacts
     ·exact h L hΦ e' hfacts
    refine hS _ ⟨trivial, ?_⟩
    have hlt := without_lt hxU
    refine ihn (without U x.i).length (by omega) rem ms e L hev (T.filter fun p => !(Nat.beq p.1.i x.i)) (without U x.i) _ rfl (fun y hy => hUa y (mem_without.1 hy).1) (fun y => ?_) (fun p hp => hTr p ((List.mem_filter.1 hp).1)) (fun p hp => hT p ((List.mem_filter.1 hp).1)) hfr fun t u ht hw => ?_
    ·rw [mem_without, hUm]
     constructor
     ·rintro ⟨⟨w, hw⟩ | h, hne⟩
      ·refine .inl ⟨w, List.mem_filter.2 ⟨hw, ?_⟩⟩
       cases hb : Nat.beq y.i x.i with
       | false => rfl
       | true => exact absurd (bq hb) hne
      ·exact .inr h
     ·rintro (⟨w, hw⟩ | h)
      ·obtain ⟨h1, h2⟩ := List.mem_filter.1 hw
       exact ⟨.inl ⟨w, h1⟩, fun hh => by simp [hh] at h2⟩
      ·refine ⟨.inr h, fun hh => ?_⟩
       have hyx := inj y (hUa y ((hUm y).2 (.inr h))) x (hUa x hxU) hh
       subst hyx
       exact hTr _ hxv h
    ·by_cases hxt : x.g.d = some t
     ·have h1 := hto.hv t hxt
      rw [ht] at h1
      rw [hxt, put_eq]; exact h1.symm
     ·rw [put_ne hxt]
      refine he t u ht fun p hp hpd => ?_
      by_cases hpx : p.1.i = x.i
      ·have := inj p.1 (hUa _ ((hUm p.1).2 (.inl ⟨p.2, hp⟩))) x (hUa x hxU) hpx
       rw [this] at hpd; exact hxt hpd
      ·refine hw p (List.mem_filter.2 ⟨hp, ?_⟩) hpd
       cases hb : Nat.beq p.1.i x.i with
       | false => rfl
       | true => exact absurd (bq hb) hpx
   -- telling one more
   have tell : ∀ {rem : List It} {ms ms' : List (Nat × (St → Prop))} {e : En} {L : St} {x : It} {v : Value} {T : List (It × Value)} {U : List It} {e' : En}, x ∈ rem → (∀ x ∈ U, x ∈ all) → (∀ x, x ∈ U ↔ (∃ v, (x, v) ∈ T) ∨ x ∈ rem) → (∀ p ∈ T, p.1 ∉ rem) →
     (∀ p ∈ T, Told P N ms e L p) → (∀ y ∈ rem, ∀ d, y.g.d = some d → e.get d = none) → (∀ q ∈ ms, q ∈ ms') →
     (∀ p ∈ T, Told P N ms' (e.put x.g.d v) L p) ∧ (∀ y ∈ without rem x.i, ∀ d, y.g.d = some d → (e.put x.g.d v).get d = none) := by
    intro rem ms ms' e L x v T U e' hx hUa hUm hTr hT hfr hms
    have hxa := hUa x ((hUm x).2 (.inr hx))
    refine ⟨fun p hp => ?_, fun y hy d hyd => ?_⟩
    ·have hpa := hUa p.1 ((hUm p.1).2 (.inl ⟨p.2, hp⟩))
     have hpx : p.1 ≠ x := fun h => hTr p hp (by rw [h]; exact hx)
     have hto := hT p hp
     have hst : ∀ e' : En, (∀ t ∈ p.1.rs, ∀ u, (e.put x.g.d v).get t = some u → e'.get t = some u) → ∀ t ∈ p.1.rs, ∀ u, e.get t = some u → e'.get t = some u := by
      intro e' h t ht u hu
      refine h t ht u ?_
      rw [put_ne (fun hxt => by rw [hfr x hx t hxt] at hu; cases hu)]
      exact hu
     refine ⟨fun d hpd => ?_, ?_⟩
     ·rw [put_ne (fun hxd => hpx (okN_iff hn p.1 hpa x hxa d hpd hxd))]
      exact hto.hv d hpd
     ·rcases hto.hs with h | ⟨Φ, h1, hΦ, h⟩
      ·exact .inl fun L e' he => h L e' (hst e' he)
      ·exact .inr ⟨Φ, hms _ h1, hΦ, fun M hM e' he => h M hM e' (hst e' he)⟩
    ·obtain ⟨hy1, hy2⟩ := mem_without.1 hy
     rw [put_ne (fun hxd => hy2 (by rw [okN_iff hn y (hUa y ((hUm y).2 (.inr hy1))) x hxa d hyd hxd]))]
     exact hfr y hy1 d hyd
   intro rem ms e L hev
   induction hev with
   | @nil ms e L hk =>
     intro T U e' hU hUa hUm hTr hT hfr he
     by_cases hU0 : U = []
     ·subst hU0
      refine hK e e' L (fun t u ht => he t u ht fun p hp => ?_) hk
      have : p.1 ∈ ([] : List It) := (hUm p.1).2 (.inl ⟨p.2, hp⟩)
      cases this
     ·refine Rx.all (fun h0 => absurd (List.append_eq_nil_iff.1 h0).1 hU0) fun x hx => ⟨by simp, ?_⟩
      obtain ⟨hx1, hx2, hx3⟩ := split_ready htl hUa hU0 hx
      rw [hx3]
      rcases (hUm x).1 hx1 with ⟨v, hv⟩ | h
      ·exact come [] ms e L (.nil hk) T U e' hU hUa hUm hTr hT hfr he x v hv hx2
      ·cases h
   | @free rem ms e L x hx v h k ih =>
     intro T U e' hU hUa hUm hTr hT hfr he
     obtain ⟨t1, t2⟩ := tell (v := v) (e' := e') hx hUa hUm hTr hT hfr (fun _ h => h)
     refine ih ((x, v) :: T) U e' hU hUa (fun y => ?_) (fun p hp => ?_) (fun p hp => ?_) t2 fun t u ht hw => ?_
     ·rw [hUm]
      constructor
      ·rintro (⟨w, hw⟩ | hy)
       ·exact .inl ⟨w, List.mem_cons_of_mem _ hw⟩
       ·by_cases hyx : y = x
        ·exact .inl ⟨v, by rw [hyx]; simp⟩
        ·exact .inr (mem_without.2 ⟨hy, fun hh => hyx (inj y (hUa y ((hUm y).2 (.inr hy))) x (hUa x ((hUm x).2 (.inr hx))) hh)⟩)
      ·rintro (⟨w, hw⟩ | hy)
       ·rcases List.mem_cons.1 hw with h1 | h1
        ·cases h1; exact .inr hx
        ·exact .inl ⟨w, h1⟩
       ·exact .inr (mem_without.1 hy).1
     ·rcases List.mem_cons.1 hp with rfl | h1
      ·exact fun hh => (mem_without.1 hh).2 rfl
      ·exact fun hh => hTr p h1 (mem_without.1 hh).1
     ·rcases List.mem_cons.1 hp with rfl | h1
      ·refine ⟨fun d hd => by rw [show x.g.d = some d from hd]; exact put_eq, .inl fun L e2 h2 => h L e2 fun t u ht => ?_⟩
       obtain ⟨htr, hu⟩ := only_get ht
       refine h2 t htr u ?_
       rw [put_ne (fun hxt => by rw [hfr x hx t hxt] at hu; cases hu)]
       exact hu
      ·exact t1 p h1
     ·have hxt : x.g.d ≠ some t := hw (x, v) (by simp)
      rw [put_ne hxt] at ht
      exact he t u ht fun p hp => hw p (List.mem_cons_of_mem _ hp)
   | @looks rem ms e L x hx v Φ hΦ h k ih =>
     intro T U e' hU hUa hUm hTr hT hfr he
     obtain ⟨t1, t2⟩ := tell (v := v) (e' := e') hx hUa hUm hTr hT hfr (fun _ h => List.mem_cons_of_mem (x.i, Φ) h)
     refine ih ((x, v) :: T) U e' hU hUa (fun y => ?_) (fun p hp => ?_) (fun p hp => ?_) t2 fun t u ht hw => ?_
     ·rw [hUm]
      constructor
      ·rintro (⟨w, hw⟩ | hy)
       ·exact .inl ⟨w, List.mem_cons_of_mem _ hw⟩
       ·by_cases hyx : y = x
        ·exact .inl ⟨v, by rw [hyx]; simp⟩
        ·exact .inr (mem_without.2 ⟨hy, fun hh => hyx (inj y (hUa y ((hUm y).2 (.inr hy))) x (hUa x ((hUm x).2 (.inr hx))) hh)⟩)
      ·rintro (⟨w, hw⟩ | hy)
       ·rcases List.mem_cons.1 hw with h1 | h1
        ·cases h1; exact .inr hx
        ·exact .inl ⟨w, h1⟩
       ·exact .inr (mem_without.1 hy).1
     ·rcases List.mem_cons.1 hp with rfl | h1
      ·exact fun hh => (mem_without.1 hh).2 rfl
      ·exact fun hh => hTr p h1 (mem_without.1 hh).1
     ·rcases List.mem_cons.1 hp with rfl | h1
      ·refine ⟨fun d hd => by rw [show x.g.d = some d from hd]; exact put_eq, .inr ⟨Φ, by simp, hΦ, fun M hM e2 h2 => h M hM e2 fun t u ht => ?_⟩⟩
       obtain ⟨htr, hu⟩ := only_get ht
       refine h2 t htr u ?_
       rw [put_ne (fun hxt => by rw [hfr x hx t hxt] at hu; cases hu)]
       exact hu
      ·exact t1 p h1
     ·have hxt : x.g.d ≠ some t := hw (x, v) (by simp)
      rw [put_ne hxt] at ht
      exact he t u ht fun p hp => hw p (List.mem_cons_of_mem _ hp)
   | @turns rem ms e L x hx R h1 h2 h k ih =>
     intro T U e' hU hUa hUm hTr hT hfr he
     have hxU : x ∈ U := (hUm x).2 (.inr hx)
     have hU0 : U ≠ [] := fun h0 => by rw [h0] at hxU; cases hxU
     refine Rx.all (fun h0 => absurd (List.append_eq_nil_iff.1 h0).1 hU0) fun y hy => ⟨by simp, ?_⟩
     obtain ⟨hyA, hyB, hyC⟩ := split_ready htl hUa hU0 hy
     rw [hyC]
     have hy1 : y ∈ U ∧ ready y U = true := ⟨hyA, hyB⟩
     have hrd : ∀ z ∈ U, bit y.ds z.i = false := by simpa [ready] using hy1.2
     rcases (hUm y).1 hy1.1 with ⟨v, hv⟩ | hyr
     ·exact come rem ms e L (.turns x hx R h1 h2 h k) T U e' hU hUa hUm hTr hT hfr he y v hv hy1.2
     ·by_cases hyx : y = x
      ·subst hyx
       have hpure : ∀ p ∈ T, ∀ Φ, (p.1.i, Φ) ∈ ms → ∀ v L', R v L' → Φ L' := by
        intro p hp Φ hm
        rcases h2 _ hm with hb | hb
        ·have hpU : p.1 ∈ U := (hUm p.1).2 (.inl ⟨p.2, hp⟩)
         rw [hrd _ hpU] at hb; cases hb
        ·exact hb
       have hsub : sub (e.only y.rs) e' := by
        intro t u ht
        obtain ⟨htr, hu⟩ := only_get ht
        refine he t u hu fun p hp hpd => ?_
        have hpU : p.1 ∈ U := (hUm p.1).2 (.inl ⟨p.2, hp⟩)
        simp only [okD, List.all_eq_true, Bool.or_eq_true] at hd
        rcases hd y (hUa y hxU) p.1 (hUa _ hpU) with hh | hh
        ·exact dOK_iff hh t hpd htr
        ·rw [hrd _ hpU] at hh; cases hh
       refine h e' hsub _ fun v L' hR => ⟨trivial, ?_⟩
       have hlt := without_lt hxU
       obtain ⟨t1, t2⟩ := tell (v := v) (e' := e') hx hUa hUm hTr hT hfr (fun _ h => h)
       refine ihn (without U y.i).length (by omega) (without rem y.i) ms _ L' (k v L' hR) T (without U y.i) _ rfl (fun z hz => hUa z (mem_without.1 hz).1) (fun z => ?_) (fun p hp hh => hTr p hp (mem_without.1 hh).1) (fun p hp => ?_) t2 fun t u ht hw => ?_
       ·rw [mem_without, mem_without, hUm]
        constructor
        ·rintro ⟨⟨w, hw⟩ | hz, hne⟩
         ·exact .inl ⟨w, hw⟩
         ·exact .inr ⟨hz, hne⟩
        ·rintro (⟨w, hw⟩ | ⟨hz, hne⟩)
         ·refine ⟨.inl ⟨w, hw⟩, fun hh => ?_⟩
          have := inj z (hUa z ((hUm z).2 (.inl ⟨w, hw⟩))) y (hUa y hxU) hh
          subst this
          exact hTr _ hw hx
         ·exact ⟨.inr hz, hne⟩
       ·have hto := t1 p hp
        refine ⟨hto.hv, ?_⟩
        rcases hto.hs with hh | ⟨Φ, hm, _, hh⟩
        ·exact .inl hh
        ·exact .inr ⟨Φ, hm, hpure p hp Φ hm v L' hR, hh⟩
       ·by_cases hyt : y.g.d = some t
        ·rw [hyt] at ht ⊢
         rw [put_eq] at ht ⊢; exact ht
        ·rw [put_ne hyt] at ht ⊢
         exact he t u ht hw
      ·have hb := List.all_eq_true.1 h1 y (mem_without.2 ⟨hyr, fun hh => hyx (inj y (hUa y hy1.1) x (hUa x hxU) hh)⟩)
       rw [hrd x hxU] at hb; cases hb
theorem ev_run {all : List It} {Kf : En → St → Prop} (hi : okI 0 all = true) (hd : okD all = true) (hn : okN all = true) (hK : ∀ e e' L, sub e e' → Kf e L → Kf e' L) :
  ∀ (n : Nat) (rem : List It) (ms : List (Nat × (St → Prop))) (e : En) (L : St), Ev P N Kf rem ms e L → ∀ (T : List (It × Value)) (U : List It) (e' : En), U.length = n → (∀ x ∈ U, x ∈ all) → (∀ x, x ∈ U ↔ (∃ v, (x, v) ∈ T) ∨ x ∈ rem) →
   (∀ p ∈ T, p.1 ∉ rem) → (∀ p ∈ T, Told P N ms e L p) → (∀ y ∈ rem, ∀ d, y.g.d = some d → e.get d = none) →
   (∀ t u, e.get t = some u → (∀ p ∈ T, p.1.g.d ≠ some t) → e'.get t = some u) → Rx P N U [] (fun _ => True) e' Kf L := by
 intro n rem ms e L h T U e' h1 h2 h3 h4 h5 h6 h7
 have := ev_runT (tl := []) (Kt := Kf) hi hd hn (fun y hy => by cases hy) (fun e e' L hs hk => Rx.all (fun _ => hK e e' L hs hk) fun x hx => by simp [readies] at hx) n rem ms e L h T U e' h1 h2 h3 h4 h5 h6 h7
 rwa [List.append_nil] at this
def En.clear (e : En) (l : List It) : En := e.filter fun p => l.all fun y => match y.g.d with | some d => !(Nat.beq d p.1) | none => true
theorem clear_get {l : List It} : ∀ {e : En} {t : Nat} {u : Value}, (e.clear l).get t = some u → (∀ y ∈ l, y.g.d ≠ some t) ∧ (e.get t = some u ∨ ∃ w, e.get t = some w)
 | [], t, u, h => by simp [En.clear, En.get] at h
 | (i, v) :: e, t, u, h => by
   unfold En.clear at h
   rw [List.filter_cons] at h
   split at h
   ·rename_i hk
    simp only [En.get] at h ⊢
    cases hb : Nat.beq i t with
    | true =>
      rw [hb, cond_true] at h
      have hit := bq hb
      subst hit
      refine ⟨fun y hy hyd => ?_, .inl h⟩
      have := List.all_eq_true.1 hk y hy
      rw [hyd] at this
      simp at this
    | false =>
      rw [hb, cond_false] at h
      simpa using clear_get (e := e) h
   ·simp only [En.get]
    have h1 := clear_get (e := e) h
    refine ⟨h1.1, ?_⟩
    cases hb : Nat.beq i t with
    | true => exact .inr ⟨v, rfl⟩
    | false => simpa using h1.2
theorem clear_sub {l : List It} : ∀ {e : En} {t : Nat} {u : Value}, (e.clear l).get t = some u → e.get t = some u
 | [], t, u, h => by simp [En.clear, En.get] at h
 | (i, v) :: e, t, u, h => by
   have hno := (clear_get h).1
   unfold En.clear at h
   rw [List.filter_cons] at h
   split at h
   ·simp only [En.get] at h ⊢
    cases hb : Nat.beq i t with
    | true => rw [hb, cond_true] at h; rw [cond_true]; exact h
    | false => rw [hb, cond_false] at h; rw [cond_false]; exact clear_sub (e := e) h
   ·rename_i hk
    have h1 := clear_sub (e := e) h
    simp only [En.get]
    cases hb : Nat.beq i t with
    | false => exact h1
    | true =>
      exfalso
      have hit := bq hb
      subst hit
      refine hk (List.all_eq_true.2 fun y hy => ?_)
      cases hyd : y.g.d with
      | none => rfl
      | some d =>
        simp only [Bool.not_eq_true']
        cases hb2 : Nat.beq d i with
        | false => rfl
        | true => exact absurd (by rw [hyd, bq hb2]) (hno y hy)
def chkO (l : List It) : Bool := okI 0 l && (okD l && okN l)
theorem Cx.ord {l : List It} {e : En} {d : C} {K : Kx} (hc : chkO l = true) (h : Ev P N (fun fin L => Cx P N d fin K L) l [] (e.clear l) L) : Cx P N (.rd l) e (Ksq P N d K) L := by
 simp only [chkO, Bool.and_eq_true] at hc
 refine Cx.rd ?_
 refine ev_run (Kf := Krg (Ksq P N d K)) hc.1 hc.2.1 hc.2.2 (fun e e' L hs hk => Cx.less hs hk) l.length l [] (e.clear l) L h [] l e rfl (fun _ h => h) (fun x => by simp) (fun _ h => by cases h) (fun _ h => by cases h) (fun y hy d hyd => ?_) (fun t u ht _ => clear_sub ht)
 cases hg : (e.clear l).get d with
 | none => rfl
 | some u => exact absurd hyd ((clear_get hg).1 y hy)
section
variable {Kf : En → St → Prop} {e : En} {rem rem' : List It} {ms : List (Nat × (St → Prop))} {i ds : Nat} {rs : List Nat} {d : Option Nat} {g : Option (Nat × Bool)}
theorem Sc_step {x : It} {v : Value} (h : stepM x e = some v) : ∀ L e', sub (e.only x.rs) e' → Sc P N x.g e' v L := by
 intro L e' hs
 obtain ⟨i, ds, rs, d, g, s⟩ := x
 unfold stepM at h
 simp only at h hs
 cases hg : gon (e.only rs) g with
 | true =>
   rw [hg, cond_true] at h
   cases hp : plainP s with
   | false => rw [hp] at h; cases h
   | true =>
     rw [hp, cond_true] at h
     split at h
     ·rename_i φ u hu
      cases h
      exact .gon hg hs (.pv hu (plainP_pv hp hu) hs)
     ·cases h
 | false =>
   rw [hg, cond_false] at h
   split at h
   ·rename_i t b
    cases hb : offs (e.only rs) t b with
    | true =>
      rw [hb, cond_true] at h; cases h
      refine fun K k => Sx.off (t := t) (b := b) ?_ (Sx.nil k)
      unfold offs at hb ⊢
      cases h1 : (e.only rs).get t with
      | none => rw [h1] at hb; simp at hb
      | some u => rw [hs _ _ h1]; rw [h1] at hb; exact hb
    | false => rw [hb] at h; cases h
   ·cases h
theorem Ev.done {c : C} {K : Kx} (h : Cx P N c e K L) : Ev P N (fun fin L => Cx P N c fin K L) [] ms e L := .nil h
theorem Ev.stp {x : It} {v : Value} (hx : x ∈ rem) (h : stepM x e = some v) (k : Ev P N Kf (without rem x.i) ms (e.put x.g.d v) L) : Ev P N Kf rem ms e L := .free x hx v (Sc_step h) k
def scanE : Nat → Nat → List It → En → Option (List It × En)
 | 0, _, _, _ => none
 | n + 1, j, rem, e => match rem[j]? with
   | some x => match stepM x e with
     | some v => match scanE n j (without rem x.i) (e.put x.g.d v) with
       | some q => some q
       | none => some (without rem x.i, e.put x.g.d v)
     | none => scanE n (j + 1) rem e
   | none => none
theorem Ev.pvs : ∀ {n j : Nat} {rem rem' : List It} {e e' : En}, scanE n j rem e = some (rem', e') → Ev P N Kf rem' ms e' L → Ev P N Kf rem ms e L
 | 0, _, _, _, _, _, h, _ => by cases h
 | n + 1, j, rem, rem', e, e', h, k => by
   simp only [scanE] at h
   split at h
   ·rename_i x hx
    split at h
    ·rename_i v hv
     split at h
     ·rename_i q hq
      cases h
      exact Ev.stp (List.mem_of_getElem? hx) hv (Ev.pvs hq k)
     ·cases h
      exact Ev.stp (List.mem_of_getElem? hx) hv k
    ·exact Ev.pvs h k
   ·cases h
end
end
section
set_option maxRecDepth 100000
abbrev kQ (f : Func) (c : Fu) : Prop := cF Tryz.prog f = some c
abbrev FX := Fx Tryz.prog
def c10 : Fu := ⟨268, [.t 4], (.sq (.rg [kG 4 (.mv kU)]) (.sq (.rg [kG 25 (.ca 45 []), kM 5 25]) (.sq (.sq (.rg [kM 26 5, kG 27 (.nt (.t 26))]) (.cd (.t 27) (.sq (.rg [kG 4 (.mv kU)]) .rt) .sk)) (.sq (.sq (.rg [kM 28 1, kG 29 (.len (.t 28)), kG 30 (.ib .gtr (.t 29) (kI 150))]) (.cd (.t 30) (.sq (.rg [kM 31 5, kM 4 31]) .rt) .sk)) (.sq (.rg [kM 32 0, kG 33 (.ca 13 [.t 32]), kG 6 (.al 24 [ii 0, ii 0, ii 0, ii 0, ii 0, ii 0]), kS (.st (.t 6) (.t 33) 6)]) (.sq (.rg [kF 34 6 3, kS (.st (.t 34) (kI 3) 1)]) (.sq (.rg [kG 35 (.ld (.t 6) 6 true), kG 36 (.ca 46 [.t 35]), kM 7 36]) (.sq (.sq (.rg [kM 37 7, kG 38 (.en 0 false (.t 37) kP)]) (.cd (.t 38) (.sq (.rg [kG 4 (.mv kU)]) .rt) .sk)) (.sq (.rg [kG 8 (.al 105 [ii 0, ii 0, ii 0]), kG 9 (.al 105 [ii 0, ii 0, ii 0])]) (.sq (.sq (.rg [kG 10 (.mv (kI 0))]) (.bl 0 (.lp (.sq (.sq (.rg [kM 39 10, kG 40 (.ib .lss (.t 39) (kI 3))]) (.cd (.t 40) .sk (.ex 0))) (.sq (.bl 1 (.sq (.rd [jM 0 0 44 7, jM 1 0 45 10, jM 2 0 46 0, jM 3 0 47 10, jG 4 8 [47] 48 (.ib .add (kI 3) (.t 47)), jG 5 28 [46, 48] 49 (.ib .quo (.t 46) (.t 48)), jG 6 60 [49] 50 (.ca 16 [.t 49, (kI 4)]), jF 7 0 51 6 2, jL 8 128 52 51, jM 9 0 53 10, jG 10 896 [52, 53] 54 (.ib .sub (.t 52) (.t 53)), jG 11 2047 [44, 45, 50, 54] 55 (.ca 54 [.t 44, .t 45, .t 50, .t 54]), jM 12 4095 43 55, jG 13 8191 [43] 56 (.ex (.t 43) 0), jG 14 8191 [43] 57 (.ex (.t 43) 1), jG 15 8191 [43] 58 (.ex (.t 43) 2), jM 16 16383 11 56, jM 17 98303 12 57, jM 18 262143 13 58]) (.sq (.sq (.rg [kM 59 13, kG 60 (.nt (.t 59))]) (.cd (.t 60) (.sq (.rg [kG 4 (.mv kU)]) .rt) .sk)) (.rg [kM 61 10, kM 62 10, kM 63 11, kM 64 12, kG 65 (.iaa (.t 8) (.t 61) 3 1), kS (.st (.t 65) (.t 63) 1), kG 66 (.iaa (.t 9) (.t 62) 3 1), kS (.st (.t 66) (.t 64) 1)])))) (.rg [kM 41 10, kG 42 (.ib .add (.t 41) (kI 1)), kM 10 42])))))) (.sq (.rg [kG 14 (.al 102 [(.pointer none), (.pointer none), (.pointer none)])]) (.sq (.rg [kG 15 (.al 107 [(.pointer none), (.pointer none), (.pointer none)])]) (.sq (.sq (.rg [kG 16 (.mv (kI 0))]) (.bl 2 (.lp (.sq (.sq (.rg [kM 67 16, kM 68 1, kG 69 (.len (.t 68)), kG 70 (.ib .lss (.t 67) (.t 69))]) (.cd (.t 70) .sk (.ex 2))) (.sq (.bl 3 (.sq (.rd [jM 0 0 73 1, jM 1 0 74 16, jG 2 3 [73, 74] 75 (.ia (.t 73) (.t 74) 1), jL 3 7 76 75, jG 4 15 [76] 77 (.ca 16 [.t 76, (kI 3)]), jM 5 0 78 1, jM 6 0 79 16, jG 7 96 [78, 79] 80 (.ia (.t 78) (.t 79) 1), jL 8 224 81 80, jG 9 480 [81] 82 (.ib .quo (.t 81) (kI 3)), jG 10 1023 [82] 83 (.ca 16 [.t 82, (kI 40)]), jM 11 2047 17 77, jM 12 4095 18 83]) (.sq (.bl 4 (.sq (.rg [kM 151 18, kG 152 (.ib .eql (.t 151) (kI 39)), kM 150 152]) (.cd (.t 150) (.sq (.rg [kM 153 7, kN 154 153, kF 155 154 12, kL 156 155, kN 157 156, kF 158 157 6, kL 159 158, kN 160 159, kF 161 160 0, kL 162 161, kG 163 (.ia (.t 162) (kI 2) 1), kL 164 163, kG 165 (.ib .add (.t 164) (.c (.int .u64 1))), kG 166 (.ia (.t 162) (kI 2) 1), kS (.st (.t 166) (.t 165) 1)]) (.sq (.rd [jM 0 0 167 7, jN 1 1 168 167, jF 2 3 169 168 6, jL 3 7 170 169, jM 4 0 171 7, jN 5 16 172 171, jF 6 48 173 172 12, jL 7 112 174 173, jN 8 240 175 174, jF 9 496 176 175 6, jL 10 1008 177 176, jN 11 2032 178 177, jF 12 4080 179 178 0, jL 13 8176 180 179, jG 14 16368 [180] 181 (.ia (.t 180) (kI 2) 1), jL 15 32752 182 181, jG 16 65535 [170, 182] 183 (.ca 23 [.t 170, (kI 2), .t 182]), jG 17 131071 [183] 184 (.ib .neq (.t 183) (kI 0))]) (.cd (.t 184) (.sq (.rg [kG 4 (.mv kU)]) .rt) .sk))) (.sq (.rg [kM 186 17, kG 187 (.iaa (.t 14) (.t 186) 3 1), kL 188 187, kG 189 (.en 0 false (.t 188) kP), kM 185 189]) (.cd (.t 185) (.sq (.rd [jM 0 0 190 18, jG 1 1 [190] 191 (.ib .rem (.t 190) (kI 3)), jM 2 0 192 18, jG 3 4 [192] 193 (.ib .rem (.t 192) (kI 3)), jG 4 12 [9, 193] 194 (.iaa (.t 9) (.t 193) 3 1), jL 5 28 195 194, jM 6 3 19 191, jM 7 127 20 195]) (.sq (.sq (.rg [kM 196 18, kG 197 (.ib .quo (.t 196) (kI 3)), kG 198 (.ib .rem (.t 197) (kI 5)), kG 199 (.ib .eql (.t 198) (kI 0))]) (.cd (.t 199) (.rg [kM 200 20, kG 201 (.ib .add (.t 200) (kI 1)), kM 20 201]) .sk)) (.sq (.rd [jM 0 0 203 7, jN 1 1 204 203, jF 2 3 205 204 9, jL 3 7 206 205, jM 4 0 207 7, jN 5 16 208 207, jF 6 48 209 208 11, jL 7 112 210 209, jM 8 0 211 17, jG 9 496 [210, 211] 212 (.ia (.t 210) (.t 211) 1), jL 10 1008 213 212, jM 11 0 214 19, jG 12 2048 [8, 214] 215 (.iaa (.t 8) (.t 214) 3 1), jL 13 6144 216 215, jM 14 0 217 20, jG 15 32767 [206, 213, 216, 217] 218 (.ca 48 [.t 206, .t 213, .t 216, .t 217]), jM 16 65535 202 218, jG 17 131071 [202] 219 (.ex (.t 202) 0), jG 18 131071 [202] 220 (.ex (.t 202) 1), jM 19 262143 21 219, jM 20 1048575 22 220]) (.sq (.sq (.rg [kM 221 21, kG 222 (.en 0 false (.t 221) kP), kM 223 222, kH 224 223 false (.mv (.t 22)), kH 225 223 false (.ib .neq (.t 224) (kI 0)), kG 226 (.pk (.t 223) kT (.t 225)), kM 227 226, kH 228 227 false (.mv (.t 21)), kH 229 227 false (.ca 56 [.t 228]), kG 230 (.pk (.t 227) kT (.t 229))]) (.cd (.t 230) (.sq (.rg [kG 4 (.mv kU)]) .rt) .sk)) (.rd [jM 0 0 231 17, jM 1 0 232 17, jM 2 0 233 21, jM 3 0 234 7, jN 4 8 235 234, jF 5 24 236 235 13, jL 6 56 237 236, jM 7 0 238 17, jG 8 248 [237, 238] 239 (.ia (.t 237) (.t 238) 1), jL 9 504 240 239, jM 10 0 241 19, jG 11 1024 [8, 241] 242 (.iaa (.t 8) (.t 241) 3 1), jL 12 3072 243 242, jM 13 0 244 20, jG 14 16376 [240, 243, 244] 245 (.ca 58 [.t 240, .t 243, .t 244]), jG 15 5 [14, 231] 246 (.iaa (.t 14) (.t 231) 3 1), ⟨16, 65533, [246, 233], kS (.st (.t 246) (.t 233) 1)⟩, jG 17 131071 [15, 232] 247 (.iaa (.t 15) (.t 232) 3 1), ⟨18, 262143, [247, 245], kS (.st (.t 247) (.t 245) 1)⟩]))))) (.sq (.rd [jM 0 0 84 17, jG 1 1 [14, 84] 85 (.iaa (.t 14) (.t 84) 3 1), jL 2 3 86 85, jM 3 0 87 17, jG 4 8 [15, 87] 88 (.iaa (.t 15) (.t 87) 3 1), jL 5 24 89 88, jM 6 7 23 86, jM 7 127 24 89]) (.sq (.sq (.rd [jM 0 0 90 23, jG 1 1 [90] 91 (.ca 55 [.t 90]), jM 2 0 92 24, jG 3 7 [92] 93 (.ca 59 [.t 92]), jG 4 15 [91, 93] 94 (.bb true (.t 91) (.t 93)), jM 5 31 95 94, ⟨6, 63, [23, 95], kH 96 95 false (.mv (.t 23))⟩, ⟨7, 127, [96, 95], kH 97 95 false (.ca 56 [.t 96])⟩, ⟨8, 63, [24, 95], kH 98 95 false (.mv (.t 24))⟩, ⟨9, 319, [98, 95], kH 99 95 false (.nc (.t 98))⟩, ⟨10, 831, [99, 95], kH 100 95 false (.fa (.t 99) 11)⟩, ⟨11, 1855, [100, 95], kH 101 95 false (.ld (.t 100) 1 false)⟩, ⟨12, 4095, [97, 101, 95], kH 102 95 false (.bb true (.t 97) (.t 101))⟩, jG 13 8191 [95, 102] 103 (.pk (.t 95) kT (.t 102)), jM 14 16383 104 103, ⟨15, 32767, [23, 104], kH 105 104 false (.mv (.t 23))⟩, ⟨16, 65535, [105, 104], kH 106 104 false (.ca 51 [.t 105])⟩, ⟨17, 32767, [24, 104], kH 107 104 false (.mv (.t 24))⟩, ⟨18, 163839, [107, 104], kH 108 104 false (.nc (.t 107))⟩, ⟨19, 425983, [108, 104], kH 109 104 false (.fa (.t 108) 3)⟩, ⟨20, 950271, [109, 104], kH 110 104 false (.ld (.t 109) 1 false)⟩, ⟨21, 2097151, [106, 110, 104], kH 111 104 false (.ib .neq (.t 106) (.t 110))⟩, jG 22 4194303 [104, 111] 112 (.pk (.t 104) kT (.t 111)), jM 23 8388607 113 112, ⟨24, 16777215, [23, 113], kH 114 113 false (.mv (.t 23))⟩, ⟨25, 33554431, [114, 113], kH 115 113 false (.ca 52 [.t 114])⟩, ⟨26, 16777215, [24, 113], kH 116 113 false (.mv (.t 24))⟩, ⟨27, 83886079, [116, 113], kH 117 113 false (.nc (.t 116))⟩, ⟨28, 218103807, [117, 113], kH 118 113 false (.fa (.t 117) 4)⟩, ⟨29, 486539263, [118, 113], kH 119 113 false (.ld (.t 118) 1 false)⟩, ⟨30, 1073741823, [115, 119, 113], kH 120 113 false (.ib .neq (.t 115) (.t 119))⟩, jG 31 2147483647 [113, 120] 121 (.pk (.t 113) kT (.t 120)), jM 32 4294967295 122 121, ⟨33, 8589934591, [23, 122], kH 123 122 false (.mv (.t 23))⟩, ⟨34, 17179869183, [123, 122], kH 124 122 false (.ca 60 [.t 123])⟩, ⟨35, 8589934591, [24, 122], kH 125 122 false (.mv (.t 24))⟩, ⟨36, 68719476735, [125, 122], kH 126 122 false (.ca 61 [.t 125])⟩, ⟨37, 137438953471, [124, 126, 122], kH 127 122 false (.ib .neq (.t 124) (.t 126))⟩, jG 38 274877906943 [122, 127] 128 (.pk (.t 122) kT (.t 127)), jM 39 549755813887 129 128, ⟨40, 1099511627775, [23, 129], kH 130 129 false (.mv (.t 23))⟩, ⟨41, 2199023255551, [130, 129], kH 131 129 false (.ca 63 [.t 130])⟩, ⟨42, 1099511627775, [24, 129], kH 132 129 false (.mv (.t 24))⟩, ⟨43, 8796093022207, [132, 129], kH 133 129 false (.ca 64 [.t 132])⟩, ⟨44, 17592186044415, [131, 133, 129], kH 134 129 false (.ca 62 [.t 131, .t 133])⟩, ⟨45, 35184372088831, [134, 129], kH 135 129 false (.nt (.t 134))⟩, jG 46 70368744177663 [129, 135] 136 (.pk (.t 129) kT (.t 135))]) (.cd (.t 136) (.sq (.rg [kG 4 (.mv kU)]) .rt) .sk)) (.sq (.rg [kM 137 24, kN 138 137, kF 139 138 11, kL 140 139]) (.cd (.t 140) (.sq (.sq (.rd [jM 0 0 141 23, jG 1 1 [141] 142 (.ca 50 [.t 141]), jM 2 0 143 24, jN 3 4 144 143, jF 4 12 145 144 10, jL 5 28 146 145, jG 6 63 [142, 146] 147 (.ib .neq (.t 142) (.t 146))]) (.cd (.t 147) (.sq (.rg [kG 4 (.mv kU)]) .rt) .sk)) (.rg [kM 148 17, kG 149 (.iaa (.t 14) (.t 148) 3 1), kS (.st (.t 149) kP 1)])) .sk))))))))) (.sq (.rg [kM 248 7, kG 249 (.ca 65 [.t 248]), kG 250 (.nt (.t 249))]) (.cd (.t 250) (.sq (.rg [kG 4 (.mv kU)]) .rt) .sk))))) (.rg [kM 71 16, kG 72 (.ib .add (.t 71) (kI 1)), kM 16 72])))))) (.sq (.rd [jM 0 0 251 5, jM 1 1 252 251, ⟨2, 3, [7, 252], kH 253 252 true (.mv (.t 7))⟩, ⟨3, 7, [253, 252], kH 254 252 true (.nc (.t 253))⟩, ⟨4, 15, [254, 252], kH 255 252 true (.fa (.t 254) 10)⟩, ⟨5, 31, [255, 252], kH 256 252 true (.ld (.t 255) 1 false)⟩, ⟨6, 63, [256, 252], kH 257 252 true (.ca 31 [.t 256])⟩, ⟨7, 3, [7, 252], kH 258 252 true (.mv (.t 7))⟩, ⟨8, 131, [258, 252], kH 259 252 true (.nc (.t 258))⟩, ⟨9, 387, [259, 252], kH 260 252 true (.fa (.t 259) 12)⟩, ⟨10, 899, [260, 252], kH 261 252 true (.ld (.t 260) 1 false)⟩, ⟨11, 1923, [261, 252], kH 262 252 true (.nc (.t 261))⟩, ⟨12, 3971, [262, 252], kH 263 252 true (.fa (.t 262) 7)⟩, ⟨13, 8067, [263, 252], kH 264 252 true (.ld (.t 263) 1 false)⟩, ⟨14, 16383, [264, 252], kH 265 252 true (.ca 66 [.t 264])⟩, ⟨15, 32767, [257, 265, 252], kH 266 252 true (.ca 62 [.t 257, .t 265])⟩, jG 16 65535 [252, 266] 267 (.pk (.t 252) (.t 266) kU), jM 17 131071 4 267]) .rt))))))))))))))⟩
theorem k10 : kQ Tryz.f10 c10 := kr_
def c13 : Fu := ⟨43, [.c 2 6 true], (.sq (.rg [kG 2 (.al 24 [ii 0, ii 0, ii 0, ii 0, ii 0, ii 0])]) (.sq (.rg [kM 4 0, kG 5 (.ca 16 [.t 4, (kI 4)]), kM 6 0, kG 7 (.ib .quo (.t 6) (kI 4)), kG 8 (.ca 16 [.t 7, (kI 8)]), kM 9 0, kG 10 (.ib .quo (.t 9) (kI 32)), kG 11 (.ca 16 [.t 10, (kI 2)]), kM 12 0, kG 13 (.ib .quo (.t 12) (kI 64)), kG 14 (.ca 16 [.t 13, (kI 4)]), kM 15 0, kG 16 (.ib .quo (.t 15) (kI 256)), kG 17 (.ca 16 [.t 16, (kI 4)]), kM 18 0, kG 19 (.ib .quo (.t 18) (kI 1024)), kG 20 (.ca 16 [.t 19, (kI 3)]), kG 21 (.bs 3 6 [ii 0, ii 0, ii 0, ii 0, ii 0, ii 0] [(0, 1, (.t 5)), (1, 1, (.t 8)), (2, 1, (.t 11)), (3, 1, (.t 14)), (4, 1, (.t 17)), (5, 1, (.t 20))]), kG 22 (.bd [(.slice none 0 0), ii 0] [(0, 1, (.t 21))]), kG 23 (.bx 125 (.t 22)), kM 3 23]) (.sq (.rg [kM 24 3, kG 25 (.ca 68 [.t 24, (kI 4)]), kG 26 (.ib .add (kI 1) (.t 25)), kM 27 3, kG 28 (.ca 68 [.t 27, (kI 8)]), kG 29 (.ib .add (kI 1) (.t 28)), kM 30 3, kG 31 (.ca 68 [.t 30, (kI 2)]), kG 32 (.ib .mul (kI 8) (.t 31)), kG 33 (.ib .add (kI 8) (.t 32)), kM 34 3, kG 35 (.ca 68 [.t 34, (kI 4)]), kG 36 (.ib .add (kI 1) (.t 35)), kM 37 3, kG 38 (.ca 68 [.t 37, (kI 4)]), kM 39 3, kG 40 (.ca 68 [.t 39, (kI 3)]), kG 41 (.ib .add (kI 1) (.t 40)), kG 42 (.bd [ii 0, ii 0, ii 0, ii 0, ii 0, ii 0] [(0, 1, (.t 26)), (1, 1, (.t 29)), (2, 1, (.t 33)), (3, 1, (.t 36)), (4, 1, (.t 38)), (5, 1, (.t 41))]), kS (.st (.t 2) (.t 42) 6)]) .rt)))⟩
theorem k13 : kQ Tryz.f13 c13 := kr_
def c15 : Fu := ⟨14, [.t 2, .t 3], (.sq (.rg [kG 2 (.mv kP), kG 3 (.mv (kI 0))]) (.sq (.sq (.rg [kM 4 0, kG 5 (.ib .lss (.t 4) (kI 1)), kM 6 5, kH 7 6 false (.mv (.t 0)), kH 8 6 false (.ib .gtr (.t 7) (kI 8388608)), kG 9 (.pk (.t 6) kT (.t 8))]) (.cd (.t 9) (.sq (.rg [kG 2 (.mv kP), kG 3 (.mv (kI 1))]) .rt) .sk)) (.sq (.rg [kM 10 0, kG 11 (.mk 56 1 8 [(.int .u64 0)] (.t 10) (.t 10)), kG 12 (.bd [(.slice none 0 0), ii 0, ii 0, ii 0, (.int .u64 0), (.int .u64 0), (.bool false)] [(0, 1, (.t 11))]), kG 13 (.bx 139 (.t 12)), kM 2 13, kG 3 (.mv (kI 0))]) .rt)))⟩
theorem k15 : kQ Tryz.f15 c15 := kr_
def c16 : Fu := ⟨15, [.t 4], (.sq (.rg [kG 4 (.mv (kI 0))]) (.sq (.rg [kM 6 0, kM 7 1, kG 8 (.ib .rem (.t 6) (.t 7)), kM 5 8]) (.sq (.sq (.rg [kM 9 5, kG 10 (.ib .lss (.t 9) (kI 0))]) (.cd (.t 10) (.rg [kM 11 5, kM 12 1, kG 13 (.ib .add (.t 11) (.t 12)), kM 5 13]) .sk)) (.sq (.rg [kM 14 5, kM 4 14]) .rt))))⟩
theorem k16 : kQ Tryz.f16 c16 := kr_
def c17 : Fu := ⟨17, [.t 2], (.sq (.rg [kG 1 (.bx 24 (.t 0)), kG 2 (.mv (kI 0))]) (.sq (.sq (.rg [kG 5 (.ld (.t 1) 6 true), kG 6 (.ca 77 [.t 5]), kG 7 (.nt (.t 6))]) (.cd (.t 7) (.sq (.rg [kG 2 (.mv (kI 0))]) .rt) .sk)) (.sq (.rg [kG 8 (.ld (.t 1) 6 true), kG 9 (.ca 78 [.t 8]), kG 3 (.al 143 [ii 0, ii 0, ii 0, ii 0, ii 0, ii 0, ii 0, ii 0, ii 0, ii 0, ii 0, ii 0, ii 0, ii 0, ii 0]), kS (.st (.t 3) (.t 9) 15)]) (.sq (.rg [kG 10 (.iaa (.t 3) (kI 4) 5 3), kG 11 (.ld (.t 10) 3 true), kG 4 (.al 142 [ii 0, ii 0, ii 0]), kS (.st (.t 4) (.t 11) 3)]) (.sq (.rg [kF 12 4 1, kL 13 12, kF 14 4 2, kL 15 14, kG 16 (.ib .add (.t 13) (.t 15)), kM 2 16]) .rt)))))⟩
theorem k17 : kQ Tryz.f17 c17 := kr_
def c18 : Fu := ⟨21, [.t 4, .t 5], (.sq (.rg [kG 3 (.bx 24 (.t 1)), kG 4 (.mv kP), kG 5 (.mv (kI 0))]) (.sq (.sq (.rg [kM 9 0, kG 10 (.ld (.t 3) 6 true), kG 11 (.ca 70 [.t 9, .t 10]), kM 8 11, kG 12 (.ex (.t 8) 0), kG 13 (.ex (.t 8) 1), kM 6 12, kM 7 13]) (.sq (.rg [kM 14 7, kG 15 (.ib .neq (.t 14) (kI 0))]) (.cd (.t 15) (.sq (.rg [kM 16 7, kG 4 (.mv kP), kM 5 16]) .rt) .sk))) (.sq (.rg [kM 17 0, kG 18 (.ld (.t 3) 6 true), kG 19 (.bd [(.pointer none), ii 0, ii 0, ii 0, ii 0, ii 0, ii 0] [(0, 1, (.t 17)), (1, 6, (.t 18))]), kG 20 (.bx 146 (.t 19)), kM 4 20, kG 5 (.mv (kI 0))]) .rt)))⟩
theorem k18 : kQ Tryz.f18 c18 := kr_
def c19 : Fu := ⟨49, [.t 10, .t 11], (.sq (.rg [kG 10 (.mv kP), kG 11 (.mv (kI 0))]) (.sq (.sq (.rg [kM 13 2, kG 14 (.ib .lss (.t 13) (kI 0)), kM 15 14, kH 16 15 false (.mv (.t 2)), kH 17 15 false (.mv (.t 0)), kH 18 15 false (.nc (.t 17)), kH 19 15 false (.fa (.t 18) 1), kH 20 15 false (.fa (.t 19) 3), kH 21 15 false (.ld (.t 20) 1 false), kH 22 15 false (.ib .geq (.t 16) (.t 21)), kG 23 (.pk (.t 15) kT (.t 22))]) (.cd (.t 23) (.sq (.rg [kG 10 (.mv kP), kG 11 (.mv (kI 1))]) .rt) .sk)) (.sq (.sq (.rg [kM 24 4, kG 25 (.ib .lss (.t 24) (kI 1)), kM 26 25, kH 27 26 false (.mv (.t 4)), kH 28 26 false (.mv (.t 0)), kH 29 26 false (.nc (.t 28)), kH 30 26 false (.fa (.t 29) 1), kH 31 26 false (.fa (.t 30) 2), kH 32 26 false (.ld (.t 31) 1 false), kH 33 26 false (.ib .gtr (.t 27) (.t 32)), kG 34 (.pk (.t 26) kT (.t 33))]) (.cd (.t 34) (.sq (.rg [kG 10 (.mv kP), kG 11 (.mv (kI 5))]) .rt) .sk)) (.sq (.rg [kM 35 0, kM 36 1, kM 37 2, kM 38 3, kM 39 4, kG 40 (.bd [.nilFunc, .nilFunc, .nilFunc, .nilFunc, ii 0, (.pointer none), (.pointer none), ii 0, ii 0, ii 0, ii 0, ii 0, (.bool false), (.bool false), ii 0, ii 0, (.int .u64 0), ii 0, ii 0, ii 0, ii 0, (.pointer none), (.pointer none), ii 0, ii 0, ii 0, ii 0, ii 0, ii 0] [(5, 1, (.t 35)), (6, 1, (.t 36)), (7, 1, (.t 37)), (8, 1, (.t 38)), (9, 1, (.t 39)), (10, 1, (.c (ii (-1))))]), kG 41 (.bx 152 (.t 40)), kM 12 41]) (.sq (.rg [kM 42 12, kN 43 42, kF 44 43 0, kM 45 12, kG 46 (.mf (.func 80) [.t 45] []), kG 47 (.ca 79 [.t 44, .t 46])]) (.sq (.rg [kM 48 12, kM 10 48, kG 11 (.mv (kI 0))]) .rt))))))⟩
theorem k19 : kQ Tryz.f19 c19 := kr_
def c23 : Fu := ⟨18, [.t 6], (.sq (.rg [kG 6 (.mv (kI 0))]) (.sq (.sq (.rg [kM 7 0, kM 8 1, kG 9 (.ca 81 [.t 7, .t 8]), kG 10 (.nt (.t 9))]) (.cd (.t 10) (.sq (.rg [kG 6 (.mv (kI 1))]) .rt) .sk)) (.sq (.rg [kM 11 0, kN 12 11, kF 13 12 0, kL 14 13, kM 15 1, kM 16 2, kG 17 (.ia (.t 14) (.t 15) 1), kS (.st (.t 17) (.t 16) 1)]) (.sq (.rg [kG 6 (.mv (kI 0))]) .rt))))⟩
theorem k23 : kQ Tryz.f23 c23 := kr_
def c24 : Fu := ⟨34, [.t 6], (.sq (.rg [kG 3 (.bx 24 (.t 0)), kG 6 (.mv (kI 0))]) (.sq (.sq (.rg [kM 7 1, kF 8 3 1, kL 9 8, kG 10 (.ib .sub (.t 9) (kI 1)), kG 11 (.ca 82 [.t 7, (kI 0), .t 10]), kG 12 (.nt (.t 11)), kM 13 12, kH 14 13 false (.mv (.t 2)), kH 15 13 false (.fa (.t 3) 2), kH 16 13 false (.ld (.t 15) 1 false), kH 17 13 false (.ib .sub (.t 16) (kI 1)), kH 18 13 false (.ca 82 [.t 14, (kI 0), .t 17]), kH 19 13 false (.nt (.t 18)), kG 20 (.pk (.t 13) kT (.t 19)), kM 21 20, kH 22 21 false (.ld (.t 3) 6 true), kH 23 21 false (.ca 77 [.t 22]), kH 24 21 false (.nt (.t 23)), kG 25 (.pk (.t 21) kT (.t 24))]) (.cd (.t 25) (.sq (.rg [kG 6 (.mv (.c (ii (-1))))]) .rt) .sk)) (.sq (.rg [kG 26 (.ld (.t 3) 6 true), kM 27 1, kF 28 3 2, kL 29 28, kG 30 (.ib .mul (.t 27) (.t 29)), kM 31 2, kG 32 (.ib .add (.t 30) (.t 31)), kG 33 (.ca 83 [.t 26, (kI 7), .t 32]), kM 6 33]) .rt)))⟩
theorem k24 : kQ Tryz.f24 c24 := kr_
def c26 : Fu := ⟨7, [.t 2], (.sq (.rg [kG 2 (.mv kU)]) (.sq (.rg [kM 3 0, kN 4 3, kF 5 4 0, kG 6 (.ca 91 [.t 5]), kM 2 6]) .rt))⟩
theorem k26 : kQ Tryz.f26 c26 := kr_
def c27 : Fu := ⟨7, [.t 2], (.sq (.rg [kG 2 (.mv kU)]) (.sq (.rg [kM 3 0, kN 4 3, kF 5 4 0, kG 6 (.ca 92 [.t 5]), kM 2 6]) .rt))⟩
theorem k27 : kQ Tryz.f27 c27 := kr_
def c29 : Fu := ⟨16, [.t 4], (.sq (.rg [kG 4 (.mv (.c (.int .u64 0)))]) (.sq (.sq (.rg [kM 5 0, kM 6 1, kG 7 (.ca 81 [.t 5, .t 6]), kG 8 (.nt (.t 7))]) (.cd (.t 8) (.sq (.rg [kG 4 (.mv (.c (.int .u64 0)))]) .rt) .sk)) (.sq (.rg [kM 9 0, kN 10 9, kF 11 10 0, kL 12 11, kM 13 1, kG 14 (.ia (.t 12) (.t 13) 1), kL 15 14, kM 4 15]) .rt)))⟩
theorem k29 : kQ Tryz.f29 c29 := kr_
def c31 : Fu := ⟨45, [.t 2], (.sq (.rg [kG 2 (.mv (.c (.slice none 0 0)))]) (.sq (.rg [kG 3 (.mv (.c (.slice none 0 0)))]) (.sq (.sq (.rd [jM 0 0 5 0, jM 1 0 6 0, jN 2 2 7 6, jF 3 6 8 7 0, jL 4 14 9 8, jM 5 0 10 0, jN 6 32 11 10, jF 7 96 12 11 1, jL 8 224 13 12, jG 9 510 [9, 13] 14 (.ca 29 [.t 9, .t 13]), jG 10 1023 [5, 14] 15 (.ca 95 [.t 5, .t 14]), jM 11 2047 4 15]) (.bl 0 (.lp (.sq (.sq (.rg [kM 16 4, kG 17 (.ib .geq (.t 16) (kI 0)), kM 18 17, kH 19 18 true (.mv (.t 3)), kH 20 18 true (.len (.t 19)), kH 21 18 true (.mv (.t 0)), kH 22 18 true (.nc (.t 21)), kH 23 18 true (.fa (.t 22) 3), kH 24 18 true (.ld (.t 23) 1 false), kH 25 18 true (.ib .lss (.t 20) (.t 24)), kG 26 (.pk (.t 18) (.t 25) kU)]) (.cd (.t 26) .sk (.ex 0))) (.sq (.bl 1 (.rg [kM 40 3, kM 41 4, kG 42 (.bs 3 1 [ii 0] [(0, 1, (.t 41))]), kG 43 (.ap 53 3 1 8 [ii 0] (.t 40) (.t 42)), kM 3 43])) (.rd [jM 0 0 27 0, jM 1 0 28 0, jN 2 2 29 28, jF 3 6 30 29 0, jL 4 14 31 30, jM 5 0 32 0, jN 6 32 33 32, jF 7 96 34 33 2, jL 8 224 35 34, jM 9 0 36 4, jG 10 992 [35, 36] 37 (.ib .add (.t 35) (.t 36)), jG 11 2046 [31, 37] 38 (.ca 29 [.t 31, .t 37]), jG 12 4095 [27, 38] 39 (.ca 96 [.t 27, .t 38]), jM 13 8191 4 39])))))) (.sq (.rg [kM 44 3, kM 2 44]) .rt))))⟩
theorem k31 : kQ Tryz.f31 c31 := kr_
def c32 : Fu := ⟨7, [.t 2], (.sq (.rg [kG 2 (.mv kU)]) (.sq (.rg [kM 3 0, kN 4 3, kF 5 4 0, kG 6 (.ca 91 [.t 5]), kM 2 6]) .rt))⟩
theorem k32 : kQ Tryz.f32 c32 := kr_
def c33 : Fu := ⟨118, [.t 2], (.sq (.rg [kG 2 (.mv kU)]) (.sq (.sq (.rg [kM 7 0, kN 8 7, kF 9 8 9, kL 10 9]) (.cd (.t 10) (.sq (.rg [kG 2 (.mv kU)]) .rt) .sk)) (.sq (.rg [kM 11 0, kN 12 11, kF 13 12 4, kL 14 13, kG 15 (.ib .add (.t 14) (kI 1)), kN 16 11, kF 17 16 4, kS (.st (.t 17) (.t 15) 1)]) (.sq (.rd [jM 0 0 18 0, jN 1 1 19 18, jF 2 3 20 19 0, jL 3 7 21 20, jN 4 15 22 21, jF 5 31 23 22 0, jG 6 63 [23] 24 (.ld (.t 23) 6 true), jM 7 0 25 0, jN 8 128 26 25, jF 9 384 27 26 1, jL 10 896 28 27, jG 11 2047 [24, 28] 29 (.ca 97 [.t 24, .t 28]), jM 12 4095 3 29]) (.sq (.sq (.rg [kM 30 0, kN 31 30, kF 32 31 3, kL 33 32, kG 34 (.ib .eql (.t 33) (kI 0))]) (.cd (.t 34) (.sq (.rg [kM 35 0, kM 36 0, kN 37 36, kF 38 37 0, kL 39 38, kN 40 39, kF 41 40 6, kL 42 41, kM 43 3, kG 44 (.ca 98 [.t 42, .t 43]), kN 45 35, kF 46 45 7, kS (.st (.t 46) (.t 44) 1)]) (.sq (.sq (.rd [jM 0 0 47 0, jN 1 1 48 47, jF 2 3 49 48 7, jL 3 7 50 49, jG 4 15 [50] 51 (.ca 100 [.t 50]), jM 5 0 52 0, jN 6 32 53 52, jF 7 96 54 53 2, jL 8 224 55 54, jG 9 511 [51, 55] 56 (.ca 99 [.t 51, .t 55]), jG 10 1023 [56] 57 (.nt (.t 56))]) (.cd (.t 57) (.rg [kM 58 0, kM 59 0, kM 60 0, kM 61 0, kN 62 61, kF 63 62 4, kL 64 63, kN 65 58, kF 66 65 8, kS (.st (.t 66) (kI 3) 1), kN 67 59, kF 68 67 5, kS (.st (.t 68) (.t 64) 1), kN 69 60, kF 70 69 9, kS (.st (.t 70) kT 1)]) .sk)) (.sq (.rg [kM 71 0, kN 72 71, kF 73 72 3, kS (.st (.t 73) (kI 1) 1)]) (.sq (.rg [kG 2 (.mv kT)]) .rt)))) .sk)) (.sq (.rg [kM 74 0, kN 75 74, kF 76 75 7, kL 77 76, kG 78 (.ca 100 [.t 77]), kG 4 (.al 162 [ii 0, ii 0, ii 0, ii 0]), kS (.st (.t 4) (.t 78) 4)]) (.sq (.rg [kF 80 4 0, kL 81 80, kG 82 (.bd [ii 0, ii 0, ii 0, ii 0] [(0, 1, (.t 81))]), kG 83 (.ca 101 [.t 82]), kM 79 83, kG 84 (.ex (.t 79) 0), kG 85 (.ex (.t 79) 1), kM 5 84, kM 6 85]) (.sq (.sq (.rd [jM 0 0 86 0, jN 1 1 87 86, jF 2 3 88 87 0, jL 3 7 89 88, jN 4 15 90 89, jF 5 31 91 90 6, jL 6 63 92 91, jM 7 0 93 3, jM 8 0 94 0, jN 9 256 95 94, jF 10 768 96 95 7, jL 11 1792 97 96, jM 12 0 98 5, jG 13 8191 [92, 93, 97, 98] 99 (.ca 102 [.t 92, .t 93, .t 97, .t 98])]) (.cd (.t 99) (.rd [jM 0 0 100 0, jM 1 0 101 0, jM 2 0 102 0, jG 3 0 [4] 103 (.ld (.t 4) 4 true), jG 4 8 [103] 104 (.ca 103 [.t 103]), jM 5 0 105 0, jN 6 32 106 105, jF 7 96 107 106 4, jL 8 224 108 107, jN 9 505 109 100, jF 10 1017 110 109 6, ⟨11, 2041, [110, 104], kS (.st (.t 110) (.t 104) 1)⟩, jN 12 4091 111 101, jF 13 8187 112 111 5, ⟨14, 16379, [112, 108], kS (.st (.t 112) (.t 108) 1)⟩, jN 15 32767 113 102, jF 16 65535 114 113 9, ⟨17, 131071, [114], kS (.st (.t 114) kT 1)⟩]) .sk)) (.sq (.rg [kM 115 0, kN 116 115, kF 117 116 3, kS (.st (.t 117) (kI 0) 1)]) (.sq (.rg [kG 2 (.mv kT)]) .rt))))))))))⟩
theorem k33 : kQ Tryz.f33 c33 := kr_
def c34 : Fu := ⟨7, [.t 2], (.sq (.rg [kG 2 (.mv kU)]) (.sq (.rg [kM 3 0, kN 4 3, kF 5 4 0, kG 6 (.ca 92 [.t 5]), kM 2 6]) .rt))⟩
theorem k34 : kQ Tryz.f34 c34 := kr_
def c35 : Fu := ⟨25, [.t 6, .t 7], (.sq (.rg [kG 6 (.mv kP), kG 7 (.mv (kI 0))]) (.sq (.sq (.rg [kM 9 0, kM 10 1, kG 11 (.ca 104 [.t 9, .t 10]), kG 12 (.nt (.t 11))]) (.cd (.t 12) (.sq (.rg [kG 6 (.mv kP), kG 7 (.mv (kI 1))]) .rt) .sk)) (.sq (.rg [kM 13 0, kM 14 1, kM 15 2, kG 16 (.bd [.nilFunc, .nilFunc, .nilFunc, .nilFunc, ii 0, (.pointer none), ii 0, ii 0, (.int .u64 0), ii 0, ii 0, ii 0, ii 0, ii 0, ii 0, ii 0] [(5, 1, (.t 13)), (6, 1, (.t 14)), (7, 1, (.t 15)), (14, 1, (.c (ii (-1))))]), kG 17 (.bx 173 (.t 16)), kM 8 17]) (.sq (.rg [kM 18 8, kN 19 18, kF 20 19 0, kM 21 8, kG 22 (.mf (.func 105) [.t 21] []), kG 23 (.ca 79 [.t 20, .t 22])]) (.sq (.rg [kM 24 8, kM 6 24, kG 7 (.mv (kI 0))]) .rt)))))⟩
theorem k35 : kQ Tryz.f35 c35 := kr_
def c36 : Fu := ⟨12, [.t 6], (.sq (.rg [kG 6 (.mv kP)]) (.sq (.rg [kM 7 0, kM 8 1, kM 9 2, kG 10 (.bd [(.pointer none), ii 0, ii 0, ii 0, ii 0, ii 0, ii 0, (.int .u64 0), ii 0, (.bool false)] [(0, 1, (.t 7)), (1, 1, (.t 8)), (2, 1, (.t 9)), (6, 1, (.c (ii (-1))))]), kG 11 (.bx 77 (.t 10)), kM 6 11]) .rt))⟩
theorem k36 : kQ Tryz.f36 c36 := kr_
def c37 : Fu := ⟨15, [.t 8], (.sq (.rg [kG 8 (.mv kP)]) (.sq (.rg [kM 9 0, kM 10 1, kM 11 2, kM 12 3, kG 13 (.bd [(.pointer none), ii 0, ii 0, ii 0, ii 0, ii 0, ii 0, ii 0, ii 0, ii 0, (.int .u64 0), (.pointer none), (.pointer none), ii 0, ii 0, ii 0, ii 0, ii 0, ii 0, (.bool false), (.bool false)] [(0, 1, (.t 9)), (1, 1, (.t 10)), (2, 1, (.t 11)), (3, 1, (.t 12)), (8, 1, (.c (ii (-1))))]), kG 14 (.bx 87 (.t 13)), kM 8 14]) .rt))⟩
theorem k37 : kQ Tryz.f37 c37 := kr_
def c38 : Fu := ⟨241, [.t 2], (.sq (.rg [kG 2 (.mv kU)]) (.sq (.sq (.rg [kM 13 0, kN 14 13, kF 15 14 20, kL 16 15]) (.cd (.t 16) (.sq (.rg [kG 2 (.mv kU)]) .rt) .sk)) (.sq (.rg [kM 17 0, kN 18 17, kF 19 18 5, kL 20 19, kG 21 (.ib .add (.t 20) (kI 1)), kN 22 17, kF 23 22 5, kS (.st (.t 23) (.t 21) 1)]) (.sq (.rg [kM 24 0, kN 25 24, kF 26 25 0, kL 27 26, kN 28 27, kF 29 28 0, kL 30 29, kM 3 30]) (.sq (.rd [jM 0 0 31 3, jN 1 1 32 31, jF 2 3 33 32 0, jG 3 7 [33] 34 (.ld (.t 33) 6 true), jM 4 0 35 0, jN 5 16 36 35, jF 6 48 37 36 1, jL 7 112 38 37, jG 8 255 [34, 38] 39 (.ca 97 [.t 34, .t 38]), jM 9 511 4 39]) (.sq (.rg [kM 40 0, kN 41 40, kF 42 41 10, kL 43 42, kG 44 (.ca 100 [.t 43]), kG 5 (.al 162 [ii 0, ii 0, ii 0, ii 0]), kS (.st (.t 5) (.t 44) 4)]) (.sq (.sq (.rg [kM 45 0, kN 46 45, kF 47 46 4, kL 48 47]) (.bl 0 (.sq (.rg [kG 65 (.ib .eql (.t 48) (kI 0)), kM 64 65]) (.cd (.t 64) (.sq (.rg [kM 66 0, kM 67 3, kN 68 67, kF 69 68 6, kL 70 69, kM 71 4, kG 72 (.ca 98 [.t 70, .t 71]), kN 73 66, kF 74 73 10, kS (.st (.t 74) (.t 72) 1)]) (.rg [kM 75 0, kG 76 (.ca 106 [.t 75])])) (.sq (.rg [kG 78 (.ib .eql (.t 48) (kI 1)), kM 77 78]) (.cd (.t 77) (.sq (.rg [kG 79 (.ld (.t 5) 4 true), kG 6 (.al 162 [ii 0, ii 0, ii 0, ii 0]), kS (.st (.t 6) (.t 79) 4)]) (.sq (.rd [jF 0 0 80 5 3, jL 1 1 81 80, jM 2 0 82 0, jN 3 4 83 82, jF 4 12 84 83 7, jL 5 28 85 84, jG 6 63 [81, 85] 86 (.ib .add (.t 81) (.t 85)), jF 7 127 87 6 3, ⟨8, 255, [87, 86], kS (.st (.t 87) (.t 86) 1)⟩]) (.sq (.rg [kG 89 (.ld (.t 6) 4 true), kG 90 (.ca 101 [.t 89]), kM 88 90, kG 91 (.ex (.t 88) 0), kG 92 (.ex (.t 88) 1), kM 7 91, kM 8 92]) (.sq (.rg [kM 93 0, kN 94 93, kF 95 94 4, kS (.st (.t 95) (kI 0) 1)]) (.sq (.rd [jM 0 0 96 3, jN 1 1 97 96, jF 2 3 98 97 6, jL 3 7 99 98, jM 4 0 100 4, jM 5 0 101 0, jN 6 32 102 101, jF 7 96 103 102 10, jL 8 224 104 103, jM 9 0 105 7, jG 10 1023 [99, 100, 104, 105] 106 (.ca 102 [.t 99, .t 100, .t 104, .t 105])]) (.cd (.t 106) (.rd [jM 0 0 107 0, jG 1 0 [5] 108 (.ld (.t 5) 4 true), jG 2 2 [108] 109 (.ca 103 [.t 108]), jF 3 0 110 5 3, jL 4 8 111 110, jG 5 31 [107, 109, 111] 112 (.ca 107 [.t 107, .t 109, .t 111])]) .sk)))))) (.sq (.rg [kG 114 (.ib .eql (.t 48) (kI 2)), kM 113 114]) (.cd (.t 113) (.sq (.rg [kM 115 0, kN 116 115, kF 117 116 11, kL 118 117, kG 119 (.ca 108 [.t 118])]) (.sq (.rg [kM 120 0, kN 121 120, kF 122 121 11, kL 123 122, kN 124 123, kF 125 124 5, kL 126 125]) (.cd (.t 126) (.rg [kM 127 0, kG 128 (.ca 109 [.t 127])]) .sk))) (.sq (.rg [kG 130 (.ib .eql (.t 48) (kI 3)), kM 129 130]) (.cd (.t 129) (.sq (.rd [jM 0 0 131 3, jN 1 1 132 131, jF 2 3 133 132 6, jL 3 7 134 133, jM 4 0 135 3, jN 5 16 136 135, jF 6 48 137 136 0, jG 7 112 [137] 138 (.ld (.t 137) 6 true), jM 8 0 139 0, jN 9 256 140 139, jF 10 768 141 140 8, jL 11 1792 142 141, jM 12 0 143 0, jN 13 4096 144 143, jF 14 12288 145 144 9, jL 15 28672 146 145, jG 16 65520 [138, 142, 146] 147 (.ca 111 [.t 138, .t 142, .t 146]), jG 17 131071 [134, 147] 148 (.ca 110 [.t 134, .t 147, (.c (.int .u64 0))])]) (.sq (.rg [kM 149 0, kN 150 149, kF 151 150 9, kL 152 151, kG 153 (.ib .add (.t 152) (kI 1)), kN 154 149, kF 155 154 9, kS (.st (.t 155) (.t 153) 1)]) (.sq (.rd [jM 0 0 156 0, jN 1 1 157 156, jF 2 3 158 157 9, jL 3 7 159 158, jM 4 0 160 3, jN 5 16 161 160, jF 6 48 162 161 0, jF 7 112 163 162 2, jL 8 240 164 163, jG 9 511 [159, 164] 165 (.ib .eql (.t 159) (.t 164))]) (.cd (.t 165) (.rg [kM 166 0, kN 167 166, kF 168 167 4, kS (.st (.t 168) (kI 4) 1)]) .sk)))) (.sq (.rg [kG 170 (.ib .eql (.t 48) (kI 4)), kM 169 170]) (.cd (.t 169) (.sq (.rd [jM 0 0 171 3, jN 1 1 172 171, jF 2 3 173 172 6, jL 3 7 174 173, jM 4 0 175 3, jN 5 16 176 175, jF 6 48 177 176 0, jG 7 112 [177] 178 (.ld (.t 177) 6 true), jM 8 0 179 0, jN 9 256 180 179, jF 10 768 181 180 8, jL 11 1792 182 181, jG 12 4080 [178, 182] 183 (.ca 112 [.t 178, .t 182]), jG 13 0 [5] 184 (.ld (.t 5) 4 true), jG 14 16368 [184] 185 (.ca 103 [.t 184]), jG 15 32752 [185] 186 (.ib .add (.t 185) (kI 1)), jG 16 65520 [186] 187 (.cv .u64 (.t 186)), jG 17 131071 [174, 183, 187] 188 (.ca 110 [.t 174, .t 183, .t 187])]) (.rg [kM 189 0, kN 190 189, kF 191 190 4, kS (.st (.t 191) (kI 5) 1)])) (.sq (.rg [kG 193 (.ib .eql (.t 48) (kI 5)), kM 192 193]) (.cd (.t 192) (.sq (.rg [kG 194 (.ld (.t 5) 4 true), kG 9 (.al 162 [ii 0, ii 0, ii 0, ii 0]), kS (.st (.t 9) (.t 194) 4)]) (.sq (.rd [jM 0 0 195 0, jN 1 1 196 195, jF 2 3 197 196 8, jL 3 7 198 197, jG 4 15 [198] 199 (.ib .add (.t 198) (kI 2)), jM 5 0 200 3, jN 6 32 201 200, jF 7 96 202 201 0, jF 8 224 203 202 2, jL 9 480 204 203, jM 10 0 205 0, jN 11 1024 206 205, jF 12 3072 207 206 7, jL 13 7168 208 207, jG 14 16352 [204, 208] 209 (.ca 113 [.t 204, .t 208]), jF 15 31 210 9 1, ⟨16, 65535, [210, 199], kS (.st (.t 210) (.t 199) 1)⟩, jF 17 131071 211 9 3, ⟨18, 262143, [211, 209], kS (.st (.t 211) (.t 209) 1)⟩]) (.sq (.rg [kG 213 (.ld (.t 9) 4 true), kG 214 (.ca 101 [.t 213]), kM 212 214, kG 215 (.ex (.t 212) 0), kG 216 (.ex (.t 212) 1), kM 10 215, kM 11 216]) (.sq (.rg [kM 217 0, kN 218 217, kF 219 218 4, kS (.st (.t 219) (kI 0) 1)]) (.sq (.rd [jM 0 0 220 3, jN 1 1 221 220, jF 2 3 222 221 6, jL 3 7 223 222, jM 4 0 224 4, jM 5 0 225 0, jN 6 32 226 225, jF 7 96 227 226 10, jL 8 224 228 227, jM 9 0 229 10, jG 10 1023 [223, 224, 228, 229] 230 (.ca 102 [.t 223, .t 224, .t 228, .t 229])]) (.cd (.t 230) (.sq (.rg [kM 231 0, kN 232 231, kF 233 232 8, kL 234 233, kM 12 234]) (.sq (.rg [kM 235 0, kN 236 235, kF 237 236 8, kS (.st (.t 237) (.c (ii (-1))) 1)]) (.rg [kM 238 0, kM 239 12, kG 240 (.ca 107 [.t 238, .t 239, (kI 0)])]))) .sk)))))) (.sq (.rg [kM 49 0, kN 50 49, kF 51 50 12, kL 52 51, kG 53 (.ca 114 [.t 52])]) (.rg [kM 54 0, kM 55 0, kN 56 55, kF 57 56 12, kL 58 57, kN 59 58, kF 60 59 2, kL 61 60, kN 62 54, kF 63 62 20, kS (.st (.t 63) (.t 61) 1)])))))))))))))))) (.sq (.rg [kG 2 (.mv kT)]) .rt))))))))⟩
theorem k38 : kQ Tryz.f38 c38 := kr_
def c41 : Fu := ⟨7, [.t 2], (.sq (.rg [kG 2 (.mv (kI 0))]) (.sq (.rg [kM 3 0, kN 4 3, kF 5 4 13, kL 6 5, kM 2 6]) .rt))⟩
theorem k41 : kQ Tryz.f41 c41 := kr_
def c43 : Fu := ⟨7, [.t 2], (.sq (.rg [kG 2 (.mv (kI 0))]) (.sq (.rg [kM 3 0, kN 4 3, kF 5 4 14, kL 6 5, kM 2 6]) .rt))⟩
theorem k43 : kQ Tryz.f43 c43 := kr_
def c44 : Fu := ⟨8, [.t 2], (.sq (.rg [kG 2 (.mv (.c (.slice none 0 0)))]) (.sq (.rg [kM 3 0, kN 4 3, kF 5 4 8, kL 6 5, kG 7 (.ca 118 [.t 6]), kM 2 7]) .rt))⟩
theorem k44 : kQ Tryz.f44 c44 := kr_
def c45 : Fu := ⟨60, [.t 0], (.sq (.rg [kG 0 (.mv kU)]) (.sq (.rg [kG 7 (.bd [ii 0, ii 0, ii 0, ii 0, ii 0, ii 0] [(0, 1, (kI 1)), (1, 1, (kI 1)), (2, 1, (kI 8)), (3, 1, (kI 1)), (5, 1, (kI 1))]), kG 8 (.ca 46 [.t 7]), kM 1 8]) (.sq (.sq (.rg [kM 9 1, kG 10 (.en 0 false (.t 9) kP)]) (.cd (.t 10) (.sq (.rg [kG 0 (.mv kU)]) .rt) .sk)) (.sq (.rg [kM 12 1, kG 13 (.ca 54 [.t 12, (kI 0), (kI 0), (kI 1)]), kM 11 13, kG 14 (.ex (.t 11) 0), kG 15 (.ex (.t 11) 1), kG 16 (.ex (.t 11) 2), kM 2 14, kM 3 15, kM 4 16]) (.sq (.sq (.rg [kM 17 4, kG 18 (.nt (.t 17))]) (.cd (.t 18) (.sq (.rg [kG 0 (.mv kU)]) .rt) .sk)) (.sq (.rg [kM 20 1, kM 21 2, kM 22 3, kG 23 (.ca 49 [.t 20, (kI 0), .t 21, .t 22]), kM 19 23, kG 24 (.ex (.t 19) 0), kG 25 (.ex (.t 19) 1), kM 5 24, kM 6 25]) (.sq (.rg [kM 26 5, kG 27 (.en 0 true (.t 26) kP), kM 28 27, kH 29 28 true (.mv (.t 6)), kH 30 28 true (.ib .eql (.t 29) (kI 5)), kG 31 (.pk (.t 28) (.t 30) kU), kM 32 31, kH 33 32 true (.mv (.t 5)), kH 34 32 true (.ca 56 [.t 33]), kG 35 (.pk (.t 32) (.t 34) kU), kM 36 35, kH 37 36 true (.mv (.t 5)), kH 38 36 true (.ca 50 [.t 37]), kH 39 36 true (.ib .eql (.t 38) (kI 0)), kG 40 (.pk (.t 36) (.t 39) kU), kM 41 40, kH 42 41 true (.mv (.t 5)), kH 43 41 true (.ca 51 [.t 42]), kH 44 41 true (.ib .eql (.t 43) (kI 2)), kG 45 (.pk (.t 41) (.t 44) kU), kM 46 45, kH 47 46 true (.mv (.t 5)), kH 48 46 true (.ca 52 [.t 47]), kH 49 46 true (.ib .eql (.t 48) (kI 5)), kG 50 (.pk (.t 46) (.t 49) kU), kM 51 50, kH 52 51 true (.mv (.t 1)), kH 53 51 true (.nc (.t 52)), kH 54 51 true (.fa (.t 53) 7), kH 55 51 true (.ld (.t 54) 1 false), kH 56 51 true (.ca 53 [.t 55]), kH 57 51 true (.len (.t 56)), kH 58 51 true (.ib .eql (.t 57) (kI 1)), kG 59 (.pk (.t 51) (.t 58) kU), kM 0 59]) .rt)))))))⟩
theorem k45 : kQ Tryz.f45 c45 := kr_
def c46 : Fu := ⟨144, [.t 2], (.sq (.rg [kG 1 (.bx 24 (.t 0)), kG 2 (.mv kP)]) (.sq (.rg [kG 18 (.ld (.t 1) 6 true), kG 19 (.ca 17 [.t 18]), kG 20 (.ca 15 [.t 19]), kM 17 20, kG 21 (.ex (.t 17) 0), kG 22 (.ex (.t 17) 1), kM 3 21, kM 4 22]) (.sq (.sq (.rg [kM 23 3, kG 24 (.en 0 false (.t 23) kP), kM 25 24, kH 26 25 false (.mv (.t 4)), kH 27 25 false (.ib .neq (.t 26) (kI 0)), kG 28 (.pk (.t 25) kT (.t 27))]) (.cd (.t 28) (.sq (.rg [kG 2 (.mv kP)]) .rt) .sk)) (.sq (.rg [kM 30 3, kG 31 (.ld (.t 1) 6 true), kG 32 (.ca 69 [.t 30, .t 31]), kM 29 32, kG 33 (.ex (.t 29) 0), kG 34 (.ex (.t 29) 1), kM 5 33, kM 6 34]) (.sq (.rg [kM 36 3, kG 37 (.ld (.t 1) 6 true), kG 38 (.ca 70 [.t 36, .t 37]), kM 35 38, kG 39 (.ex (.t 35) 0), kG 40 (.ex (.t 35) 1), kM 7 39, kM 8 40]) (.sq (.rg [kM 42 3, kG 43 (.ld (.t 1) 6 true), kG 44 (.ca 18 [.t 42, .t 43]), kM 41 44, kG 45 (.ex (.t 41) 0), kG 46 (.ex (.t 41) 1), kM 9 45, kM 10 46]) (.sq (.rg [kM 48 3, kG 49 (.ld (.t 1) 6 true), kG 50 (.ca 47 [.t 48, .t 49]), kM 47 50, kG 51 (.ex (.t 47) 0), kG 52 (.ex (.t 47) 1), kM 11 51, kM 12 52]) (.sq (.sq (.rg [kM 53 5, kG 54 (.en 0 false (.t 53) kP), kM 55 54, kH 56 55 false (.mv (.t 6)), kH 57 55 false (.ib .neq (.t 56) (kI 0)), kG 58 (.pk (.t 55) kT (.t 57)), kM 59 58, kH 60 59 false (.mv (.t 7)), kH 61 59 false (.en 0 false (.t 60) kP), kG 62 (.pk (.t 59) kT (.t 61)), kM 63 62, kH 64 63 false (.mv (.t 8)), kH 65 63 false (.ib .neq (.t 64) (kI 0)), kG 66 (.pk (.t 63) kT (.t 65)), kM 67 66, kH 68 67 false (.mv (.t 9)), kH 69 67 false (.en 0 false (.t 68) kP), kG 70 (.pk (.t 67) kT (.t 69)), kM 71 70, kH 72 71 false (.mv (.t 10)), kH 73 71 false (.ib .neq (.t 72) (kI 0)), kG 74 (.pk (.t 71) kT (.t 73)), kM 75 74, kH 76 75 false (.mv (.t 11)), kH 77 75 false (.en 0 false (.t 76) kP), kG 78 (.pk (.t 75) kT (.t 77)), kM 79 78, kH 80 79 false (.mv (.t 12)), kH 81 79 false (.ib .neq (.t 80) (kI 0)), kG 82 (.pk (.t 79) kT (.t 81)), kM 83 82, kH 84 83 false (.mv (.t 5)), kH 85 83 false (.ca 71 [.t 84]), kH 86 83 false (.en 0 false (.t 85) kP), kG 87 (.pk (.t 83) kT (.t 86))]) (.cd (.t 87) (.sq (.rg [kG 2 (.mv kP)]) .rt) .sk)) (.sq (.rg [kM 88 5, kG 89 (.ca 72 [.t 88])]) (.sq (.rg [kM 90 7, kG 91 (.ca 73 [.t 90])]) (.sq (.rd [jG 0 0 [1] 92 (.ld (.t 1) 6 true), jM 1 0 93 3, jM 2 0 94 7, jM 3 0 95 9, jM 4 0 96 11, jM 5 0 97 5, jG 6 32 [97] 98 (.ca 71 [.t 97]), jG 7 0 [1] 99 (.ld (.t 1) 6 true), jG 8 224 [99] 100 (.ca 74 [.t 99]), jG 9 511 [92, 93, 94, 95, 96, 98, 100] 101 (.bd [ii 0, ii 0, ii 0, ii 0, ii 0, ii 0, (.pointer none), (.pointer none), (.pointer none), (.pointer none), (.pointer none), (.slice none 0 0), (.pointer none), (.slice none 0 0)] [(0, 6, (.t 92)), (6, 1, (.t 93)), (7, 1, (.t 94)), (8, 1, (.t 95)), (9, 1, (.t 96)), (10, 1, (.t 98)), (12, 1, (.t 100))]), jG 10 1023 [101] 102 (.bx 97 (.t 101)), jM 11 2047 13 102]) (.sq (.sq (.rg [kG 14 (.mv (kI 0))]) (.bl 0 (.lp (.sq (.sq (.rg [kM 103 14, kG 104 (.ib .lss (.t 103) (kI 3))]) (.cd (.t 104) .sk (.ex 0))) (.sq (.bl 1 (.sq (.rg [kM 108 3, kG 109 (.ld (.t 1) 6 true), kG 110 (.ca 75 [.t 108, .t 109]), kM 107 110, kG 111 (.ex (.t 107) 0), kG 112 (.ex (.t 107) 1), kM 15 111, kM 16 112]) (.sq (.sq (.rg [kM 113 15, kG 114 (.en 0 false (.t 113) kP), kM 115 114, kH 116 115 false (.mv (.t 16)), kH 117 115 false (.ib .neq (.t 116) (kI 0)), kG 118 (.pk (.t 115) kT (.t 117))]) (.cd (.t 118) (.sq (.rg [kG 2 (.mv kP)]) .rt) .sk)) (.sq (.rg [kM 119 13, kM 120 13, kN 121 120, kF 122 121 11, kL 123 122, kM 124 15, kG 125 (.bs 47 1 [(.pointer none)] [(0, 1, (.t 124))]), kG 126 (.ap 41 47 1 8 [(.pointer none)] (.t 123) (.t 125)), kN 127 119, kF 128 127 11, kS (.st (.t 128) (.t 126) 1)]) (.rd [jM 0 0 129 13, jM 1 0 130 13, jN 2 2 131 130, jF 3 6 132 131 13, jL 4 14 133 132, jM 5 0 134 13, jN 6 32 135 134, jF 7 96 136 135 12, jL 8 224 137 136, jG 9 480 [137] 138 (.ca 76 [.t 137]), jG 10 992 [138] 139 (.bs 81 1 [(.pointer none)] [(0, 1, (.t 138))]), jG 11 2046 [133, 139] 140 (.ap 43 81 1 8 [(.pointer none)] (.t 133) (.t 139)), jN 12 4095 141 129, jF 13 8191 142 141 13, ⟨14, 16383, [142, 140], kS (.st (.t 142) (.t 140) 1)⟩]))))) (.rg [kM 105 14, kG 106 (.ib .add (.t 105) (kI 1)), kM 14 106])))))) (.sq (.rg [kM 143 13, kM 2 143]) .rt)))))))))))))⟩
theorem k46 : kQ Tryz.f46 c46 := kr_
def c47 : Fu := ⟨32, [.t 4, .t 5], (.sq (.rg [kG 3 (.bx 24 (.t 1)), kG 4 (.mv kP), kG 5 (.mv (kI 0))]) (.sq (.rg [kM 10 0, kG 11 (.ld (.t 3) 6 true), kG 12 (.ca 70 [.t 10, .t 11]), kM 9 12, kG 13 (.ex (.t 9) 0), kG 14 (.ex (.t 9) 1), kM 6 13, kM 7 14]) (.sq (.sq (.rg [kM 15 7, kG 16 (.ib .neq (.t 15) (kI 0))]) (.cd (.t 16) (.sq (.rg [kM 17 7, kG 4 (.mv kP), kM 5 17]) .rt) .sk)) (.sq (.rg [kM 19 0, kG 20 (.ld (.t 3) 6 true), kG 21 (.ca 69 [.t 19, .t 20]), kM 18 21, kG 22 (.ex (.t 18) 0), kG 23 (.ex (.t 18) 1), kM 8 22, kM 7 23]) (.sq (.sq (.rg [kM 24 7, kG 25 (.ib .neq (.t 24) (kI 0))]) (.cd (.t 25) (.sq (.rg [kM 26 7, kG 4 (.mv kP), kM 5 26]) .rt) .sk)) (.sq (.rg [kM 27 0, kM 28 6, kM 29 8, kG 30 (.bd [(.pointer none), (.pointer none), (.pointer none)] [(0, 1, (.t 27)), (1, 1, (.t 28)), (2, 1, (.t 29))]), kG 31 (.bx 197 (.t 30)), kM 4 31, kG 5 (.mv (kI 0))]) .rt))))))⟩
theorem k47 : kQ Tryz.f47 c47 := kr_
def c48 : Fu := ⟨43, [.t 8, .t 9], (.sq (.rg [kG 8 (.mv kP), kG 9 (.mv (kI 0))]) (.sq (.rg [kM 14 0, kN 15 14, kF 16 15 1, kL 17 16, kM 18 2, kM 19 3, kG 20 (.ca 35 [.t 17, .t 18, .t 19]), kM 13 20, kG 21 (.ex (.t 13) 0), kG 22 (.ex (.t 13) 1), kM 10 21, kM 11 22]) (.sq (.sq (.rg [kM 23 11, kG 24 (.ib .neq (.t 23) (kI 0))]) (.cd (.t 24) (.sq (.rg [kM 25 11, kG 8 (.mv kP), kM 9 25]) .rt) .sk)) (.sq (.rg [kM 26 0, kM 27 1, kM 28 2, kM 29 10, kG 30 (.bd [.nilFunc, .nilFunc, .nilFunc, .nilFunc, ii 0, (.pointer none), (.pointer none), ii 0, (.pointer none), (.pointer none), (.pointer none), ii 0, ii 0, ii 0, ii 0, ii 0, ii 0] [(5, 1, (.t 26)), (6, 1, (.t 27)), (7, 1, (.t 28)), (8, 1, (.t 29)), (12, 1, (.c (ii (-1)))), (13, 1, (.c (ii (-1))))]), kG 31 (.bx 200 (.t 30)), kM 12 31]) (.sq (.rg [kM 32 12, kN 33 32, kF 34 33 0, kM 35 10, kG 36 (.mf (.func 32) [.t 35] []), kM 37 10, kG 38 (.mf (.func 34) [.t 37] []), kM 39 12, kG 40 (.mf (.func 120) [.t 39] []), kG 41 (.ca 119 [.t 34, .t 36, .t 38, .t 40])]) (.sq (.rg [kM 42 12, kM 8 42, kG 9 (.mv (kI 0))]) .rt))))))⟩
theorem k48 : kQ Tryz.f48 c48 := kr_
def c49 : Fu := ⟨49, [.t 8, .t 9], (.sq (.rg [kG 8 (.mv kP), kG 9 (.mv (kI 0))]) (.sq (.rd [jM 0 0 15 0, jN 1 1 16 15, jF 2 3 17 16 9, jL 3 7 18 17, jM 4 0 19 0, jN 5 16 20 19, jF 6 48 21 20 11, jL 7 112 22 21, jM 8 0 23 1, jG 9 496 [22, 23] 24 (.ia (.t 22) (.t 23) 1), jL 10 1008 25 24, jM 11 0 26 2, jM 12 0 27 3, jG 13 8191 [18, 25, 26, 27] 28 (.ca 48 [.t 18, .t 25, .t 26, .t 27]), jM 14 16383 14 28, jG 15 32767 [14] 29 (.ex (.t 14) 0), jG 16 32767 [14] 30 (.ex (.t 14) 1), jM 17 65535 10 29, jM 18 262143 11 30]) (.sq (.sq (.rg [kM 31 10, kG 32 (.en 0 false (.t 31) kP), kM 33 32, kH 34 33 false (.mv (.t 11)), kH 35 33 false (.ib .neq (.t 34) (kI 0)), kG 36 (.pk (.t 33) kT (.t 35))]) (.cd (.t 36) (.sq (.rg [kG 8 (.mv kP), kG 9 (.mv (.c (ii (-1))))]) .rt) .sk)) (.sq (.rg [kG 12 (.mv (kI 0))]) (.sq (.sq (.rg [kG 13 (.mv (kI 0))]) (.bl 0 (.lp (.sq (.sq (.rg [kM 37 13, kG 38 (.ib .lss (.t 37) (kI 400)), kM 39 38, kH 40 39 true (.mv (.t 10)), kH 41 39 true (.ca 55 [.t 40]), kG 42 (.pk (.t 39) (.t 41) kU)]) (.cd (.t 42) .sk (.ex 0))) (.sq (.bl 1 (.rg [kM 45 12, kG 46 (.ib .add (.t 45) (kI 1)), kM 12 46])) (.rg [kM 43 13, kG 44 (.ib .add (.t 43) (kI 1)), kM 13 44])))))) (.sq (.rg [kM 47 10, kM 48 12, kM 8 47, kM 9 48]) .rt))))))⟩
theorem k49 : kQ Tryz.f49 c49 := kr_
def c50 : Fu := ⟨10, [.t 2], (.sq (.rg [kG 2 (.mv (kI 0))]) (.sq (.sq (.rg [kM 3 0, kG 4 (.ca 56 [.t 3]), kG 5 (.nt (.t 4))]) (.cd (.t 5) (.sq (.rg [kG 2 (.mv (kI 0))]) .rt) .sk)) (.sq (.rg [kM 6 0, kN 7 6, kF 8 7 16, kL 9 8, kM 2 9]) .rt)))⟩
theorem k50 : kQ Tryz.f50 c50 := kr_
def c51 : Fu := ⟨7, [.t 2], (.sq (.rg [kG 2 (.mv (kI 0))]) (.sq (.rg [kM 3 0, kN 4 3, kF 5 4 14, kL 6 5, kM 2 6]) .rt))⟩
theorem k51 : kQ Tryz.f51 c51 := kr_
def c52 : Fu := ⟨7, [.t 2], (.sq (.rg [kG 2 (.mv (kI 0))]) (.sq (.rg [kM 3 0, kN 4 3, kF 5 4 15, kL 6 5, kM 2 6]) .rt))⟩
theorem k52 : kQ Tryz.f52 c52 := kr_
def c53 : Fu := ⟨8, [.t 2], (.sq (.rg [kG 2 (.mv (.c (.slice none 0 0)))]) (.sq (.rg [kM 3 0, kN 4 3, kF 5 4 7, kL 6 5, kG 7 (.ca 31 [.t 6]), kM 2 7]) .rt))⟩
theorem k53 : kQ Tryz.f53 c53 := kr_
def c54 : Fu := ⟨132, [.t 8, .t 9, .t 10], (.sq (.rg [kG 8 (.mv (kI 0)), kG 9 (.mv (kI 0)), kG 10 (.mv kU)]) (.sq (.rd [jM 0 0 21 0, jN 1 1 22 21, jF 2 3 23 22 7, jL 3 7 24 23, jG 4 15 [24] 25 (.ca 84 [.t 24, (kI 0)]), jM 5 0 26 0, jN 6 32 27 26, jF 7 96 28 27 12, jL 8 224 29 28, jG 9 511 [29] 30 (.ca 85 [.t 29, (kI 0)]), jM 10 1023 11 25, jM 11 2047 12 30]) (.sq (.sq (.rg [kM 31 11, kG 32 (.en 0 false (.t 31) kP)]) (.cd (.t 32) (.sq (.rg [kG 8 (.mv (kI 0)), kG 9 (.mv (kI 0)), kG 10 (.mv kU)]) .rt) .sk)) (.sq (.sq (.rg [kG 13 (.mv (kI 0))]) (.bl 0 (.lp (.sq (.sq (.rg [kM 33 13, kG 34 (.ib .lss (.t 33) (kI 10))]) (.cd (.t 34) .sk (.ex 0))) (.sq (.bl 1 (.sq (.rg [kM 37 11, kG 38 (.ca 86 [.t 37])]) (.rg [kM 39 12, kG 40 (.ca 87 [.t 39])]))) (.rg [kM 35 13, kG 36 (.ib .add (.t 35) (kI 1)), kM 13 36])))))) (.sq (.rg [kM 42 11, kG 43 (.ca 88 [.t 42]), kM 41 43, kG 44 (.ex (.t 41) 0), kG 45 (.ex (.t 41) 1), kM 14 44, kM 15 45]) (.sq (.sq (.rg [kM 46 11, kG 47 (.ca 89 [.t 46]), kG 48 (.nt (.t 47)), kM 49 48, kH 50 49 false (.mv (.t 11)), kH 51 49 false (.ca 90 [.t 50]), kH 52 49 false (.ib .neq (.t 51) (kI 0)), kG 53 (.pk (.t 49) kT (.t 52)), kM 54 53, kH 55 54 false (.mv (.t 14)), kH 56 54 false (.mv (.t 12)), kH 57 54 false (.nc (.t 56)), kH 58 54 false (.fa (.t 57) 5), kH 59 54 false (.ld (.t 58) 1 false), kH 60 54 false (.ib .neq (.t 55) (.t 59)), kG 61 (.pk (.t 54) kT (.t 60)), kM 62 61, kH 63 62 false (.mv (.t 15)), kH 64 62 false (.mv (.t 12)), kH 65 62 false (.nc (.t 64)), kH 66 62 false (.fa (.t 65) 6), kH 67 62 false (.ld (.t 66) 1 false), kH 68 62 false (.ib .neq (.t 63) (.t 67)), kG 69 (.pk (.t 62) kT (.t 68))]) (.cd (.t 69) (.sq (.rg [kG 8 (.mv (kI 0)), kG 9 (.mv (kI 0)), kG 10 (.mv kU)]) .rt) .sk)) (.sq (.sq (.rg [kG 16 (.mv (kI 0))]) (.bl 2 (.lp (.sq (.sq (.rg [kM 70 16, kM 71 2, kG 72 (.ib .lss (.t 70) (.t 71))]) (.cd (.t 72) .sk (.ex 2))) (.sq (.bl 3 (.sq (.rd [jM 0 0 76 0, jN 1 1 77 76, jF 2 3 78 77 8, jL 3 7 79 78, jM 4 0 80 0, jN 5 16 81 80, jF 6 48 82 81 11, jL 7 112 83 82, jM 8 0 84 1, jG 9 496 [83, 84] 85 (.ia (.t 83) (.t 84) 1), jL 10 1008 86 85, jM 11 0 87 14, jM 12 0 88 15, jM 13 0 89 3, jG 14 16383 [79, 86, 87, 88, 89] 90 (.ca 19 [.t 79, .t 86, .t 87, .t 88, .t 89]), jM 15 32767 75 90, jG 16 65535 [75] 91 (.ex (.t 75) 0), jG 17 65535 [75] 92 (.ex (.t 75) 1), jM 18 131071 17 91, jM 19 524287 18 92]) (.sq (.rg [kM 93 0, kN 94 93, kF 95 94 13, kL 96 95, kM 97 1, kG 98 (.ia (.t 96) (.t 97) 1), kL 99 98, kM 100 14, kM 101 15, kM 102 3, kG 103 (.ca 37 [.t 99, .t 100, .t 101, .t 102]), kM 19 103]) (.sq (.sq (.rg [kM 104 17, kG 105 (.en 0 false (.t 104) kP), kM 106 105, kH 107 106 false (.mv (.t 18)), kH 108 106 false (.ib .neq (.t 107) (kI 0)), kG 109 (.pk (.t 106) kT (.t 108))]) (.cd (.t 109) (.sq (.rg [kG 8 (.mv (kI 0)), kG 9 (.mv (kI 0)), kG 10 (.mv kU)]) .rt) .sk)) (.sq (.sq (.rg [kG 20 (.mv (kI 0))]) (.bl 4 (.lp (.sq (.sq (.rg [kM 110 20, kG 111 (.ib .lss (.t 110) (kI 200)), kM 112 111, kH 113 112 true (.mv (.t 19)), kH 114 112 true (.ca 38 [.t 113]), kG 115 (.pk (.t 112) (.t 114) kU)]) (.cd (.t 115) .sk (.ex 4))) (.sq (.bl 5 (.rg [kM 118 17, kG 119 (.ca 26 [.t 118])])) (.rg [kM 116 20, kG 117 (.ib .add (.t 116) (kI 1)), kM 20 117])))))) (.sq (.rg [kM 120 17, kG 121 (.ca 27 [.t 120]), kG 122 (.nt (.t 121)), kM 123 122, kH 124 123 false (.mv (.t 19)), kH 125 123 false (.nc (.t 124)), kH 126 123 false (.fa (.t 125) 20), kH 127 123 false (.ld (.t 126) 1 false), kH 128 123 false (.nt (.t 127)), kG 129 (.pk (.t 123) kT (.t 128))]) (.cd (.t 129) (.sq (.rg [kG 8 (.mv (kI 0)), kG 9 (.mv (kI 0)), kG 10 (.mv kU)]) .rt) .sk))))))) (.rg [kM 73 16, kG 74 (.ib .add (.t 73) (kI 1)), kM 16 74])))))) (.sq (.rg [kM 130 14, kM 131 15, kM 8 130, kM 9 131, kG 10 (.mv kT)]) .rt))))))))⟩
theorem k54 : kQ Tryz.f54 c54 := kr_
def c55 : Fu := ⟨7, [.t 2], (.sq (.rg [kG 2 (.mv kU)]) (.sq (.rg [kM 3 0, kN 4 3, kF 5 4 0, kG 6 (.ca 91 [.t 5]), kM 2 6]) .rt))⟩
theorem k55 : kQ Tryz.f55 c55 := kr_
def c56 : Fu := ⟨7, [.t 2], (.sq (.rg [kG 2 (.mv kU)]) (.sq (.rg [kM 3 0, kN 4 3, kF 5 4 0, kG 6 (.ca 92 [.t 5]), kM 2 6]) .rt))⟩
theorem k56 : kQ Tryz.f56 c56 := kr_
def c57 : Fu := ⟨14, [.t 4, .t 5], (.sq (.rg [kG 4 (.mv (kI 0)), kG 5 (.mv (.c (.slice none 0 0)))]) (.sq (.rg [kM 6 0, kN 7 6, kF 8 7 9, kL 9 8, kM 10 1, kG 11 (.ca 121 [.t 9, .t 10]), kG 12 (.ex (.t 11) 0), kG 13 (.ex (.t 11) 1), kM 4 12, kM 5 13]) .rt))⟩
theorem k57 : kQ Tryz.f57 c57 := kr_
def c58 : Fu := ⟨17, [.t 6], (.sq (.rg [kG 6 (.mv kP)]) (.sq (.rg [kM 7 0, kM 8 0, kN 9 8, kF 10 9 0, kL 11 10, kM 12 1, kM 13 2, kG 14 (.ca 36 [.t 11, .t 12, .t 13]), kG 15 (.bd [(.pointer none), ii 0, ii 0, ii 0, ii 0, ii 0, (.pointer none), (.pointer none), (.pointer none), (.pointer none), ii 0, (.bool false)] [(0, 1, (.t 7)), (6, 1, (.t 14))]), kG 16 (.bx 120 (.t 15)), kM 6 16]) .rt))⟩
theorem k58 : kQ Tryz.f58 c58 := kr_
def c59 : Fu := ⟨196, [.t 2], (.sq (.rg [kG 2 (.mv kU)]) (.sq (.sq (.rg [kM 4 0, kN 5 4, kF 6 5 11, kL 7 6]) (.cd (.t 7) (.sq (.rg [kG 2 (.mv kU)]) .rt) .sk)) (.sq (.rg [kM 8 0, kN 9 8, kF 10 9 2, kL 11 10, kG 12 (.ib .add (.t 11) (kI 1)), kN 13 8, kF 14 13 2, kS (.st (.t 14) (.t 12) 1)]) (.sq (.rg [kM 15 0, kN 16 15, kF 17 16 0, kL 18 17, kN 19 18, kF 20 19 0, kL 21 20, kM 3 21]) (.sq (.sq (.rg [kM 22 0, kN 23 22, kF 24 23 1, kL 25 24]) (.bl 0 (.sq (.rg [kG 42 (.ib .eql (.t 25) (kI 0)), kM 41 42]) (.cd (.t 41) (.sq (.rg [kM 43 0, kN 44 43, kF 45 44 6, kL 46 45, kG 47 (.ca 33 [.t 46])]) (.sq (.sq (.rg [kM 48 0, kN 49 48, kF 50 49 6, kL 51 50, kN 52 51, kF 53 52 9, kL 54 53, kG 55 (.nt (.t 54))]) (.cd (.t 55) (.sq (.rg [kG 2 (.mv kT)]) .rt) .sk)) (.sq (.rd [jM 0 0 56 0, jM 1 0 57 0, jM 2 0 58 0, jN 3 4 59 58, jF 4 12 60 59 2, jL 5 28 61 60, jM 6 0 62 0, jN 7 64 63 62, jF 8 192 64 63 6, jL 9 448 65 64, jN 10 960 66 65, jF 11 1984 67 66 8, jL 12 4032 68 67, jN 13 8189 69 56, jF 14 16381 70 69 3, ⟨15, 32765, [70, 61], kS (.st (.t 70) (.t 61) 1)⟩, jN 16 65535 71 57, jF 17 131071 72 71 10, ⟨18, 262143, [72, 68], kS (.st (.t 72) (.t 68) 1)⟩]) (.bl 1 (.sq (.rg [kM 76 0, kN 77 76, kF 78 77 10, kL 79 78, kG 80 (.ib .neq (.t 79) (kI 0)), kM 75 80]) (.cd (.t 75) (.rg [kM 81 0, kN 82 81, kF 83 82 11, kS (.st (.t 83) kT 1)]) (.sq (.rg [kM 85 0, kN 86 85, kF 87 86 6, kL 88 87, kN 89 88, kF 90 89 6, kL 91 90, kG 92 (.ib .geq (.t 91) (kI 0)), kM 84 92]) (.cd (.t 84) (.rg [kM 93 0, kN 94 93, kF 95 94 1, kS (.st (.t 95) (kI 1) 1)]) (.rg [kM 73 0, kG 74 (.ca 122 [.t 73])]))))))))) (.sq (.rg [kG 97 (.ib .eql (.t 25) (kI 1)), kM 96 97]) (.cd (.t 96) (.sq (.rg [kM 98 0, kM 99 3, kN 100 99, kF 101 100 6, kL 102 101, kG 103 (.ca 98 [.t 102, (kI 2)]), kG 104 (.ca 123 [.t 103]), kN 105 98, kF 106 105 5, kS (.st (.t 106) (.t 104) 1)]) (.rg [kM 107 0, kM 108 0, kM 109 3, kM 110 0, kN 111 110, kF 112 111 6, kL 113 112, kN 114 113, kF 115 114 6, kL 116 115, kG 117 (.ca 124 [.t 109, .t 116]), kN 118 107, kF 119 118 7, kS (.st (.t 119) (.t 117) 1), kN 120 108, kF 121 120 1, kS (.st (.t 121) (kI 2) 1)])) (.sq (.rg [kG 123 (.ib .eql (.t 25) (kI 2)), kM 122 123]) (.cd (.t 122) (.sq (.rg [kM 124 0, kN 125 124, kF 126 125 7, kL 127 126, kG 128 (.ca 125 [.t 127])]) (.sq (.rg [kM 129 0, kN 130 129, kF 131 130 7, kL 132 131, kN 133 132, kF 134 133 2, kL 135 134]) (.cd (.t 135) (.sq (.rd [jM 0 0 136 0, jN 1 1 137 136, jF 2 3 138 137 0, jL 3 7 139 138, jM 4 0 140 0, jN 5 16 141 140, jF 6 48 142 141 5, jL 7 112 143 142, jM 8 0 144 0, jN 9 256 145 144, jF 10 768 146 145 7, jL 11 1792 147 146, jN 12 3840 148 147, jF 13 7936 149 148 1, jL 14 16128 150 149, jG 15 32767 [139, 143, 150] 151 (.ca 126 [.t 139, .t 143, .t 150])]) (.rg [kM 152 0, kG 153 (.ca 122 [.t 152])])) .sk))) (.sq (.rg [kG 155 (.ib .eql (.t 25) (kI 3)), kM 154 155]) (.cd (.t 154) (.sq (.rg [kM 156 0, kN 157 156, kF 158 157 8, kL 159 158, kG 160 (.ca 127 [.t 159])]) (.sq (.rg [kM 161 0, kN 162 161, kF 163 162 8, kL 164 163, kN 165 164, kF 166 165 4, kL 167 166]) (.cd (.t 167) (.sq (.rg [kM 168 0, kM 169 0, kN 170 169, kF 171 170 2, kL 172 171, kN 173 168, kF 174 173 4, kS (.st (.t 174) (.t 172) 1)]) (.sq (.rg [kM 175 0, kM 176 0, kM 177 0, kN 178 177, kF 179 178 0, kL 180 179, kG 181 (.ca 128 [.t 180]), kN 182 175, kF 183 182 9, kS (.st (.t 183) (.t 181) 1), kN 184 176, kF 185 184 1, kS (.st (.t 185) (kI 4) 1)]) (.rg [kM 186 0, kM 187 0, kN 188 187, kF 189 188 9, kL 190 189, kN 191 190, kF 192 191 2, kL 193 192, kN 194 186, kF 195 194 11, kS (.st (.t 195) (.t 193) 1)]))) .sk))) (.sq (.rg [kM 26 0, kN 27 26, kF 28 27 9, kL 29 28, kG 30 (.ca 114 [.t 29])]) (.rg [kM 31 0, kM 32 0, kN 33 32, kF 34 33 9, kL 35 34, kN 36 35, kF 37 36 2, kL 38 37, kN 39 31, kF 40 39 11, kS (.st (.t 40) (.t 38) 1)])))))))))))) (.sq (.rg [kG 2 (.mv kT)]) .rt))))))⟩
theorem k59 : kQ Tryz.f59 c59 := kr_
def c60 : Fu := ⟨7, [.t 2], (.sq (.rg [kG 2 (.mv (kI 0))]) (.sq (.rg [kM 3 0, kN 4 3, kF 5 4 13, kL 6 5, kM 2 6]) .rt))⟩
theorem k60 : kQ Tryz.f60 c60 := kr_
def c61 : Fu := ⟨22, [.t 2], (.sq (.rg [kG 2 (.mv (kI 0))]) (.sq (.sq (.rg [kM 3 0, kN 4 3, kF 5 4 1, kL 6 5, kG 7 (.ib .geq (.t 6) (kI 1)), kM 8 7, kH 9 8 true (.mv (.t 0)), kH 10 8 true (.nc (.t 9)), kH 11 8 true (.fa (.t 10) 1), kH 12 8 true (.ld (.t 11) 1 false), kH 13 8 true (.ib .leq (.t 12) (kI 3)), kG 14 (.pk (.t 8) (.t 13) kU)]) (.cd (.t 14) (.sq (.rg [kM 15 0, kN 16 15, kF 17 16 6, kL 18 17, kN 19 18, kF 20 19 1, kL 21 20, kM 2 21]) .rt) .sk)) (.sq (.rg [kG 2 (.mv (.c (ii (-1))))]) .rt)))⟩
theorem k61 : kQ Tryz.f61 c61 := kr_
def c62 : Fu := ⟨26, [.t 4], (.sq (.rg [kG 4 (.mv kU)]) (.sq (.sq (.rg [kM 6 0, kG 7 (.len (.t 6)), kM 8 1, kG 9 (.len (.t 8)), kG 10 (.ib .neq (.t 7) (.t 9))]) (.cd (.t 10) (.sq (.rg [kG 4 (.mv kU)]) .rt) .sk)) (.sq (.sq (.rg [kG 5 (.mv (kI 0))]) (.bl 0 (.lp (.sq (.sq (.rg [kM 11 5, kM 12 0, kG 13 (.len (.t 12)), kG 14 (.ib .lss (.t 11) (.t 13))]) (.cd (.t 14) .sk (.ex 0))) (.sq (.bl 1 (.sq (.rd [jM 0 0 17 0, jM 1 0 18 5, jG 2 3 [17, 18] 19 (.ia (.t 17) (.t 18) 1), jL 3 7 20 19, jM 4 0 21 1, jM 5 0 22 5, jG 6 48 [21, 22] 23 (.ia (.t 21) (.t 22) 1), jL 7 112 24 23, jG 8 255 [20, 24] 25 (.ib .neq (.t 20) (.t 24))]) (.cd (.t 25) (.sq (.rg [kG 4 (.mv kU)]) .rt) .sk))) (.rg [kM 15 5, kG 16 (.ib .add (.t 15) (kI 1)), kM 5 16])))))) (.sq (.rg [kG 4 (.mv kT)]) .rt))))⟩
theorem k62 : kQ Tryz.f62 c62 := kr_
def c63 : Fu := ⟨32, [.t 2], (.sq (.rg [kG 2 (.mv (.c (.slice none 0 0)))]) (.sq (.bl 0 (.sq (.rg [kM 4 0, kN 5 4, kF 6 5 10, kL 7 6, kG 8 (.en 0 true (.t 7) kP), kM 3 8]) (.cd (.t 3) (.sq (.rg [kM 9 0, kN 10 9, kF 11 10 10, kL 12 11, kG 13 (.ca 117 [.t 12]), kM 2 13]) .rt) (.sq (.rg [kM 15 0, kN 16 15, kF 17 16 12, kL 18 17, kG 19 (.ib .geq (.t 18) (kI 0)), kM 14 19]) (.cd (.t 14) (.sq (.rd [jM 0 0 20 0, jN 1 1 21 20, jF 2 3 22 21 5, jL 3 7 23 22, jN 4 15 24 23, jF 5 31 25 24 2, jL 6 63 26 25, jM 7 0 27 0, jN 8 128 28 27, jF 9 384 29 28 12, jL 10 896 30 29, jG 11 2047 [26, 30] 31 (.ca 129 [.t 26, .t 30]), jM 12 4095 2 31]) .rt) .sk))))) (.sq (.rg [kG 2 (.mv (.c (.slice none 0 0)))]) .rt)))⟩
theorem k63 : kQ Tryz.f63 c63 := kr_
def c64 : Fu := ⟨32, [.t 2], (.sq (.rg [kG 2 (.mv (.c (.slice none 0 0)))]) (.sq (.sq (.rg [kM 3 0, kN 4 3, kF 5 4 1, kL 6 5]) (.bl 0 (.sq (.sq (.rg [kG 8 (.ib .eql (.t 6) (kI 1)), kM 7 8]) (.cd (.t 7) .sk (.rg [kG 9 (.ib .eql (.t 6) (kI 2)), kM 7 9]))) (.cd (.t 7) (.sq (.rd [jM 0 0 10 0, jN 1 1 11 10, jF 2 3 12 11 0, jL 3 7 13 12, jN 4 15 14 13, jF 5 31 15 14 0, jL 6 63 16 15, jM 7 0 17 0, jN 8 128 18 17, jF 9 384 19 18 6, jL 10 896 20 19, jN 11 1920 21 20, jF 12 3968 22 21 6, jL 13 8064 23 22, jG 14 16383 [16, 23] 24 (.ca 130 [.t 16, .t 23]), jM 15 32767 2 24]) .rt) (.sq (.rg [kG 26 (.ib .eql (.t 6) (kI 4)), kM 25 26]) (.cd (.t 25) (.sq (.rg [kM 27 0, kN 28 27, kF 29 28 9, kL 30 29, kG 31 (.ca 131 [.t 30]), kM 2 31]) .rt) .sk)))))) (.sq (.rg [kG 2 (.mv (.c (.slice none 0 0)))]) .rt)))⟩
theorem k64 : kQ Tryz.f64 c64 := kr_
def c65 : Fu := ⟨133, [.t 2], (.sq (.rg [kG 2 (.mv kU)]) (.sq (.sq (.rg [kG 3 (.mv (kI 0))]) (.bl 0 (.lp (.sq (.sq (.rg [kM 10 3, kM 11 0, kN 12 11, kF 13 12 12, kL 14 13, kN 15 14, kF 16 15 6, kL 17 16, kN 18 17, kF 19 18 0, kL 20 19, kG 21 (.len (.t 20)), kG 22 (.ib .lss (.t 10) (.t 21))]) (.cd (.t 22) .sk (.ex 0))) (.sq (.bl 1 (.sq (.rd [jM 0 0 25 0, jN 1 1 26 25, jF 2 3 27 26 6, jL 3 7 28 27, jM 4 0 29 3, jG 5 31 [28, 29] 30 (.ca 29 [.t 28, .t 29]), jM 6 0 31 0, jN 7 64 32 31, jF 8 192 33 32 12, jL 9 448 34 33, jN 10 960 35 34, jF 11 1984 36 35 6, jL 12 4032 37 36, jN 13 8128 38 37, jF 14 16320 39 38 0, jL 15 32704 40 39, jM 16 0 41 3, jG 17 131008 [40, 41] 42 (.ia (.t 40) (.t 41) 1), jL 18 262080 43 42, jG 19 524287 [30, 43] 44 (.ib .neq (.t 30) (.t 43))]) (.cd (.t 44) (.sq (.rg [kG 2 (.mv kU)]) .rt) .sk))) (.rg [kM 23 3, kG 24 (.ib .add (.t 23) (kI 1)), kM 3 24])))))) (.sq (.sq (.rg [kG 4 (.mv (kI 0))]) (.bl 2 (.lp (.sq (.sq (.rg [kM 45 4, kM 46 0, kN 47 46, kF 48 47 11, kL 49 48, kG 50 (.len (.t 49)), kG 51 (.ib .lss (.t 45) (.t 50))]) (.cd (.t 51) .sk (.ex 2))) (.sq (.bl 3 (.sq (.sq (.rd [jM 0 0 54 0, jN 1 1 55 54, jF 2 3 56 55 11, jL 3 7 57 56, jM 4 0 58 4, jG 5 31 [57, 58] 59 (.ia (.t 57) (.t 58) 1), jL 6 63 60 59, jG 7 127 [60] 61 (.ca 44 [.t 60]), jM 8 0 62 0, jN 9 256 63 62, jF 10 768 64 63 13, jL 11 1792 65 64, jM 12 0 66 4, jG 13 7936 [65, 66] 67 (.ia (.t 65) (.t 66) 1), jL 14 16128 68 67, jN 15 32512 69 68, jF 16 65280 70 69 1, jL 17 130816 71 70, jN 18 261888 72 71, jF 19 524032 73 72 1, jL 20 1048320 74 73, jG 21 2097151 [61, 74] 75 (.ca 62 [.t 61, .t 74]), jG 22 4194303 [75] 76 (.nt (.t 75))]) (.cd (.t 76) (.sq (.rg [kG 2 (.mv kU)]) .rt) .sk)) (.sq (.rg [kG 5 (.mv (kI 0))]) (.bl 4 (.lp (.sq (.sq (.rg [kM 77 5, kG 78 (.ib .lss (.t 77) (kI 3))]) (.cd (.t 78) .sk (.ex 4))) (.sq (.bl 5 (.sq (.rg [kM 82 0, kN 83 82, kF 84 83 11, kL 85 84, kM 86 4, kG 87 (.ia (.t 85) (.t 86) 1), kL 88 87, kM 89 5, kG 90 (.ca 57 [.t 88, .t 89]), kM 81 90, kG 91 (.ex (.t 81) 0), kG 92 (.ex (.t 81) 1), kM 6 91, kM 7 92]) (.sq (.rg [kM 94 0, kN 95 94, kF 96 95 13, kL 97 96, kM 98 4, kG 99 (.ia (.t 97) (.t 98) 1), kL 100 99, kN 101 100, kF 102 101 2, kL 103 102, kM 104 5, kG 105 (.ca 132 [.t 103, .t 104]), kM 93 105, kG 106 (.ex (.t 93) 0), kG 107 (.ex (.t 93) 1), kM 8 106, kM 9 107]) (.sq (.rg [kM 108 6, kM 109 8, kG 110 (.ib .neq (.t 108) (.t 109)), kM 111 110, kH 112 111 false (.mv (.t 7)), kH 113 111 false (.mv (.t 9)), kH 114 111 false (.ca 62 [.t 112, .t 113]), kH 115 111 false (.nt (.t 114)), kG 116 (.pk (.t 111) kT (.t 115))]) (.cd (.t 116) (.sq (.rg [kG 2 (.mv kU)]) .rt) .sk))))) (.rg [kM 79 5, kG 80 (.ib .add (.t 79) (kI 1)), kM 5 80])))))))) (.rg [kM 52 4, kG 53 (.ib .add (.t 52) (kI 1)), kM 4 53])))))) (.sq (.rd [jM 0 0 117 0, jN 1 1 118 117, jF 2 3 119 118 6, jL 3 7 120 119, jG 4 15 [120] 121 (.ca 116 [.t 120]), jM 5 0 122 0, jN 6 32 123 122, jF 7 96 124 123 12, jL 8 224 125 124, jN 9 480 126 125, jF 10 992 127 126 6, jL 11 2016 128 127, jN 12 4064 129 128, jF 13 8160 130 129 1, jL 14 16352 131 130, jG 15 32767 [121, 131] 132 (.ib .eql (.t 121) (.t 131)), jM 16 65535 2 132]) .rt))))⟩
theorem k65 : kQ Tryz.f65 c65 := kr_
def c66 : Fu := ⟨53, [.t 2], (.sq (.rg [kG 2 (.mv (.c (.slice none 0 0)))]) (.sq (.rg [kG 3 (.mv (.c (.slice none 0 0)))]) (.sq (.sq (.rd [jM 0 0 5 0, jM 1 0 6 0, jN 2 2 7 6, jF 3 6 8 7 0, jL 4 14 9 8, jN 5 30 10 9, jF 6 62 11 10 0, jL 7 126 12 11, jM 8 0 13 0, jN 9 256 14 13, jF 10 768 15 14 1, jL 11 1792 16 15, jG 12 4094 [12, 16] 17 (.ia (.t 12) (.t 16) 1), jL 13 8190 18 17, jG 14 16383 [5, 18] 19 (.ca 133 [.t 5, .t 18]), jM 15 32767 4 19]) (.bl 0 (.lp (.sq (.sq (.rg [kM 20 4, kG 21 (.ib .geq (.t 20) (kI 0)), kM 22 21, kH 23 22 true (.mv (.t 3)), kH 24 22 true (.len (.t 23)), kH 25 22 true (.mv (.t 0)), kH 26 22 true (.nc (.t 25)), kH 27 22 true (.fa (.t 26) 3), kH 28 22 true (.ld (.t 27) 1 false), kH 29 22 true (.ib .lss (.t 24) (.t 28)), kG 30 (.pk (.t 22) (.t 29) kU)]) (.cd (.t 30) .sk (.ex 0))) (.sq (.bl 1 (.rg [kM 48 3, kM 49 4, kG 50 (.bs 3 1 [ii 0] [(0, 1, (.t 49))]), kG 51 (.ap 53 3 1 8 [ii 0] (.t 48) (.t 50)), kM 3 51])) (.rd [jM 0 0 31 0, jM 1 0 32 0, jN 2 2 33 32, jF 3 6 34 33 0, jL 4 14 35 34, jN 5 30 36 35, jF 6 62 37 36 0, jL 7 126 38 37, jM 8 0 39 0, jN 9 256 40 39, jF 10 768 41 40 2, jL 11 1792 42 41, jM 12 0 43 4, jG 13 7936 [42, 43] 44 (.ib .add (.t 42) (.t 43)), jG 14 16382 [38, 44] 45 (.ia (.t 38) (.t 44) 1), jL 15 32766 46 45, jG 16 65535 [31, 46] 47 (.ca 134 [.t 31, .t 46]), jM 17 131071 4 47])))))) (.sq (.rg [kM 52 3, kM 2 52]) .rt))))⟩
theorem k66 : kQ Tryz.f66 c66 := kr_
def c67 : Fu := ⟨20, [.t 4], (.sq (.rg [kG 4 (.mv (kI 0))]) (.sq (.rg [kM 6 0, kN 7 6, kF 8 7 9, kL 9 8, kM 10 1, kG 11 (.ca 135 [.t 9, .t 10]), kM 5 11]) (.sq (.rg [kM 12 0, kN 13 12, kF 14 13 8, kL 15 14, kM 16 5, kG 17 (.ca 136 [.t 15, .t 16])]) (.sq (.rg [kM 18 5, kG 19 (.len (.t 18)), kM 4 19]) .rt))))⟩
theorem k67 : kQ Tryz.f67 c67 := kr_
def c68 : Fu := ⟨36, [.t 4], (.sq (.rg [kG 4 (.mv (kI 0))]) (.sq (.rg [kG 5 (.mv (kI 0))]) (.sq (.sq (.rd [jM 0 0 6 0, jN 1 1 7 6, jF 2 3 8 7 1, jL 3 7 9 8, jM 4 0 10 0, jN 5 16 11 10, jF 6 48 12 11 0, jL 7 112 13 12, jG 8 240 [13] 14 (.len (.t 13)), jG 9 511 [9, 14] 15 (.ib .lss (.t 9) (.t 14))]) (.cd (.t 15) (.rd [jM 0 0 16 0, jN 1 1 17 16, jF 2 3 18 17 0, jL 3 7 19 18, jM 4 0 20 0, jN 5 16 21 20, jF 6 48 22 21 1, jL 7 112 23 22, jG 8 255 [19, 23] 24 (.ia (.t 19) (.t 23) 1), jL 9 511 25 24, jM 10 1023 5 25]) .sk)) (.sq (.rg [kM 26 0, kN 27 26, kF 28 27 1, kL 29 28, kG 30 (.ib .add (.t 29) (kI 1)), kN 31 26, kF 32 31 1, kS (.st (.t 32) (.t 30) 1)]) (.sq (.rg [kM 33 5, kM 34 1, kG 35 (.ca 16 [.t 33, .t 34]), kM 4 35]) .rt)))))⟩
theorem k68 : kQ Tryz.f68 c68 := kr_
def c69 : Fu := ⟨35, [.t 4, .t 5], (.sq (.rg [kG 3 (.bx 24 (.t 1)), kG 4 (.mv kP), kG 5 (.mv (kI 0))]) (.sq (.sq (.rd [jG 0 0 [3] 8 (.ld (.t 3) 6 true), jG 1 1 [8] 9 (.ca 77 [.t 8]), jG 2 3 [9] 10 (.nt (.t 9)), jM 3 7 11 10, ⟨4, 15, [0, 11], kH 12 11 false (.mv (.t 0))⟩, ⟨5, 31, [12, 11], kH 13 11 false (.ca 137 [.t 12])⟩, ⟨6, 15, [3, 11], kH 14 11 false (.ld (.t 3) 6 true)⟩, ⟨7, 127, [14, 11], kH 15 11 false (.ca 17 [.t 14])⟩, ⟨8, 255, [13, 15, 11], kH 16 11 false (.ib .lss (.t 13) (.t 15))⟩, jG 9 511 [11, 16] 17 (.pk (.t 11) kT (.t 16))]) (.cd (.t 17) (.sq (.rg [kG 4 (.mv kP), kG 5 (.mv (kI 1))]) .rt) .sk)) (.sq (.rd [jM 0 0 19 0, jG 1 0 [3] 20 (.ld (.t 3) 6 true), jG 2 2 [20] 21 (.ca 139 [.t 20, (kI 0)]), jF 3 0 22 3 1, jL 4 8 23 22, jG 5 31 [19, 21, 23] 24 (.ca 138 [.t 19, (kI 0), .t 21, .t 23]), jM 6 63 18 24, jG 7 127 [18] 25 (.ex (.t 18) 0), jG 8 127 [18] 26 (.ex (.t 18) 1), jM 9 255 6 25, jM 10 1023 7 26]) (.sq (.sq (.rg [kM 27 7, kG 28 (.ib .neq (.t 27) (kI 0))]) (.cd (.t 28) (.sq (.rg [kM 29 7, kG 4 (.mv kP), kM 5 29]) .rt) .sk)) (.sq (.rg [kM 30 0, kG 31 (.ld (.t 3) 6 true), kM 32 6, kG 33 (.bd [(.pointer none), ii 0, ii 0, ii 0, ii 0, ii 0, ii 0, (.pointer none)] [(0, 1, (.t 30)), (1, 6, (.t 31)), (7, 1, (.t 32))]), kG 34 (.bx 215 (.t 33)), kM 4 34, kG 5 (.mv (kI 0))]) .rt)))))⟩
theorem k69 : kQ Tryz.f69 c69 := kr_
end
end
end Go.Proofs.YtflalhdofhobmaaGreat
