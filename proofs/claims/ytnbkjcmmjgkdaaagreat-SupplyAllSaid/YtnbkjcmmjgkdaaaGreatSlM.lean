/-
  Regions that draw their order, in which operations turn the memory: where whatever looks at the memory is held apart from whatever turns it, one order will do.
-/
import Derived.Test.YtnbkjcmmjgkdaaaGreatSlL
set_option linter.unusedVariables false
set_option linter.unusedSimpArgs false
namespace Go.Proofs.YtnbkjcmmjgkdaaaGreat
open Go
section
variable {P : Program} {N : Nat} {L F : St}
/-- One operation, whatever it does to what is known of the memory. -/
def Se (P : Program) (N : Nat) (g : G) (e : En) (L : St) (R : Value → St → Prop) : Prop := ∀ K : En → St → Prop, (∀ v L', R v L' → K (e.put g.d v) L') → Sx P N [g] e K L
/-- An order, told. ms: what has looked at the memory, and of which memories what it came to holds. -/
inductive Ev (P : Program) (N : Nat) (Kf : En → St → Prop) : List It → List (Nat × (St → Prop)) → En → St → Prop
  | nil {ms : List (Nat × (St → Prop))} {e : En} {L : St} (h : Kf e L) : Ev P N Kf [] ms e L
  | free {rem : List It} {ms : List (Nat × (St → Prop))} {e : En} {L : St} (x : It) (hx : x ∈ rem) (v : Value) (h : ∀ L e', sub (e.only x.rs) e' → Sc P N x.g e' v L) (k : Ev P N Kf (without rem x.i) ms (e.put x.g.d v) L) : Ev P N Kf rem ms e L
  | looks {rem : List It} {ms : List (Nat × (St → Prop))} {e : En} {L : St} (x : It) (hx : x ∈ rem) (v : Value) (Φ : St → Prop) (hΦ : Φ L) (h : ∀ M, Φ M → ∀ e', sub (e.only x.rs) e' → Sc P N x.g e' v M) (k : Ev P N Kf (without rem x.i) ((x.i, Φ) :: ms) (e.put x.g.d v) L) : Ev P N Kf rem ms e L
  | turns {rem : List It} {ms : List (Nat × (St → Prop))} {e : En} {L : St} (x : It) (hx : x ∈ rem) (R : Value → St → Prop) (h1 : (without rem x.i).all (fun y => bit y.ds x.i) = true) (h2 : ∀ q ∈ ms, bit x.ds q.1 = true ∨ ∀ v L', R v L' → q.2 L')
      (h : ∀ e', sub (e.only x.rs) e' → Se P N x.g e' L R) (k : ∀ v L', R v L' → Ev P N Kf (without rem x.i) ms (e.put x.g.d v) L') : Ev P N Kf rem ms e L
/-- What has been told ahead of its time. -/
structure Told (P : Program) (N : Nat) (ms : List (Nat × (St → Prop))) (e : En) (L : St) (p : It × Value) : Prop where
  hv : ∀ d, p.1.g.d = some d → e.get d = some p.2
  hs : (∀ L e', (∀ t ∈ p.1.rs, ∀ u, e.get t = some u → e'.get t = some u) → Sc P N p.1.g e' p.2 L) ∨
    ∃ Φ, (p.1.i, Φ) ∈ ms ∧ Φ L ∧ ∀ M, Φ M → ∀ e', (∀ t ∈ p.1.rs, ∀ u, e.get t = some u → e'.get t = some u) → Sc P N p.1.g e' p.2 M
def okN : List It → Bool
  | [] => true
  | x :: r => r.all (fun y => dOK y.g.d (match x.g.d with | some d => [d] | none => [])) && okN r
theorem okN_iff : ∀ {l : List It}, okN l = true → ∀ x ∈ l, ∀ y ∈ l, ∀ d, x.g.d = some d → y.g.d = some d → x = y
  | [], _, x, hx => by cases hx
  | a :: r, h, x, hx => by
    simp only [okN, Bool.and_eq_true, List.all_eq_true] at h
    intro y hy d hdx hdy
    rcases List.mem_cons.1 hx with rfl | hxr <;> rcases List.mem_cons.1 hy with rfl | hyr
    · rfl
    · have := dOK_iff (h.1 y hyr) d hdy
      rw [hdx] at this; simp at this
    · have := dOK_iff (h.1 x hxr) d hdx
      rw [hdy] at this; simp at this
    · exact okN_iff h.2 x hxr y hyr d hdx hdy
theorem without_app (U tl : List It) (i : Nat) (h : ∀ y ∈ tl, y.i ≠ i) : without (U ++ tl) i = without U i ++ tl := by
  unfold without
  rw [List.filter_append]
  congr 1
  rw [List.filter_eq_self]
  intro y hy
  have := h y hy
  cases hb : Nat.beq y.i i with
  | true => exact absurd (Nat.eq_of_beq_eq_true hb) this
  | false => rfl
theorem split_ready {all tl U : List It} {x : It} (htl : ∀ y ∈ tl, ∀ x ∈ all, bit y.ds x.i = true ∧ y.i ≠ x.i) (hUa : ∀ x ∈ U, x ∈ all) (hU : U ≠ []) (hx : x ∈ readies (U ++ tl)) : x ∈ U ∧ ready x U = true ∧ without (U ++ tl) x.i = without U x.i ++ tl := by
  have h1 : x ∈ U ++ tl ∧ ready x (U ++ tl) = true := by simpa only [readies, List.mem_filter] using hx
  have h2 : ∀ z ∈ U ++ tl, bit x.ds z.i = false := by
    have := h1.2
    simp only [ready, List.all_eq_true] at this
    exact fun z hz => by simpa using this z hz
  have hxU : x ∈ U := by
    rcases List.mem_append.1 h1.1 with h | h
    · exact h
    · obtain ⟨z, hz⟩ := List.exists_mem_of_ne_nil U hU
      have h3 := (htl x h z (hUa z hz)).1
      rw [h2 z (by simp [hz])] at h3; cases h3
  refine ⟨hxU, ?_, without_app U tl x.i fun y hy => (htl y hy x (hUa x hxU)).2⟩
  simp only [ready, List.all_eq_true]
  exact fun z hz => by rw [h2 z (by simp [hz])]; rfl
theorem ev_runT {all tl : List It} {Kf Kt : En → St → Prop} (hi : okI 0 all = true) (hd : okD all = true) (hn : okN all = true) (htl : ∀ y ∈ tl, ∀ x ∈ all, bit y.ds x.i = true ∧ y.i ≠ x.i) (hK : ∀ e e' L, sub e e' → Kf e L → Rx P N tl [] (fun _ => True) e' Kt L) :
    ∀ (n : Nat) (rem : List It) (ms : List (Nat × (St → Prop))) (e : En) (L : St), Ev P N Kf rem ms e L → ∀ (T : List (It × Value)) (U : List It) (e' : En), U.length = n → (∀ x ∈ U, x ∈ all) → (∀ x, x ∈ U ↔ (∃ v, (x, v) ∈ T) ∨ x ∈ rem) →
      (∀ p ∈ T, p.1 ∉ rem) → (∀ p ∈ T, Told P N ms e L p) → (∀ y ∈ rem, ∀ d, y.g.d = some d → e.get d = none) →
      (∀ t u, e.get t = some u → (∀ p ∈ T, p.1.g.d ≠ some t) → e'.get t = some u) → Rx P N (U ++ tl) [] (fun _ => True) e' Kt L := by
  intro n
  induction n using Nat.strongRecOn with
  | _ n ihn =>
    have inj : ∀ x ∈ all, ∀ y ∈ all, x.i = y.i → x = y := fun x hx y hy h => (okI_inj hi x hx).2 y hy h
    -- one of those that were told comes
    have come : ∀ (rem : List It) (ms : List (Nat × (St → Prop))) (e : En) (L : St), Ev P N Kf rem ms e L → ∀ (T : List (It × Value)) (U : List It) (e' : En), U.length = n → (∀ x ∈ U, x ∈ all) → (∀ x, x ∈ U ↔ (∃ v, (x, v) ∈ T) ∨ x ∈ rem) →
        (∀ p ∈ T, p.1 ∉ rem) → (∀ p ∈ T, Told P N ms e L p) → (∀ y ∈ rem, ∀ d, y.g.d = some d → e.get d = none) → (∀ t u, e.get t = some u → (∀ p ∈ T, p.1.g.d ≠ some t) → e'.get t = some u) →
        ∀ x v, (x, v) ∈ T → ready x U = true → Sx P N [x.g] e' (fun e' L' => True ∧ Rx P N (without U x.i ++ tl) [] (fun _ => True) e' Kt L') L := by
      intro rem ms e L hev T U e' hU hUa hUm hTr hT hfr he x v hxv hrd
      have hxU : x ∈ U := (hUm x).2 (.inl ⟨v, hxv⟩)
      have hrd' : ∀ y ∈ U, bit x.ds y.i = false := by simpa [ready] using hrd
      have hto := hT _ hxv
      have hfacts : ∀ t ∈ x.rs, ∀ u, e.get t = some u → e'.get t = some u := by
        intro t ht u hu
        refine he t u hu fun p hp hpd => ?_
        have hpU : p.1 ∈ U := (hUm p.1).2 (.inl ⟨p.2, hp⟩)
        simp only [okD, List.all_eq_true, Bool.or_eq_true] at hd
        rcases hd x (hUa x hxU) p.1 (hUa _ hpU) with h | h
        · exact dOK_iff h t hpd ht
        · rw [hrd' _ hpU] at h; cases h
      have hS : Sc P N x.g e' v L := by
        rcases hto.hs with h | ⟨Φ, _, hΦ, h⟩
        · exact h L e' hfacts
        · exact h L hΦ e' hfacts
      refine hS _ ⟨trivial, ?_⟩
      have hlt := without_lt hxU
      refine ihn (without U x.i).length (by omega) rem ms e L hev (T.filter fun p => !(Nat.beq p.1.i x.i)) (without U x.i) _ rfl (fun y hy => hUa y (mem_without.1 hy).1) (fun y => ?_) (fun p hp => hTr p ((List.mem_filter.1 hp).1)) (fun p hp => hT p ((List.mem_filter.1 hp).1)) hfr fun t u ht hw => ?_
      · rw [mem_without, hUm]
        constructor
        · rintro ⟨⟨w, hw⟩ | h, hne⟩
          · refine .inl ⟨w, List.mem_filter.2 ⟨hw, ?_⟩⟩
            cases hb : Nat.beq y.i x.i with
            | false => rfl
            | true => exact absurd (Nat.eq_of_beq_eq_true hb) hne
          · exact .inr h
        · rintro (⟨w, hw⟩ | h)
          · obtain ⟨h1, h2⟩ := List.mem_filter.1 hw
            exact ⟨.inl ⟨w, h1⟩, fun hh => by simp [hh] at h2⟩
          · refine ⟨.inr h, fun hh => ?_⟩
            have hyx := inj y (hUa y ((hUm y).2 (.inr h))) x (hUa x hxU) hh
            subst hyx
            exact hTr _ hxv h
      · by_cases hxt : x.g.d = some t
        · have h1 := hto.hv t hxt
          rw [ht] at h1
          rw [hxt, put_eq]; exact h1.symm
        · rw [put_ne hxt]
          refine he t u ht fun p hp hpd => ?_
          by_cases hpx : p.1.i = x.i
          · have := inj p.1 (hUa _ ((hUm p.1).2 (.inl ⟨p.2, hp⟩))) x (hUa x hxU) hpx
            rw [this] at hpd; exact hxt hpd
          · refine hw p (List.mem_filter.2 ⟨hp, ?_⟩) hpd
            cases hb : Nat.beq p.1.i x.i with
            | false => rfl
            | true => exact absurd (Nat.eq_of_beq_eq_true hb) hpx
    -- telling one more
    have tell : ∀ {rem : List It} {ms ms' : List (Nat × (St → Prop))} {e : En} {L : St} {x : It} {v : Value} {T : List (It × Value)} {U : List It} {e' : En}, x ∈ rem → (∀ x ∈ U, x ∈ all) → (∀ x, x ∈ U ↔ (∃ v, (x, v) ∈ T) ∨ x ∈ rem) → (∀ p ∈ T, p.1 ∉ rem) →
        (∀ p ∈ T, Told P N ms e L p) → (∀ y ∈ rem, ∀ d, y.g.d = some d → e.get d = none) → (∀ q ∈ ms, q ∈ ms') →
        (∀ p ∈ T, Told P N ms' (e.put x.g.d v) L p) ∧ (∀ y ∈ without rem x.i, ∀ d, y.g.d = some d → (e.put x.g.d v).get d = none) := by
      intro rem ms ms' e L x v T U e' hx hUa hUm hTr hT hfr hms
      have hxa := hUa x ((hUm x).2 (.inr hx))
      refine ⟨fun p hp => ?_, fun y hy d hyd => ?_⟩
      · have hpa := hUa p.1 ((hUm p.1).2 (.inl ⟨p.2, hp⟩))
        have hpx : p.1 ≠ x := fun h => hTr p hp (by rw [h]; exact hx)
        have hto := hT p hp
        have hst : ∀ e' : En, (∀ t ∈ p.1.rs, ∀ u, (e.put x.g.d v).get t = some u → e'.get t = some u) → ∀ t ∈ p.1.rs, ∀ u, e.get t = some u → e'.get t = some u := by
          intro e' h t ht u hu
          refine h t ht u ?_
          rw [put_ne (fun hxt => by rw [hfr x hx t hxt] at hu; cases hu)]
          exact hu
        refine ⟨fun d hpd => ?_, ?_⟩
        · rw [put_ne (fun hxd => hpx (okN_iff hn p.1 hpa x hxa d hpd hxd))]
          exact hto.hv d hpd
        · rcases hto.hs with h | ⟨Φ, h1, hΦ, h⟩
          · exact .inl fun L e' he => h L e' (hst e' he)
          · exact .inr ⟨Φ, hms _ h1, hΦ, fun M hM e' he => h M hM e' (hst e' he)⟩
      · obtain ⟨hy1, hy2⟩ := mem_without.1 hy
        rw [put_ne (fun hxd => hy2 (by rw [okN_iff hn y (hUa y ((hUm y).2 (.inr hy1))) x hxa d hyd hxd]))]
        exact hfr y hy1 d hyd
    intro rem ms e L hev
    induction hev with
    | @nil ms e L hk =>
      intro T U e' hU hUa hUm hTr hT hfr he
      by_cases hU0 : U = []
      · subst hU0
        refine hK e e' L (fun t u ht => he t u ht fun p hp => ?_) hk
        have : p.1 ∈ ([] : List It) := (hUm p.1).2 (.inl ⟨p.2, hp⟩)
        cases this
      · refine Rx.all (fun h0 => absurd (List.append_eq_nil_iff.1 h0).1 hU0) fun x hx => ⟨by simp, ?_⟩
        obtain ⟨hx1, hx2, hx3⟩ := split_ready htl hUa hU0 hx
        rw [hx3]
        rcases (hUm x).1 hx1 with ⟨v, hv⟩ | h
        · exact come [] ms e L (.nil hk) T U e' hU hUa hUm hTr hT hfr he x v hv hx2
        · cases h
    | @free rem ms e L x hx v h k ih =>
      intro T U e' hU hUa hUm hTr hT hfr he
      obtain ⟨t1, t2⟩ := tell (v := v) (e' := e') hx hUa hUm hTr hT hfr (fun _ h => h)
      refine ih ((x, v) :: T) U e' hU hUa (fun y => ?_) (fun p hp => ?_) (fun p hp => ?_) t2 fun t u ht hw => ?_
      · rw [hUm]
        constructor
        · rintro (⟨w, hw⟩ | hy)
          · exact .inl ⟨w, List.mem_cons_of_mem _ hw⟩
          · by_cases hyx : y = x
            · exact .inl ⟨v, by rw [hyx]; simp⟩
            · exact .inr (mem_without.2 ⟨hy, fun hh => hyx (inj y (hUa y ((hUm y).2 (.inr hy))) x (hUa x ((hUm x).2 (.inr hx))) hh)⟩)
        · rintro (⟨w, hw⟩ | hy)
          · rcases List.mem_cons.1 hw with h1 | h1
            · cases h1; exact .inr hx
            · exact .inl ⟨w, h1⟩
          · exact .inr (mem_without.1 hy).1
      · rcases List.mem_cons.1 hp with rfl | h1
        · exact fun hh => (mem_without.1 hh).2 rfl
        · exact fun hh => hTr p h1 (mem_without.1 hh).1
      · rcases List.mem_cons.1 hp with rfl | h1
        · refine ⟨fun d hd => by rw [show x.g.d = some d from hd]; exact put_eq, .inl fun L e2 h2 => h L e2 fun t u ht => ?_⟩
          obtain ⟨htr, hu⟩ := only_get ht
          refine h2 t htr u ?_
          rw [put_ne (fun hxt => by rw [hfr x hx t hxt] at hu; cases hu)]
          exact hu
        · exact t1 p h1
      · have hxt : x.g.d ≠ some t := hw (x, v) (by simp)
        rw [put_ne hxt] at ht
        exact he t u ht fun p hp => hw p (List.mem_cons_of_mem _ hp)
    | @looks rem ms e L x hx v Φ hΦ h k ih =>
      intro T U e' hU hUa hUm hTr hT hfr he
      obtain ⟨t1, t2⟩ := tell (v := v) (e' := e') hx hUa hUm hTr hT hfr (fun _ h => List.mem_cons_of_mem (x.i, Φ) h)
      refine ih ((x, v) :: T) U e' hU hUa (fun y => ?_) (fun p hp => ?_) (fun p hp => ?_) t2 fun t u ht hw => ?_
      · rw [hUm]
        constructor
        · rintro (⟨w, hw⟩ | hy)
          · exact .inl ⟨w, List.mem_cons_of_mem _ hw⟩
          · by_cases hyx : y = x
            · exact .inl ⟨v, by rw [hyx]; simp⟩
            · exact .inr (mem_without.2 ⟨hy, fun hh => hyx (inj y (hUa y ((hUm y).2 (.inr hy))) x (hUa x ((hUm x).2 (.inr hx))) hh)⟩)
        · rintro (⟨w, hw⟩ | hy)
          · rcases List.mem_cons.1 hw with h1 | h1
            · cases h1; exact .inr hx
            · exact .inl ⟨w, h1⟩
          · exact .inr (mem_without.1 hy).1
      · rcases List.mem_cons.1 hp with rfl | h1
        · exact fun hh => (mem_without.1 hh).2 rfl
        · exact fun hh => hTr p h1 (mem_without.1 hh).1
      · rcases List.mem_cons.1 hp with rfl | h1
        · refine ⟨fun d hd => by rw [show x.g.d = some d from hd]; exact put_eq, .inr ⟨Φ, by simp, hΦ, fun M hM e2 h2 => h M hM e2 fun t u ht => ?_⟩⟩
          obtain ⟨htr, hu⟩ := only_get ht
          refine h2 t htr u ?_
          rw [put_ne (fun hxt => by rw [hfr x hx t hxt] at hu; cases hu)]
          exact hu
        · exact t1 p h1
      · have hxt : x.g.d ≠ some t := hw (x, v) (by simp)
        rw [put_ne hxt] at ht
        exact he t u ht fun p hp => hw p (List.mem_cons_of_mem _ hp)
    | @turns rem ms e L x hx R h1 h2 h k ih =>
      intro T U e' hU hUa hUm hTr hT hfr he
      have hxU : x ∈ U := (hUm x).2 (.inr hx)
      have hU0 : U ≠ [] := fun h0 => by rw [h0] at hxU; cases hxU
      refine Rx.all (fun h0 => absurd (List.append_eq_nil_iff.1 h0).1 hU0) fun y hy => ⟨by simp, ?_⟩
      obtain ⟨hyA, hyB, hyC⟩ := split_ready htl hUa hU0 hy
      rw [hyC]
      have hy1 : y ∈ U ∧ ready y U = true := ⟨hyA, hyB⟩
      have hrd : ∀ z ∈ U, bit y.ds z.i = false := by simpa [ready] using hy1.2
      rcases (hUm y).1 hy1.1 with ⟨v, hv⟩ | hyr
      · exact come rem ms e L (.turns x hx R h1 h2 h k) T U e' hU hUa hUm hTr hT hfr he y v hv hy1.2
      · by_cases hyx : y = x
        · subst hyx
          have hpure : ∀ p ∈ T, ∀ Φ, (p.1.i, Φ) ∈ ms → ∀ v L', R v L' → Φ L' := by
            intro p hp Φ hm
            rcases h2 _ hm with hb | hb
            · have hpU : p.1 ∈ U := (hUm p.1).2 (.inl ⟨p.2, hp⟩)
              rw [hrd _ hpU] at hb; cases hb
            · exact hb
          have hsub : sub (e.only y.rs) e' := by
            intro t u ht
            obtain ⟨htr, hu⟩ := only_get ht
            refine he t u hu fun p hp hpd => ?_
            have hpU : p.1 ∈ U := (hUm p.1).2 (.inl ⟨p.2, hp⟩)
            simp only [okD, List.all_eq_true, Bool.or_eq_true] at hd
            rcases hd y (hUa y hxU) p.1 (hUa _ hpU) with hh | hh
            · exact dOK_iff hh t hpd htr
            · rw [hrd _ hpU] at hh; cases hh
          refine h e' hsub _ fun v L' hR => ⟨trivial, ?_⟩
          have hlt := without_lt hxU
          obtain ⟨t1, t2⟩ := tell (v := v) (e' := e') hx hUa hUm hTr hT hfr (fun _ h => h)
          refine ihn (without U y.i).length (by omega) (without rem y.i) ms _ L' (k v L' hR) T (without U y.i) _ rfl (fun z hz => hUa z (mem_without.1 hz).1) (fun z => ?_) (fun p hp hh => hTr p hp (mem_without.1 hh).1) (fun p hp => ?_) t2 fun t u ht hw => ?_
          · rw [mem_without, mem_without, hUm]
            constructor
            · rintro ⟨⟨w, hw⟩ | hz, hne⟩
              · exact .inl ⟨w, hw⟩
              · exact .inr ⟨hz, hne⟩
            · rintro (⟨w, hw⟩ | ⟨hz, hne⟩)
              · refine ⟨.inl ⟨w, hw⟩, fun hh => ?_⟩
                have := inj z (hUa z ((hUm z).2 (.inl ⟨w, hw⟩))) y (hUa y hxU) hh
                subst this
                exact hTr _ hw hx
              · exact ⟨.inr hz, hne⟩
          · have hto := t1 p hp
            refine ⟨hto.hv, ?_⟩
            rcases hto.hs with hh | ⟨Φ, hm, _, hh⟩
            · exact .inl hh
            · exact .inr ⟨Φ, hm, hpure p hp Φ hm v L' hR, hh⟩
          · by_cases hyt : y.g.d = some t
            · rw [hyt] at ht ⊢
              rw [put_eq] at ht ⊢; exact ht
            · rw [put_ne hyt] at ht ⊢
              exact he t u ht hw
        · have hb := List.all_eq_true.1 h1 y (mem_without.2 ⟨hyr, fun hh => hyx (inj y (hUa y hy1.1) x (hUa x hxU) hh)⟩)
          rw [hrd x hxU] at hb; cases hb
theorem ev_run {all : List It} {Kf : En → St → Prop} (hi : okI 0 all = true) (hd : okD all = true) (hn : okN all = true) (hK : ∀ e e' L, sub e e' → Kf e L → Kf e' L) :
    ∀ (n : Nat) (rem : List It) (ms : List (Nat × (St → Prop))) (e : En) (L : St), Ev P N Kf rem ms e L → ∀ (T : List (It × Value)) (U : List It) (e' : En), U.length = n → (∀ x ∈ U, x ∈ all) → (∀ x, x ∈ U ↔ (∃ v, (x, v) ∈ T) ∨ x ∈ rem) →
      (∀ p ∈ T, p.1 ∉ rem) → (∀ p ∈ T, Told P N ms e L p) → (∀ y ∈ rem, ∀ d, y.g.d = some d → e.get d = none) →
      (∀ t u, e.get t = some u → (∀ p ∈ T, p.1.g.d ≠ some t) → e'.get t = some u) → Rx P N U [] (fun _ => True) e' Kf L := by
  intro n rem ms e L h T U e' h1 h2 h3 h4 h5 h6 h7
  have := ev_runT (tl := []) (Kt := Kf) hi hd hn (fun y hy => by cases hy) (fun e e' L hs hk => Rx.all (fun _ => hK e e' L hs hk) fun x hx => by simp [readies] at hx) n rem ms e L h T U e' h1 h2 h3 h4 h5 h6 h7
  rwa [List.append_nil] at this
/-- What is known, but for what is to be written. -/
def En.clear (e : En) (l : List It) : En := e.filter fun p => l.all fun y => match y.g.d with | some d => !(Nat.beq d p.1) | none => true
theorem clear_get {l : List It} : ∀ {e : En} {t : Nat} {u : Value}, (e.clear l).get t = some u → (∀ y ∈ l, y.g.d ≠ some t) ∧ (e.get t = some u ∨ ∃ w, e.get t = some w)
  | [], t, u, h => by simp [En.clear, En.get] at h
  | (i, v) :: e, t, u, h => by
    unfold En.clear at h
    rw [List.filter_cons] at h
    split at h
    · rename_i hk
      simp only [En.get] at h ⊢
      cases hb : Nat.beq i t with
      | true =>
        rw [hb, cond_true] at h
        have hit := Nat.eq_of_beq_eq_true hb
        subst hit
        refine ⟨fun y hy hyd => ?_, .inl h⟩
        have := List.all_eq_true.1 hk y hy
        rw [hyd] at this
        simp at this
      | false =>
        rw [hb, cond_false] at h
        simpa using clear_get (e := e) h
    · simp only [En.get]
      have h1 := clear_get (e := e) h
      refine ⟨h1.1, ?_⟩
      cases hb : Nat.beq i t with
      | true => exact .inr ⟨v, rfl⟩
      | false => simpa using h1.2
theorem clear_sub {l : List It} : ∀ {e : En} {t : Nat} {u : Value}, (e.clear l).get t = some u → e.get t = some u
  | [], t, u, h => by simp [En.clear, En.get] at h
  | (i, v) :: e, t, u, h => by
    have hno := (clear_get h).1
    unfold En.clear at h
    rw [List.filter_cons] at h
    split at h
    · simp only [En.get] at h ⊢
      cases hb : Nat.beq i t with
      | true => rw [hb, cond_true] at h; rw [cond_true]; exact h
      | false => rw [hb, cond_false] at h; rw [cond_false]; exact clear_sub (e := e) h
    · rename_i hk
      have h1 := clear_sub (e := e) h
      simp only [En.get]
      cases hb : Nat.beq i t with
      | false => exact h1
      | true =>
        exfalso
        have hit := Nat.eq_of_beq_eq_true hb
        subst hit
        refine hk (List.all_eq_true.2 fun y hy => ?_)
        cases hyd : y.g.d with
        | none => rfl
        | some d =>
          simp only [Bool.not_eq_true']
          cases hb2 : Nat.beq d i with
          | false => rfl
          | true => exact absurd (by rw [hyd, Nat.eq_of_beq_eq_true hb2]) (hno y hy)
def chkO (l : List It) : Bool := okI 0 l && (okD l && okN l)
theorem Cx.ord {l : List It} {e : En} {d : C} {K : Kx} (hc : chkO l = true) (h : Ev P N (fun fin L => Cx P N d fin K L) l [] (e.clear l) L) : Cx P N (.rd l) e (Ksq P N d K) L := by
  simp only [chkO, Bool.and_eq_true] at hc
  refine Cx.rd ?_
  refine ev_run (Kf := Krg (Ksq P N d K)) hc.1 hc.2.1 hc.2.2 (fun e e' L hs hk => Cx.less hs hk) l.length l [] (e.clear l) L h [] l e rfl (fun _ h => h) (fun x => by simp) (fun _ h => by cases h) (fun _ h => by cases h) (fun y hy d hyd => ?_) (fun t u ht _ => clear_sub ht)
  cases hg : (e.clear l).get d with
  | none => rfl
  | some u => exact absurd hyd ((clear_get hg).1 y hy)

section
variable {Kf : En → St → Prop} {e : En} {rem rem' : List It} {ms : List (Nat × (St → Prop))} {i ds : Nat} {rs : List Nat} {d : Option Nat} {g : Option (Nat × Bool)}
/-- The plain ones that may be told now, in one stretch; nothing if there is none. -/
def eagE : List It → List It → En → Bool → Option (List It × En)
  | [], kept, e, b => bif b then some (List.reverseAux kept [], e) else none
  | x :: l, kept, e, b => match stepM x e with
    | some v => eagE l kept (e.put x.g.d v) true
    | none => eagE l (x :: kept) e b
theorem Sc_step {x : It} {v : Value} (h : stepM x e = some v) : ∀ L e', sub (e.only x.rs) e' → Sc P N x.g e' v L := by
  intro L e' hs
  obtain ⟨i, ds, rs, d, g, s⟩ := x
  unfold stepM at h
  simp only at h hs
  cases hg : gon (e.only rs) g with
  | true =>
    rw [hg, cond_true] at h
    cases hp : plainP s with
    | false => rw [hp] at h; cases h
    | true =>
      rw [hp, cond_true] at h
      split at h
      · rename_i φ u hu
        cases h
        exact .gon hg hs (.pv hu (plainP_pv hp hu) hs)
      · cases h
  | false =>
    rw [hg, cond_false] at h
    split at h
    · rename_i t b
      cases hb : offs (e.only rs) t b with
      | true =>
        rw [hb, cond_true] at h; cases h
        refine fun K k => Sx.off (t := t) (b := b) ?_ (Sx.nil k)
        unfold offs at hb ⊢
        cases h1 : (e.only rs).get t with
        | none => rw [h1] at hb; simp at hb
        | some u => rw [hs _ _ h1]; rw [h1] at hb; exact hb
      | false => rw [hb] at h; cases h
    · cases h
theorem Ev.done {c : C} {K : Kx} (h : Cx P N c e K L) : Ev P N (fun fin L => Cx P N c fin K L) [] ms e L := .nil h
/-- One plain operation. -/
theorem Ev.stp {x : It} {v : Value} (hx : x ∈ rem) (h : stepM x e = some v) (k : Ev P N Kf (without rem x.i) ms (e.put x.g.d v) L) : Ev P N Kf rem ms e L := .free x hx v (Sc_step h) k
/-- All plain operations of a stretch. -/
def tellE : List Nat → List It → En → Option (List It × En)
  | [], _, _ => none
  | j :: js, rem, e => match rem[j]? with
    | some x => match stepM x e with
      | some v => match tellE js (without rem x.i) (e.put x.g.d v) with
        | some q => some q
        | none => some (without rem x.i, e.put x.g.d v)
      | none => none
    | none => none
/-- Looking through the list from place j on, so often. -/
def scanE : Nat → Nat → List It → En → Option (List It × En)
  | 0, _, _, _ => none
  | n + 1, j, rem, e => match rem[j]? with
    | some x => match stepM x e with
      | some v => match scanE n j (without rem x.i) (e.put x.g.d v) with
        | some q => some q
        | none => some (without rem x.i, e.put x.g.d v)
      | none => scanE n (j + 1) rem e
    | none => none
theorem Ev.pvs : ∀ {n j : Nat} {rem rem' : List It} {e e' : En}, scanE n j rem e = some (rem', e') → Ev P N Kf rem' ms e' L → Ev P N Kf rem ms e L
  | 0, _, _, _, _, _, h, _ => by cases h
  | n + 1, j, rem, rem', e, e', h, k => by
    simp only [scanE] at h
    split at h
    · rename_i x hx
      split at h
      · rename_i v hv
        split at h
        · rename_i q hq
          cases h
          exact Ev.stp (List.mem_of_getElem? hx) hv (Ev.pvs hq k)
        · cases h
          exact Ev.stp (List.mem_of_getElem? hx) hv k
      · exact Ev.pvs h k
    · cases h
end
end
end Go.Proofs.YtnbkjcmmjgkdaaaGreat
