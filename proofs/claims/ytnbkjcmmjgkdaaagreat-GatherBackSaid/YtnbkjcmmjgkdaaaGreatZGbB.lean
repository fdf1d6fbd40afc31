/-
  Parts of the proof, merged: what the statement leans on.
-/
import Derived.Test.YtnbkjcmmjgkdaaaGreatProg
import Derived.KernelRfl
import Derived.Test.YtnbkjcmmjgkdaaaGreatZGbA
/-
  Regions that draw their order, in which operations turn the memory: where whatever looks at the memory is held apart from whatever turns it, one order will do.
-/
set_option linter.unusedVariables false
set_option linter.unusedSimpArgs false
namespace Go.Proofs.YtnbkjcmmjgkdaaaGreat
open Go
section
variable {P : Program} {N : Nat} {L F : St}
/-- One operation, whatever it does to what is known of the memory. -/
def Se (P : Program) (N : Nat) (g : G) (e : En) (L : St) (R : Value → St → Prop) : Prop := ∀ K : En → St → Prop, (∀ v L', R v L' → K (e.put g.d v) L') → Sx P N [g] e K L
/-- An order, told. ms: what has looked at the memory, and of which memories what it came to holds. -/
inductive Ev (P : Program) (N : Nat) (Kf : En → St → Prop) : List It → List (Nat × (St → Prop)) → En → St → Prop
  | nil {ms : List (Nat × (St → Prop))} {e : En} {L : St} (h : Kf e L) : Ev P N Kf [] ms e L
  | free {rem : List It} {ms : List (Nat × (St → Prop))} {e : En} {L : St} (x : It) (hx : x ∈ rem) (v : Value) (h : ∀ L e', sub (e.only x.rs) e' → Sc P N x.g e' v L) (k : Ev P N Kf (without rem x.i) ms (e.put x.g.d v) L) : Ev P N Kf rem ms e L
  | looks {rem : List It} {ms : List (Nat × (St → Prop))} {e : En} {L : St} (x : It) (hx : x ∈ rem) (v : Value) (Φ : St → Prop) (hΦ : Φ L) (h : ∀ M, Φ M → ∀ e', sub (e.only x.rs) e' → Sc P N x.g e' v M) (k : Ev P N Kf (without rem x.i) ((x.i, Φ) :: ms) (e.put x.g.d v) L) : Ev P N Kf rem ms e L
  | turns {rem : List It} {ms : List (Nat × (St → Prop))} {e : En} {L : St} (x : It) (hx : x ∈ rem) (R : Value → St → Prop) (h1 : (without rem x.i).all (fun y => bit y.ds x.i) = true) (h2 : ∀ q ∈ ms, bit x.ds q.1 = true ∨ ∀ v L', R v L' → q.2 L')
      (h : ∀ e', sub (e.only x.rs) e' → Se P N x.g e' L R) (k : ∀ v L', R v L' → Ev P N Kf (without rem x.i) ms (e.put x.g.d v) L') : Ev P N Kf rem ms e L
/-- What has been told ahead of its time. -/
structure Told (P : Program) (N : Nat) (ms : List (Nat × (St → Prop))) (e : En) (L : St) (p : It × Value) : Prop where
  hv : ∀ d, p.1.g.d = some d → e.get d = some p.2
  hs : (∀ L e', (∀ t ∈ p.1.rs, ∀ u, e.get t = some u → e'.get t = some u) → Sc P N p.1.g e' p.2 L) ∨
    ∃ Φ, (p.1.i, Φ) ∈ ms ∧ Φ L ∧ ∀ M, Φ M → ∀ e', (∀ t ∈ p.1.rs, ∀ u, e.get t = some u → e'.get t = some u) → Sc P N p.1.g e' p.2 M
def okN : List It → Bool
  | [] => true
  | x :: r => r.all (fun y => dOK y.g.d (match x.g.d with | some d => [d] | none => [])) && okN r
theorem okN_iff : ∀ {l : List It}, okN l = true → ∀ x ∈ l, ∀ y ∈ l, ∀ d, x.g.d = some d → y.g.d = some d → x = y
  | [], _, x, hx => by cases hx
  | a :: r, h, x, hx => by
    simp only [okN, Bool.and_eq_true, List.all_eq_true] at h
    intro y hy d hdx hdy
    rcases List.mem_cons.1 hx with rfl | hxr <;> rcases List.mem_cons.1 hy with rfl | hyr
    · rfl
    · have := dOK_iff (h.1 y hyr) d hdy
      rw [hdx] at this; simp at this
    · have := dOK_iff (h.1 x hxr) d hdx
      rw [hdy] at this; simp at this
    · exact okN_iff h.2 x hxr y hyr d hdx hdy
theorem without_app (U tl : List It) (i : Nat) (h : ∀ y ∈ tl, y.i ≠ i) : without (U ++ tl) i = without U i ++ tl := by
  unfold without
  rw [List.filter_append]
  congr 1
  rw [List.filter_eq_self]
  intro y hy
  have := h y hy
  cases hb : Nat.beq y.i i with
  | true => exact absurd (Nat.eq_of_beq_eq_true hb) this
  | false => rfl
theorem split_ready {all tl U : List It} {x : It} (htl : ∀ y ∈ tl, ∀ x ∈ all, bit y.ds x.i = true ∧ y.i ≠ x.i) (hUa : ∀ x ∈ U, x ∈ all) (hU : U ≠ []) (hx : x ∈ readies (U ++ tl)) : x ∈ U ∧ ready x U = true ∧ without (U ++ tl) x.i = without U x.i ++ tl := by
  have h1 : x ∈ U ++ tl ∧ ready x (U ++ tl) = true := by simpa only [readies, List.mem_filter] using hx
  have h2 : ∀ z ∈ U ++ tl, bit x.ds z.i = false := by
    have := h1.2
    simp only [ready, List.all_eq_true] at this
    exact fun z hz => by simpa using this z hz
  have hxU : x ∈ U := by
    rcases List.mem_append.1 h1.1 with h | h
    · exact h
    · obtain ⟨z, hz⟩ := List.exists_mem_of_ne_nil U hU
      have h3 := (htl x h z (hUa z hz)).1
      rw [h2 z (by simp [hz])] at h3; cases h3
  refine ⟨hxU, ?_, without_app U tl x.i fun y hy => (htl y hy x (hUa x hxU)).2⟩
  simp only [ready, List.all_eq_true]
  exact fun z hz => by rw [h2 z (by simp [hz])]; rfl
theorem ev_runT {all tl : List It} {Kf Kt : En → St → Prop} (hi : okI 0 all = true) (hd : okD all = true) (hn : okN all = true) (htl : ∀ y ∈ tl, ∀ x ∈ all, bit y.ds x.i = true ∧ y.i ≠ x.i) (hK : ∀ e e' L, sub e e' → Kf e L → Rx P N tl [] (fun _ => True) e' Kt L) :
    ∀ (n : Nat) (rem : List It) (ms : List (Nat × (St → Prop))) (e : En) (L : St), Ev P N Kf rem ms e L → ∀ (T : List (It × Value)) (U : List It) (e' : En), U.length = n → (∀ x ∈ U, x ∈ all) → (∀ x, x ∈ U ↔ (∃ v, (x, v) ∈ T) ∨ x ∈ rem) →
      (∀ p ∈ T, p.1 ∉ rem) → (∀ p ∈ T, Told P N ms e L p) → (∀ y ∈ rem, ∀ d, y.g.d = some d → e.get d = none) →
      (∀ t u, e.get t = some u → (∀ p ∈ T, p.1.g.d ≠ some t) → e'.get t = some u) → Rx P N (U ++ tl) [] (fun _ => True) e' Kt L := by
  intro n
  induction n using Nat.strongRecOn with
  | _ n ihn =>
    have inj : ∀ x ∈ all, ∀ y ∈ all, x.i = y.i → x = y := fun x hx y hy h => (okI_inj hi x hx).2 y hy h
    -- one of those that were told comes
    have come : ∀ (rem : List It) (ms : List (Nat × (St → Prop))) (e : En) (L : St), Ev P N Kf rem ms e L → ∀ (T : List (It × Value)) (U : List It) (e' : En), U.length = n → (∀ x ∈ U, x ∈ all) → (∀ x, x ∈ U ↔ (∃ v, (x, v) ∈ T) ∨ x ∈ rem) →
        (∀ p ∈ T, p.1 ∉ rem) → (∀ p ∈ T, Told P N ms e L p) → (∀ y ∈ rem, ∀ d, y.g.d = some d → e.get d = none) → (∀ t u, e.get t = some u → (∀ p ∈ T, p.1.g.d ≠ some t) → e'.get t = some u) →
        ∀ x v, (x, v) ∈ T → ready x U = true → Sx P N [x.g] e' (fun e' L' => True ∧ Rx P N (without U x.i ++ tl) [] (fun _ => True) e' Kt L') L := by
      intro rem ms e L hev T U e' hU hUa hUm hTr hT hfr he x v hxv hrd
      have hxU : x ∈ U := (hUm x).2 (.inl ⟨v, hxv⟩)
      have hrd' : ∀ y ∈ U, bit x.ds y.i = false := by simpa [ready] using hrd
      have hto := hT _ hxv
      have hfacts : ∀ t ∈ x.rs, ∀ u, e.get t = some u → e'.get t = some u := by
        intro t ht u hu
        refine he t u hu fun p hp hpd => ?_
        have hpU : p.1 ∈ U := (hUm p.1).2 (.inl ⟨p.2, hp⟩)
        simp only [okD, List.all_eq_true, Bool.or_eq_true] at hd
        rcases hd x (hUa x hxU) p.1 (hUa _ hpU) with h | h
        · exact dOK_iff h t hpd ht
        · rw [hrd' _ hpU] at h; cases h
      have hS : Sc P N x.g e' v L := by
        rcases hto.hs with h | ⟨Φ, _, hΦ, h⟩
        · exact h L e' hfacts
        · exact h L hΦ e' hfacts
      refine hS _ ⟨trivial, ?_⟩
      have hlt := without_lt hxU
      refine ihn (without U x.i).length (by omega) rem ms e L hev (T.filter fun p => !(Nat.beq p.1.i x.i)) (without U x.i) _ rfl (fun y hy => hUa y (mem_without.1 hy).1) (fun y => ?_) (fun p hp => hTr p ((List.mem_filter.1 hp).1)) (fun p hp => hT p ((List.mem_filter.1 hp).1)) hfr fun t u ht hw => ?_
      · rw [mem_without, hUm]
        constructor
        · rintro ⟨⟨w, hw⟩ | h, hne⟩
          · refine .inl ⟨w, List.mem_filter.2 ⟨hw, ?_⟩⟩
            cases hb : Nat.beq y.i x.i with
            | false => rfl
            | true => exact absurd (Nat.eq_of_beq_eq_true hb) hne
          · exact .inr h
        · rintro (⟨w, hw⟩ | h)
          · obtain ⟨h1, h2⟩ := List.mem_filter.1 hw
            exact ⟨.inl ⟨w, h1⟩, fun hh => by simp [hh] at h2⟩
          · refine ⟨.inr h, fun hh => ?_⟩
            have hyx := inj y (hUa y ((hUm y).2 (.inr h))) x (hUa x hxU) hh
            subst hyx
            exact hTr _ hxv h
      · by_cases hxt : x.g.d = some t
        · have h1 := hto.hv t hxt
          rw [ht] at h1
          rw [hxt, put_eq]; exact h1.symm
        · rw [put_ne hxt]
          refine he t u ht fun p hp hpd => ?_
          by_cases hpx : p.1.i = x.i
          · have := inj p.1 (hUa _ ((hUm p.1).2 (.inl ⟨p.2, hp⟩))) x (hUa x hxU) hpx
            rw [this] at hpd; exact hxt hpd
          · refine hw p (List.mem_filter.2 ⟨hp, ?_⟩) hpd
            cases hb : Nat.beq p.1.i x.i with
            | false => rfl
            | true => exact absurd (Nat.eq_of_beq_eq_true hb) hpx
    -- telling one more
    have tell : ∀ {rem : List It} {ms ms' : List (Nat × (St → Prop))} {e : En} {L : St} {x : It} {v : Value} {T : List (It × Value)} {U : List It} {e' : En}, x ∈ rem → (∀ x ∈ U, x ∈ all) → (∀ x, x ∈ U ↔ (∃ v, (x, v) ∈ T) ∨ x ∈ rem) → (∀ p ∈ T, p.1 ∉ rem) →
        (∀ p ∈ T, Told P N ms e L p) → (∀ y ∈ rem, ∀ d, y.g.d = some d → e.get d = none) → (∀ q ∈ ms, q ∈ ms') →
        (∀ p ∈ T, Told P N ms' (e.put x.g.d v) L p) ∧ (∀ y ∈ without rem x.i, ∀ d, y.g.d = some d → (e.put x.g.d v).get d = none) := by
      intro rem ms ms' e L x v T U e' hx hUa hUm hTr hT hfr hms
      have hxa := hUa x ((hUm x).2 (.inr hx))
      refine ⟨fun p hp => ?_, fun y hy d hyd => ?_⟩
      · have hpa := hUa p.1 ((hUm p.1).2 (.inl ⟨p.2, hp⟩))
        have hpx : p.1 ≠ x := fun h => hTr p hp (by rw [h]; exact hx)
        have hto := hT p hp
        have hst : ∀ e' : En, (∀ t ∈ p.1.rs, ∀ u, (e.put x.g.d v).get t = some u → e'.get t = some u) → ∀ t ∈ p.1.rs, ∀ u, e.get t = some u → e'.get t = some u := by
          intro e' h t ht u hu
          refine h t ht u ?_
          rw [put_ne (fun hxt => by rw [hfr x hx t hxt] at hu; cases hu)]
          exact hu
        refine ⟨fun d hpd => ?_, ?_⟩
        · rw [put_ne (fun hxd => hpx (okN_iff hn p.1 hpa x hxa d hpd hxd))]
          exact hto.hv d hpd
        · rcases hto.hs with h | ⟨Φ, h1, hΦ, h⟩
          · exact .inl fun L e' he => h L e' (hst e' he)
          · exact .inr ⟨Φ, hms _ h1, hΦ, fun M hM e' he => h M hM e' (hst e' he)⟩
      · obtain ⟨hy1, hy2⟩ := mem_without.1 hy
        rw [put_ne (fun hxd => hy2 (by rw [okN_iff hn y (hUa y ((hUm y).2 (.inr hy1))) x hxa d hyd hxd]))]
        exact hfr y hy1 d hyd
    intro rem ms e L hev
    induction hev with
    | @nil ms e L hk =>
      intro T U e' hU hUa hUm hTr hT hfr he
      by_cases hU0 : U = []
      · subst hU0
        refine hK e e' L (fun t u ht => he t u ht fun p hp => ?_) hk
        have : p.1 ∈ ([] : List It) := (hUm p.1).2 (.inl ⟨p.2, hp⟩)
        cases this
      · refine Rx.all (fun h0 => absurd (List.append_eq_nil_iff.1 h0).1 hU0) fun x hx => ⟨by simp, ?_⟩
        obtain ⟨hx1, hx2, hx3⟩ := split_ready htl hUa hU0 hx
        rw [hx3]
        rcases (hUm x).1 hx1 with ⟨v, hv⟩ | h
        · exact come [] ms e L (.nil hk) T U e' hU hUa hUm hTr hT hfr he x v hv hx2
        · cases h
    | @free rem ms e L x hx v h k ih =>
      intro T U e' hU hUa hUm hTr hT hfr he
      obtain ⟨t1, t2⟩ := tell (v := v) (e' := e') hx hUa hUm hTr hT hfr (fun _ h => h)
      refine ih ((x, v) :: T) U e' hU hUa (fun y => ?_) (fun p hp => ?_) (fun p hp => ?_) t2 fun t u ht hw => ?_
      · rw [hUm]
        constructor
        · rintro (⟨w, hw⟩ | hy)
          · exact .inl ⟨w, List.mem_cons_of_mem _ hw⟩
          · by_cases hyx : y = x
            · exact .inl ⟨v, by rw [hyx]; simp⟩
            · exact .inr (mem_without.2 ⟨hy, fun hh => hyx (inj y (hUa y ((hUm y).2 (.inr hy))) x (hUa x ((hUm x).2 (.inr hx))) hh)⟩)
        · rintro (⟨w, hw⟩ | hy)
          · rcases List.mem_cons.1 hw with h1 | h1
            · cases h1; exact .inr hx
            · exact .inl ⟨w, h1⟩
          · exact .inr (mem_without.1 hy).1
      · rcases List.mem_cons.1 hp with rfl | h1
        · exact fun hh => (mem_without.1 hh).2 rfl
        · exact fun hh => hTr p h1 (mem_without.1 hh).1
      · rcases List.mem_cons.1 hp with rfl | h1
        · refine ⟨fun d hd => by rw [show x.g.d = some d from hd]; exact put_eq, .inl fun L e2 h2 => h L e2 fun t u ht => ?_⟩
          obtain ⟨htr, hu⟩ := only_get ht
          refine h2 t htr u ?_
          rw [put_ne (fun hxt => by rw [hfr x hx t hxt] at hu; cases hu)]
          exact hu
        · exact t1 p h1
      · have hxt : x.g.d ≠ some t := hw (x, v) (by simp)
        rw [put_ne hxt] at ht
        exact he t u ht fun p hp => hw p (List.mem_cons_of_mem _ hp)
    | @looks rem ms e L x hx v Φ hΦ h k ih =>
      intro T U e' hU hUa hUm hTr hT hfr he
      obtain ⟨t1, t2⟩ := tell (v := v) (e' := e') hx hUa hUm hTr hT hfr (fun _ h => List.mem_cons_of_mem (x.i, Φ) h)
      refine ih ((x, v) :: T) U e' hU hUa (fun y => ?_) (fun p hp => ?_) (fun p hp => ?_) t2 fun t u ht hw => ?_
      · rw [hUm]
        constructor
        · rintro (⟨w, hw⟩ | hy)
          · exact .inl ⟨w, List.mem_cons_of_mem _ hw⟩
          · by_cases hyx : y = x
            · exact .inl ⟨v, by rw [hyx]; simp⟩
            · exact .inr (mem_without.2 ⟨hy, fun hh => hyx (inj y (hUa y ((hUm y).2 (.inr hy))) x (hUa x ((hUm x).2 (.inr hx))) hh)⟩)
        · rintro (⟨w, hw⟩ | hy)
          · rcases List.mem_cons.1 hw with h1 | h1
            · cases h1; exact .inr hx
            · exact .inl ⟨w, h1⟩
          · exact .inr (mem_without.1 hy).1
      · rcases List.mem_cons.1 hp with rfl | h1
        · exact fun hh => (mem_without.1 hh).2 rfl
        · exact fun hh => hTr p h1 (mem_without.1 hh).1
      · rcases List.mem_cons.1 hp with rfl | h1
        · refine ⟨fun d hd => by rw [show x.g.d = some d from hd]; exact put_eq, .inr ⟨Φ, by simp, hΦ, fun M hM e2 h2 => h M hM e2 fun t u ht => ?_⟩⟩
          obtain ⟨htr, hu⟩ := only_get ht
          refine h2 t htr u ?_
          rw [put_ne (fun hxt => by rw [hfr x hx t hxt] at hu; cases hu)]
          exact hu
        · exact t1 p h1
      · have hxt : x.g.d ≠ some t := hw (x, v) (by simp)
        rw [put_ne hxt] at ht
        exact he t u ht fun p hp => hw p (List.mem_cons_of_mem _ hp)
    | @turns rem ms e L x hx R h1 h2 h k ih =>
      intro T U e' hU hUa hUm hTr hT hfr he
      have hxU : x ∈ U := (hUm x).2 (.inr hx)
      have hU0 : U ≠ [] := fun h0 => by rw [h0] at hxU; cases hxU
      refine Rx.all (fun h0 => absurd (List.append_eq_nil_iff.1 h0).1 hU0) fun y hy => ⟨by simp, ?_⟩
      obtain ⟨hyA, hyB, hyC⟩ := split_ready htl hUa hU0 hy
      rw [hyC]
      have hy1 : y ∈ U ∧ ready y U = true := ⟨hyA, hyB⟩
      have hrd : ∀ z ∈ U, bit y.ds z.i = false := by simpa [ready] using hy1.2
      rcases (hUm y).1 hy1.1 with ⟨v, hv⟩ | hyr
      · exact come rem ms e L (.turns x hx R h1 h2 h k) T U e' hU hUa hUm hTr hT hfr he y v hv hy1.2
      · by_cases hyx : y = x
        · subst hyx
          have hpure : ∀ p ∈ T, ∀ Φ, (p.1.i, Φ) ∈ ms → ∀ v L', R v L' → Φ L' := by
            intro p hp Φ hm
            rcases h2 _ hm with hb | hb
            · have hpU : p.1 ∈ U := (hUm p.1).2 (.inl ⟨p.2, hp⟩)
              rw [hrd _ hpU] at hb; cases hb
            · exact hb
          have hsub : sub (e.only y.rs) e' := by
            intro t u ht
            obtain ⟨htr, hu⟩ := only_get ht
            refine he t u hu fun p hp hpd => ?_
            have hpU : p.1 ∈ U := (hUm p.1).2 (.inl ⟨p.2, hp⟩)
            simp only [okD, List.all_eq_true, Bool.or_eq_true] at hd
            rcases hd y (hUa y hxU) p.1 (hUa _ hpU) with hh | hh
            · exact dOK_iff hh t hpd htr
            · rw [hrd _ hpU] at hh; cases hh
          refine h e' hsub _ fun v L' hR => ⟨trivial, ?_⟩
          have hlt := without_lt hxU
          obtain ⟨t1, t2⟩ := tell (v := v) (e' := e') hx hUa hUm hTr hT hfr (fun _ h => h)
          refine ihn (without U y.i).length (by omega) (without rem y.i) ms _ L' (k v L' hR) T (without U y.i) _ rfl (fun z hz => hUa z (mem_without.1 hz).1) (fun z => ?_) (fun p hp hh => hTr p hp (mem_without.1 hh).1) (fun p hp => ?_) t2 fun t u ht hw => ?_
          · rw [mem_without, mem_without, hUm]
            constructor
            · rintro ⟨⟨w, hw⟩ | hz, hne⟩
              · exact .inl ⟨w, hw⟩
              · exact .inr ⟨hz, hne⟩
            · rintro (⟨w, hw⟩ | ⟨hz, hne⟩)
              · refine ⟨.inl ⟨w, hw⟩, fun hh => ?_⟩
                have := inj z (hUa z ((hUm z).2 (.inl ⟨w, hw⟩))) y (hUa y hxU) hh
                subst this
                exact hTr _ hw hx
              · exact ⟨.inr hz, hne⟩
          · have hto := t1 p hp
            refine ⟨hto.hv, ?_⟩
            rcases hto.hs with hh | ⟨Φ, hm, _, hh⟩
            · exact .inl hh
            · exact .inr ⟨Φ, hm, hpure p hp Φ hm v L' hR, hh⟩
          · by_cases hyt : y.g.d = some t
            · rw [hyt] at ht ⊢
              rw [put_eq] at ht ⊢; exact ht
            · rw [put_ne hyt] at ht ⊢
              exact he t u ht hw
        · have hb := List.all_eq_true.1 h1 y (mem_without.2 ⟨hyr, fun hh => hyx (inj y (hUa y hy1.1) x (hUa x hxU) hh)⟩)
          rw [hrd x hxU] at hb; cases hb
theorem ev_run {all : List It} {Kf : En → St → Prop} (hi : okI 0 all = true) (hd : okD all = true) (hn : okN all = true) (hK : ∀ e e' L, sub e e' → Kf e L → Kf e' L) :
    ∀ (n : Nat) (rem : List It) (ms : List (Nat × (St → Prop))) (e : En) (L : St), Ev P N Kf rem ms e L → ∀ (T : List (It × Value)) (U : List It) (e' : En), U.length = n → (∀ x ∈ U, x ∈ all) → (∀ x, x ∈ U ↔ (∃ v, (x, v) ∈ T) ∨ x ∈ rem) →
      (∀ p ∈ T, p.1 ∉ rem) → (∀ p ∈ T, Told P N ms e L p) → (∀ y ∈ rem, ∀ d, y.g.d = some d → e.get d = none) →
      (∀ t u, e.get t = some u → (∀ p ∈ T, p.1.g.d ≠ some t) → e'.get t = some u) → Rx P N U [] (fun _ => True) e' Kf L := by
  intro n rem ms e L h T U e' h1 h2 h3 h4 h5 h6 h7
  have := ev_runT (tl := []) (Kt := Kf) hi hd hn (fun y hy => by cases hy) (fun e e' L hs hk => Rx.all (fun _ => hK e e' L hs hk) fun x hx => by simp [readies] at hx) n rem ms e L h T U e' h1 h2 h3 h4 h5 h6 h7
  rwa [List.append_nil] at this
/-- What is known, but for what is to be written. -/
def En.clear (e : En) (l : List It) : En := e.filter fun p => l.all fun y => match y.g.d with | some d => !(Nat.beq d p.1) | none => true
theorem clear_get {l : List It} : ∀ {e : En} {t : Nat} {u : Value}, (e.clear l).get t = some u → (∀ y ∈ l, y.g.d ≠ some t) ∧ (e.get t = some u ∨ ∃ w, e.get t = some w)
  | [], t, u, h => by simp [En.clear, En.get] at h
  | (i, v) :: e, t, u, h => by
    unfold En.clear at h
    rw [List.filter_cons] at h
    split at h
    · rename_i hk
      simp only [En.get] at h ⊢
      cases hb : Nat.beq i t with
      | true =>
        rw [hb, cond_true] at h
        have hit := Nat.eq_of_beq_eq_true hb
        subst hit
        refine ⟨fun y hy hyd => ?_, .inl h⟩
        have := List.all_eq_true.1 hk y hy
        rw [hyd] at this
        simp at this
      | false =>
        rw [hb, cond_false] at h
        simpa using clear_get (e := e) h
    · simp only [En.get]
      have h1 := clear_get (e := e) h
      refine ⟨h1.1, ?_⟩
      cases hb : Nat.beq i t with
      | true => exact .inr ⟨v, rfl⟩
      | false => simpa using h1.2
theorem clear_sub {l : List It} : ∀ {e : En} {t : Nat} {u : Value}, (e.clear l).get t = some u → e.get t = some u
  | [], t, u, h => by simp [En.clear, En.get] at h
  | (i, v) :: e, t, u, h => by
    have hno := (clear_get h).1
    unfold En.clear at h
    rw [List.filter_cons] at h
    split at h
    · simp only [En.get] at h ⊢
      cases hb : Nat.beq i t with
      | true => rw [hb, cond_true] at h; rw [cond_true]; exact h
      | false => rw [hb, cond_false] at h; rw [cond_false]; exact clear_sub (e := e) h
    · rename_i hk
      have h1 := clear_sub (e := e) h
      simp only [En.get]
      cases hb : Nat.beq i t with
      | false => exact h1
      | true =>
        exfalso
        have hit := Nat.eq_of_beq_eq_true hb
        subst hit
        refine hk (List.all_eq_true.2 fun y hy => ?_)
        cases hyd : y.g.d with
        | none => rfl
        | some d =>
          simp only [Bool.not_eq_true']
          cases hb2 : Nat.beq d i with
          | false => rfl
          | true => exact absurd (by rw [hyd, Nat.eq_of_beq_eq_true hb2]) (hno y hy)
def chkO (l : List It) : Bool := okI 0 l && (okD l && okN l)
theorem Cx.ord {l : List It} {e : En} {d : C} {K : Kx} (hc : chkO l = true) (h : Ev P N (fun fin L => Cx P N d fin K L) l [] (e.clear l) L) : Cx P N (.rd l) e (Ksq P N d K) L := by
  simp only [chkO, Bool.and_eq_true] at hc
  refine Cx.rd ?_
  refine ev_run (Kf := Krg (Ksq P N d K)) hc.1 hc.2.1 hc.2.2 (fun e e' L hs hk => Cx.less hs hk) l.length l [] (e.clear l) L h [] l e rfl (fun _ h => h) (fun x => by simp) (fun _ h => by cases h) (fun _ h => by cases h) (fun y hy d hyd => ?_) (fun t u ht _ => clear_sub ht)
  cases hg : (e.clear l).get d with
  | none => rfl
  | some u => exact absurd hyd ((clear_get hg).1 y hy)
section
variable {Kf : En → St → Prop} {e : En} {rem rem' : List It} {ms : List (Nat × (St → Prop))} {i ds : Nat} {rs : List Nat} {d : Option Nat} {g : Option (Nat × Bool)}
theorem Sc_step {x : It} {v : Value} (h : stepM x e = some v) : ∀ L e', sub (e.only x.rs) e' → Sc P N x.g e' v L := by
  intro L e' hs
  obtain ⟨i, ds, rs, d, g, s⟩ := x
  unfold stepM at h
  simp only at h hs
  cases hg : gon (e.only rs) g with
  | true =>
    rw [hg, cond_true] at h
    cases hp : plainP s with
    | false => rw [hp] at h; cases h
    | true =>
      rw [hp, cond_true] at h
      split at h
      · rename_i φ u hu
        cases h
        exact .gon hg hs (.pv hu (plainP_pv hp hu) hs)
      · cases h
  | false =>
    rw [hg, cond_false] at h
    split at h
    · rename_i t b
      cases hb : offs (e.only rs) t b with
      | true =>
        rw [hb, cond_true] at h; cases h
        refine fun K k => Sx.off (t := t) (b := b) ?_ (Sx.nil k)
        unfold offs at hb ⊢
        cases h1 : (e.only rs).get t with
        | none => rw [h1] at hb; simp at hb
        | some u => rw [hs _ _ h1]; rw [h1] at hb; exact hb
      | false => rw [hb] at h; cases h
    · cases h
theorem Ev.done {c : C} {K : Kx} (h : Cx P N c e K L) : Ev P N (fun fin L => Cx P N c fin K L) [] ms e L := .nil h
/-- One plain operation. -/
theorem Ev.stp {x : It} {v : Value} (hx : x ∈ rem) (h : stepM x e = some v) (k : Ev P N Kf (without rem x.i) ms (e.put x.g.d v) L) : Ev P N Kf rem ms e L := .free x hx v (Sc_step h) k
/-- Looking through the list from place j on, so often. -/
def scanE : Nat → Nat → List It → En → Option (List It × En)
  | 0, _, _, _ => none
  | n + 1, j, rem, e => match rem[j]? with
    | some x => match stepM x e with
      | some v => match scanE n j (without rem x.i) (e.put x.g.d v) with
        | some q => some q
        | none => some (without rem x.i, e.put x.g.d v)
      | none => scanE n (j + 1) rem e
    | none => none
theorem Ev.pvs : ∀ {n j : Nat} {rem rem' : List It} {e e' : En}, scanE n j rem e = some (rem', e') → Ev P N Kf rem' ms e' L → Ev P N Kf rem ms e L
  | 0, _, _, _, _, _, h, _ => by cases h
  | n + 1, j, rem, rem', e, e', h, k => by
    simp only [scanE] at h
    split at h
    · rename_i x hx
      split at h
      · rename_i v hv
        split at h
        · rename_i q hq
          cases h
          exact Ev.stp (List.mem_of_getElem? hx) hv (Ev.pvs hq k)
        · cases h
          exact Ev.stp (List.mem_of_getElem? hx) hv k
      · exact Ev.pvs h k
    · cases h
end
end
end Go.Proofs.YtnbkjcmmjgkdaaaGreat

/-
  The functions' small code, as a program printed it off the translation; each held against the model's own code by the kernel.
-/
namespace Go.Proofs.YtnbkjcmmjgkdaaaGreat
open Go
set_option maxRecDepth 100000
/-- rundale/rundalelaw17.GatherNone -/
def c3 : Fu := ⟨106, [.t 4],
  (.sq (.rg [⟨(some 4), none, .mv (.c (.bool false))⟩])
  (.sq (.rg [⟨(some 18), none, .ca 9 []⟩,
    ⟨(some 5), none, .mv (.t 18)⟩])
  (.sq (.sq (.rg [⟨(some 19), none, .mv (.t 5)⟩,
    ⟨(some 20), none, .nt (.t 19)⟩])
  (.cd (.t 20)
  (.sq (.rg [⟨(some 4), none, .mv (.c (.bool false))⟩])
  .rt)
  .sk))
  (.sq (.rg [⟨(some 21), none, .mv (.t 0)⟩,
    ⟨(some 22), none, .ca 10 [(.t 21)]⟩,
    ⟨(some 6), none, .al 24 [(.int .i64 0), (.int .i64 0), (.int .i64 0), (.int .i64 0), (.int .i64 0), (.int .i64 0)]⟩,
    ⟨none, none, .st (.t 6) (.t 22) 6⟩])
  (.sq (.rg [⟨(some 24), none, .mv (.t 1)⟩,
    ⟨(some 25), none, .ld (.t 6) 6 true⟩,
    ⟨(some 26), none, .ca 13 [(.t 25)]⟩,
    ⟨(some 27), none, .ib .sub (.t 26) (.c (.int .i64 1))⟩,
    ⟨(some 28), none, .ca 12 [(.t 24), (.t 27)]⟩,
    ⟨(some 29), none, .ib .add (.c (.int .i64 1)) (.t 28)⟩,
    ⟨(some 30), none, .ca 11 [(.t 29)]⟩,
    ⟨(some 23), none, .mv (.t 30)⟩,
    ⟨(some 31), none, .ex (.t 23) 0⟩,
    ⟨(some 32), none, .ex (.t 23) 1⟩,
    ⟨(some 7), none, .mv (.t 31)⟩,
    ⟨(some 8), none, .mv (.t 32)⟩])
  (.sq (.rg [⟨(some 34), none, .ld (.t 6) 6 true⟩,
    ⟨(some 35), none, .ca 13 [(.t 34)]⟩,
    ⟨(some 36), none, .ca 11 [(.t 35)]⟩,
    ⟨(some 33), none, .mv (.t 36)⟩,
    ⟨(some 37), none, .ex (.t 33) 0⟩,
    ⟨(some 38), none, .ex (.t 33) 1⟩,
    ⟨(some 9), none, .mv (.t 37)⟩,
    ⟨(some 10), none, .mv (.t 38)⟩])
  (.sq (.sq (.rg [⟨(some 39), none, .mv (.t 7)⟩,
    ⟨(some 40), none, .en 0 false (.t 39) (.c (.pointer none))⟩,
    ⟨(some 41), none, .mv (.t 40)⟩,
    ⟨(some 42), (some (41, false)), .mv (.t 8)⟩,
    ⟨(some 43), (some (41, false)), .ib .neq (.t 42) (.c (.int .i64 0))⟩,
    ⟨(some 44), none, .pk (.t 41) (.c (.bool true)) (.t 43)⟩,
    ⟨(some 45), none, .mv (.t 44)⟩,
    ⟨(some 46), (some (45, false)), .mv (.t 9)⟩,
    ⟨(some 47), (some (45, false)), .en 0 false (.t 46) (.c (.pointer none))⟩,
    ⟨(some 48), none, .pk (.t 45) (.c (.bool true)) (.t 47)⟩,
    ⟨(some 49), none, .mv (.t 48)⟩,
    ⟨(some 50), (some (49, false)), .mv (.t 10)⟩,
    ⟨(some 51), (some (49, false)), .ib .neq (.t 50) (.c (.int .i64 0))⟩,
    ⟨(some 52), none, .pk (.t 49) (.c (.bool true)) (.t 51)⟩])
  (.cd (.t 52)
  (.sq (.rg [⟨(some 4), none, .mv (.c (.bool false))⟩])
  .rt)
  .sk))
  (.sq (.rg [⟨(some 54), none, .mv (.t 7)⟩,
    ⟨(some 55), none, .ld (.t 6) 6 true⟩,
    ⟨(some 56), none, .ca 14 [(.t 54), (.t 55)]⟩,
    ⟨(some 53), none, .mv (.t 56)⟩,
    ⟨(some 57), none, .ex (.t 53) 0⟩,
    ⟨(some 58), none, .ex (.t 53) 1⟩,
    ⟨(some 11), none, .mv (.t 57)⟩,
    ⟨(some 12), none, .mv (.t 58)⟩])
  (.sq (.rg [⟨(some 59), none, .ld (.t 6) 6 true⟩,
    ⟨(some 13), none, .al 24 [(.int .i64 0), (.int .i64 0), (.int .i64 0), (.int .i64 0), (.int .i64 0), (.int .i64 0)]⟩,
    ⟨none, none, .st (.t 13) (.t 59) 6⟩])
  (.sq (.rg [⟨(some 60), none, .mv (.t 1)⟩,
    ⟨(some 61), none, .ca 12 [(.t 60), (.c (.int .i64 1000))]⟩,
    ⟨(some 62), none, .ng (.t 61)⟩,
    ⟨(some 63), none, .fa (.t 13) 3⟩,
    ⟨none, none, .st (.t 63) (.t 62) 1⟩])
  (.sq (.rg [⟨(some 65), none, .mv (.t 9)⟩,
    ⟨(some 66), none, .ld (.t 13) 6 true⟩,
    ⟨(some 67), none, .ca 14 [(.t 65), (.t 66)]⟩,
    ⟨(some 64), none, .mv (.t 67)⟩,
    ⟨(some 68), none, .ex (.t 64) 0⟩,
    ⟨(some 69), none, .ex (.t 64) 1⟩,
    ⟨(some 14), none, .mv (.t 68)⟩,
    ⟨(some 15), none, .mv (.t 69)⟩])
  (.sq (.rg [⟨(some 71), none, .mv (.t 9)⟩,
    ⟨(some 72), none, .ld (.t 6) 6 true⟩,
    ⟨(some 73), none, .ca 14 [(.t 71), (.t 72)]⟩,
    ⟨(some 70), none, .mv (.t 73)⟩,
    ⟨(some 74), none, .ex (.t 70) 0⟩,
    ⟨(some 75), none, .ex (.t 70) 1⟩,
    ⟨(some 16), none, .mv (.t 74)⟩,
    ⟨(some 17), none, .mv (.t 75)⟩])
  (.sq (.rg [⟨(some 76), none, .mv (.t 5)⟩,
    ⟨(some 77), none, .mv (.t 76)⟩,
    ⟨(some 78), (some (77, true)), .mv (.t 11)⟩,
    ⟨(some 79), (some (77, true)), .en 0 false (.t 78) (.c (.pointer none))⟩,
    ⟨(some 80), none, .pk (.t 77) (.t 79) (.c (.bool false))⟩,
    ⟨(some 81), none, .mv (.t 80)⟩,
    ⟨(some 82), (some (81, true)), .mv (.t 12)⟩,
    ⟨(some 83), (some (81, true)), .ib .eql (.t 82) (.c (.int .i64 1))⟩,
    ⟨(some 84), none, .pk (.t 81) (.t 83) (.c (.bool false))⟩,
    ⟨(some 85), none, .mv (.t 84)⟩,
    ⟨(some 86), (some (85, true)), .mv (.t 14)⟩,
    ⟨(some 87), (some (85, true)), .en 0 false (.t 86) (.c (.pointer none))⟩,
    ⟨(some 88), none, .pk (.t 85) (.t 87) (.c (.bool false))⟩,
    ⟨(some 89), none, .mv (.t 88)⟩,
    ⟨(some 90), (some (89, true)), .mv (.t 15)⟩,
    ⟨(some 91), (some (89, true)), .ib .eql (.t 90) (.c (.int .i64 1))⟩,
    ⟨(some 92), none, .pk (.t 89) (.t 91) (.c (.bool false))⟩,
    ⟨(some 93), none, .mv (.t 92)⟩,
    ⟨(some 94), (some (93, true)), .mv (.t 16)⟩,
    ⟨(some 95), (some (93, true)), .en 0 true (.t 94) (.c (.pointer none))⟩,
    ⟨(some 96), none, .pk (.t 93) (.t 95) (.c (.bool false))⟩,
    ⟨(some 97), none, .mv (.t 96)⟩,
    ⟨(some 98), (some (97, true)), .mv (.t 17)⟩,
    ⟨(some 99), (some (97, true)), .ib .eql (.t 98) (.c (.int .i64 0))⟩,
    ⟨(some 100), none, .pk (.t 97) (.t 99) (.c (.bool false))⟩,
    ⟨(some 101), none, .mv (.t 100)⟩,
    ⟨(some 102), (some (101, true)), .mv (.t 9)⟩,
    ⟨(some 103), (some (101, true)), .ca 15 [(.t 102)]⟩,
    ⟨(some 104), (some (101, true)), .ib .eql (.t 103) (.c (.int .i64 0))⟩,
    ⟨(some 105), none, .pk (.t 101) (.t 104) (.c (.bool false))⟩,
    ⟨(some 4), none, .mv (.t 105)⟩])
  .rt)))))))))))))⟩
theorem k3 : cF Tryz.prog Tryz.f3 = some c3 := by kernel_rfl
/-- rundale/rundalelaw13.SupplyAll -/
def c4 : Fu := ⟨179, [.t 2],
  (.sq (.rg [⟨(some 2), none, .mv (.c (.bool false))⟩])
  (.sq (.rg [⟨(some 19), none, .ca 16 []⟩,
    ⟨(some 3), none, .mv (.t 19)⟩])
  (.sq (.sq (.rg [⟨(some 20), none, .mv (.t 3)⟩,
    ⟨(some 21), none, .nt (.t 20)⟩])
  (.cd (.t 21)
  (.sq (.rg [⟨(some 2), none, .mv (.c (.bool false))⟩])
  .rt)
  .sk))
  (.sq (.rg [⟨(some 22), none, .mv (.t 0)⟩,
    ⟨(some 23), none, .ca 10 [(.t 22)]⟩,
    ⟨(some 4), none, .al 24 [(.int .i64 0), (.int .i64 0), (.int .i64 0), (.int .i64 0), (.int .i64 0), (.int .i64 0)]⟩,
    ⟨none, none, .st (.t 4) (.t 23) 6⟩])
  (.sq (.rg [⟨(some 24), none, .ld (.t 4) 6 true⟩,
    ⟨(some 25), none, .ca 17 [(.t 24), (.c (.int .i64 1))]⟩,
    ⟨(some 5), none, .mv (.t 25)⟩])
  (.sq (.sq (.rg [⟨(some 26), none, .mv (.t 5)⟩,
    ⟨(some 27), none, .en 0 false (.t 26) (.c (.pointer none))⟩])
  (.cd (.t 27)
  (.sq (.rg [⟨(some 2), none, .mv (.c (.bool false))⟩])
  .rt)
  .sk))
  (.sq (.rg [⟨(some 28), none, .mv (.t 5)⟩,
    ⟨(some 29), none, .nc (.t 28)⟩,
    ⟨(some 30), none, .fa (.t 29) 2⟩,
    ⟨(some 31), none, .ld (.t 30) 1 false⟩,
    ⟨(some 32), none, .ia (.t 31) (.c (.int .i64 0)) 1⟩,
    ⟨(some 33), none, .ld (.t 32) 1 false⟩,
    ⟨(some 6), none, .mv (.t 33)⟩])
  (.sq (.rg [⟨(some 34), none, .fa (.t 4) 1⟩,
    ⟨(some 35), none, .ld (.t 34) 1 false⟩,
    ⟨(some 36), none, .mk 4 1 1 [(.bool false)] (.t 35) (.t 35)⟩,
    ⟨(some 7), none, .mv (.t 36)⟩])
  (.sq (.sq (.rg [⟨(some 8), none, .mv (.c (.int .i64 0))⟩])
  (.bl 0
  (.lp
  (.sq (.sq (.rg [⟨(some 37), none, .mv (.t 8)⟩,
    ⟨(some 38), none, .fa (.t 4) 1⟩,
    ⟨(some 39), none, .ld (.t 38) 1 false⟩,
    ⟨(some 40), none, .ib .lss (.t 37) (.t 39)⟩])
  (.cd (.t 40)
  .sk
  (.ex 0)))
  (.sq (.bl 1
  (.sq (.rg [⟨(some 44), none, .mv (.t 6)⟩,
    ⟨(some 45), none, .ca 18 [(.t 44)]⟩,
    ⟨(some 43), none, .mv (.t 45)⟩,
    ⟨(some 46), none, .ex (.t 43) 0⟩,
    ⟨(some 47), none, .ex (.t 43) 1⟩,
    ⟨(some 48), none, .ex (.t 43) 2⟩,
    ⟨(some 9), none, .mv (.t 46)⟩,
    ⟨(some 10), none, .mv (.t 47)⟩,
    ⟨(some 11), none, .mv (.t 48)⟩])
  (.sq (.sq (.rg [⟨(some 49), none, .mv (.t 10)⟩,
    ⟨(some 50), none, .nt (.t 49)⟩,
    ⟨(some 51), none, .mv (.t 50)⟩,
    ⟨(some 52), (some (51, false)), .mv (.t 9)⟩,
    ⟨(some 53), (some (51, false)), .ib .lss (.t 52) (.c (.int .i64 0))⟩,
    ⟨(some 54), none, .pk (.t 51) (.c (.bool true)) (.t 53)⟩,
    ⟨(some 55), none, .mv (.t 54)⟩,
    ⟨(some 56), (some (55, false)), .mv (.t 9)⟩,
    ⟨(some 57), (some (55, false)), .fa (.t 4) 1⟩,
    ⟨(some 58), (some (55, false)), .ld (.t 57) 1 false⟩,
    ⟨(some 59), (some (55, false)), .ib .geq (.t 56) (.t 58)⟩,
    ⟨(some 60), none, .pk (.t 55) (.c (.bool true)) (.t 59)⟩,
    ⟨(some 61), none, .mv (.t 60)⟩,
    ⟨(some 62), (some (61, false)), .mv (.t 7)⟩,
    ⟨(some 63), (some (61, false)), .mv (.t 9)⟩,
    ⟨(some 64), (some (61, false)), .ia (.t 62) (.t 63) 1⟩,
    ⟨(some 65), (some (61, false)), .ld (.t 64) 1 false⟩,
    ⟨(some 66), none, .pk (.t 61) (.c (.bool true)) (.t 65)⟩,
    ⟨(some 67), none, .mv (.t 66)⟩,
    ⟨(some 68), (some (67, false)), .mv (.t 11)⟩,
    ⟨(some 69), (some (67, false)), .ib .lss (.t 68) (.c (.int .i64 0))⟩,
    ⟨(some 70), none, .pk (.t 67) (.c (.bool true)) (.t 69)⟩,
    ⟨(some 71), none, .mv (.t 70)⟩,
    ⟨(some 72), (some (71, false)), .mv (.t 11)⟩,
    ⟨(some 73), (some (71, false)), .fa (.t 4) 5⟩,
    ⟨(some 74), (some (71, false)), .ld (.t 73) 1 false⟩,
    ⟨(some 75), (some (71, false)), .ib .add (.t 74) (.c (.int .i64 2))⟩,
    ⟨(some 76), (some (71, false)), .ib .gtr (.t 72) (.t 75)⟩,
    ⟨(some 77), none, .pk (.t 71) (.c (.bool true)) (.t 76)⟩])
  (.cd (.t 77)
  (.sq (.rg [⟨(some 2), none, .mv (.c (.bool false))⟩])
  .rt)
  .sk))
  (.rg [⟨(some 78), none, .mv (.t 7)⟩,
    ⟨(some 79), none, .mv (.t 9)⟩,
    ⟨(some 80), none, .ia (.t 78) (.t 79) 1⟩,
    ⟨none, none, .st (.t 80) (.c (.bool true)) 1⟩]))))
  (.rg [⟨(some 41), none, .mv (.t 8)⟩,
    ⟨(some 42), none, .ib .add (.t 41) (.c (.int .i64 1))⟩,
    ⟨(some 8), none, .mv (.t 42)⟩]))))))
  (.sq (.rg [⟨(some 82), none, .mv (.t 6)⟩,
    ⟨(some 83), none, .ca 18 [(.t 82)]⟩,
    ⟨(some 81), none, .mv (.t 83)⟩,
    ⟨(some 84), none, .ex (.t 81) 0⟩,
    ⟨(some 85), none, .ex (.t 81) 1⟩,
    ⟨(some 86), none, .ex (.t 81) 2⟩,
    ⟨(some 12), none, .mv (.t 84)⟩,
    ⟨(some 13), none, .mv (.t 85)⟩,
    ⟨(some 14), none, .mv (.t 86)⟩])
  (.sq (.sq (.rg [⟨(some 87), none, .mv (.t 12)⟩,
    ⟨(some 88), none, .ib .neq (.t 87) (.c (.int .i64 0))⟩,
    ⟨(some 89), none, .mv (.t 88)⟩,
    ⟨(some 90), (some (89, false)), .mv (.t 13)⟩,
    ⟨(some 91), none, .pk (.t 89) (.c (.bool true)) (.t 90)⟩,
    ⟨(some 92), none, .mv (.t 91)⟩,
    ⟨(some 93), (some (92, false)), .mv (.t 14)⟩,
    ⟨(some 94), (some (92, false)), .ib .neq (.t 93) (.c (.int .i64 1))⟩,
    ⟨(some 95), none, .pk (.t 92) (.c (.bool true)) (.t 94)⟩,
    ⟨(some 96), none, .mv (.t 95)⟩,
    ⟨(some 97), (some (96, false)), .mv (.t 6)⟩,
    ⟨(some 98), (some (96, false)), .ca 19 [(.t 97)]⟩,
    ⟨(some 99), (some (96, false)), .len (.t 98)⟩,
    ⟨(some 100), (some (96, false)), .ib .neq (.t 99) (.c (.int .i64 0))⟩,
    ⟨(some 101), none, .pk (.t 96) (.c (.bool true)) (.t 100)⟩])
  (.cd (.t 101)
  (.sq (.rg [⟨(some 2), none, .mv (.c (.bool false))⟩])
  .rt)
  .sk))
  (.sq (.sq (.rg [⟨(some 15), none, .mv (.c (.int .i64 0))⟩])
  (.bl 2
  (.lp
  (.sq (.sq (.rg [⟨(some 102), none, .mv (.t 15)⟩,
    ⟨(some 103), none, .fa (.t 4) 1⟩,
    ⟨(some 104), none, .ld (.t 103) 1 false⟩,
    ⟨(some 105), none, .ib .lss (.t 102) (.t 104)⟩])
  (.cd (.t 105)
  .sk
  (.ex 2)))
  (.sq (.bl 3
  (.rg [⟨(some 108), none, .mv (.t 6)⟩,
    ⟨(some 109), none, .mv (.t 15)⟩,
    ⟨(some 110), none, .bs 3 1 [(.int .i64 0)] [(0, 1, (.t 109))]⟩,
    ⟨(some 111), none, .ca 20 [(.t 108), (.t 110)]⟩]))
  (.rg [⟨(some 106), none, .mv (.t 15)⟩,
    ⟨(some 107), none, .ib .add (.t 106) (.c (.int .i64 1))⟩,
    ⟨(some 15), none, .mv (.t 107)⟩]))))))
  (.sq (.rg [⟨(some 112), none, .fa (.t 4) 1⟩,
    ⟨(some 113), none, .ld (.t 112) 1 false⟩,
    ⟨(some 114), none, .fa (.t 4) 4⟩,
    ⟨(some 115), none, .ld (.t 114) 1 false⟩,
    ⟨(some 116), none, .ib .sub (.t 113) (.t 115)⟩,
    ⟨(some 117), none, .mm true (.t 116) (.c (.int .i64 0))⟩,
    ⟨(some 16), none, .mv (.t 117)⟩])
  (.sq (.rg [⟨(some 17), none, .mv (.c (.int .i64 0))⟩])
  (.sq (.sq (.rg [⟨(some 118), none, .mv (.t 16)⟩,
    ⟨(some 119), none, .ib .gtr (.t 118) (.c (.int .i64 0))⟩])
  (.cd (.t 119)
  (.rg [⟨(some 120), none, .mv (.t 16)⟩,
    ⟨(some 121), none, .ib .add (.t 120) (.c (.int .i64 2))⟩,
    ⟨(some 17), none, .mv (.t 121)⟩])
  .sk))
  (.sq (.sq (.rd [⟨0, 0, [6], ⟨(some 122), none, .mv (.t 6)⟩⟩,
    ⟨1, 1, [122], ⟨(some 123), none, .ca 22 [(.t 122)]⟩⟩,
    ⟨2, 3, [123], ⟨(some 124), none, .ca 21 [(.t 123)]⟩⟩,
    ⟨3, 0, [17], ⟨(some 125), none, .mv (.t 17)⟩⟩,
    ⟨4, 15, [124, 125], ⟨(some 126), none, .ib .neq (.t 124) (.t 125)⟩⟩,
    ⟨5, 31, [126], ⟨(some 127), none, .mv (.t 126)⟩⟩,
    ⟨6, 63, [6, 127], ⟨(some 128), (some (127, false)), .mv (.t 6)⟩⟩,
    ⟨7, 127, [128, 127], ⟨(some 129), (some (127, false)), .ca 19 [(.t 128)]⟩⟩,
    ⟨8, 255, [129, 127], ⟨(some 130), (some (127, false)), .len (.t 129)⟩⟩,
    ⟨9, 63, [4, 127], ⟨(some 131), (some (127, false)), .fa (.t 4) 1⟩⟩,
    ⟨10, 575, [131, 127], ⟨(some 132), (some (127, false)), .ld (.t 131) 1 false⟩⟩,
    ⟨11, 63, [16, 127], ⟨(some 133), (some (127, false)), .mv (.t 16)⟩⟩,
    ⟨12, 3647, [132, 133, 127], ⟨(some 134), (some (127, false)), .ib .sub (.t 132) (.t 133)⟩⟩,
    ⟨13, 8191, [130, 134, 127], ⟨(some 135), (some (127, false)), .ib .neq (.t 130) (.t 134)⟩⟩,
    ⟨14, 16383, [127, 135], ⟨(some 136), none, .pk (.t 127) (.c (.bool true)) (.t 135)⟩⟩,
    ⟨15, 32767, [136], ⟨(some 137), none, .mv (.t 136)⟩⟩,
    ⟨16, 65535, [5, 137], ⟨(some 138), (some (137, false)), .mv (.t 5)⟩⟩,
    ⟨17, 131071, [138, 137], ⟨(some 139), (some (137, false)), .nc (.t 138)⟩⟩,
    ⟨18, 262143, [139, 137], ⟨(some 140), (some (137, false)), .fa (.t 139) 1⟩⟩,
    ⟨19, 524287, [140, 137], ⟨(some 141), (some (137, false)), .ld (.t 140) 1 false⟩⟩,
    ⟨20, 1048575, [141, 137], ⟨(some 142), (some (137, false)), .ca 23 [(.t 141)]⟩⟩,
    ⟨21, 2097151, [142, 137], ⟨(some 143), (some (137, false)), .len (.t 142)⟩⟩,
    ⟨22, 65535, [16, 137], ⟨(some 144), (some (137, false)), .mv (.t 16)⟩⟩,
    ⟨23, 8388607, [143, 144, 137], ⟨(some 145), (some (137, false)), .ib .neq (.t 143) (.t 144)⟩⟩,
    ⟨24, 16777215, [137, 145], ⟨(some 146), none, .pk (.t 137) (.c (.bool true)) (.t 145)⟩⟩])
  (.cd (.t 146)
  (.sq (.rg [⟨(some 2), none, .mv (.c (.bool false))⟩])
  .rt)
  .sk))
  (.sq (.rg [⟨(some 147), none, .mv (.t 6)⟩,
    ⟨(some 148), none, .ca 19 [(.t 147)]⟩,
    ⟨(some 149), none, .len (.t 148)⟩,
    ⟨(some 18), none, .mv (.t 149)⟩])
  (.sq (.rg [⟨(some 17), none, .mv (.c (.int .i64 0))⟩])
  (.sq (.sq (.rg [⟨(some 150), none, .mv (.t 18)⟩,
    ⟨(some 151), none, .ib .gtr (.t 150) (.c (.int .i64 0))⟩])
  (.cd (.t 151)
  (.rg [⟨(some 152), none, .mv (.t 18)⟩,
    ⟨(some 153), none, .ib .add (.t 152) (.c (.int .i64 2))⟩,
    ⟨(some 17), none, .mv (.t 153)⟩])
  .sk))
  (.sq (.rd [⟨0, 0, [3], ⟨(some 154), none, .mv (.t 3)⟩⟩,
    ⟨1, 1, [154], ⟨(some 155), none, .mv (.t 154)⟩⟩,
    ⟨2, 3, [6, 155], ⟨(some 156), (some (155, true)), .mv (.t 6)⟩⟩,
    ⟨3, 7, [156, 155], ⟨(some 157), (some (155, true)), .ca 24 [(.t 156)]⟩⟩,
    ⟨4, 15, [157, 155], ⟨(some 158), (some (155, true)), .ca 21 [(.t 157)]⟩⟩,
    ⟨5, 3, [17, 155], ⟨(some 159), (some (155, true)), .mv (.t 17)⟩⟩,
    ⟨6, 63, [158, 159, 155], ⟨(some 160), (some (155, true)), .ib .eql (.t 158) (.t 159)⟩⟩,
    ⟨7, 127, [155, 160], ⟨(some 161), none, .pk (.t 155) (.t 160) (.c (.bool false))⟩⟩,
    ⟨8, 255, [161], ⟨(some 162), none, .mv (.t 161)⟩⟩,
    ⟨9, 511, [6, 162], ⟨(some 163), (some (162, true)), .mv (.t 6)⟩⟩,
    ⟨10, 1023, [163, 162], ⟨(some 164), (some (162, true)), .ca 19 [(.t 163)]⟩⟩,
    ⟨11, 2047, [164, 162], ⟨(some 165), (some (162, true)), .len (.t 164)⟩⟩,
    ⟨12, 4095, [165, 162], ⟨(some 166), (some (162, true)), .ib .eql (.t 165) (.c (.int .i64 0))⟩⟩,
    ⟨13, 8191, [162, 166], ⟨(some 167), none, .pk (.t 162) (.t 166) (.c (.bool false))⟩⟩,
    ⟨14, 16383, [167], ⟨(some 168), none, .mv (.t 167)⟩⟩,
    ⟨15, 32767, [5, 168], ⟨(some 169), (some (168, true)), .mv (.t 5)⟩⟩,
    ⟨16, 65535, [169, 168], ⟨(some 170), (some (168, true)), .nc (.t 169)⟩⟩,
    ⟨17, 131071, [170, 168], ⟨(some 171), (some (168, true)), .fa (.t 170) 1⟩⟩,
    ⟨18, 262143, [171, 168], ⟨(some 172), (some (168, true)), .ld (.t 171) 1 false⟩⟩,
    ⟨19, 524287, [172, 168], ⟨(some 173), (some (168, true)), .ca 23 [(.t 172)]⟩⟩,
    ⟨20, 1048575, [173, 168], ⟨(some 174), (some (168, true)), .len (.t 173)⟩⟩,
    ⟨21, 32767, [4, 168], ⟨(some 175), (some (168, true)), .fa (.t 4) 1⟩⟩,
    ⟨22, 2129919, [175, 168], ⟨(some 176), (some (168, true)), .ld (.t 175) 1 false⟩⟩,
    ⟨23, 8388607, [174, 176, 168], ⟨(some 177), (some (168, true)), .ib .eql (.t 174) (.t 176)⟩⟩,
    ⟨24, 16777215, [168, 177], ⟨(some 178), none, .pk (.t 168) (.t 177) (.c (.bool false))⟩⟩,
    ⟨25, 33554431, [178], ⟨(some 2), none, .mv (.t 178)⟩⟩])
  .rt))))))))))))))))))))⟩
theorem k4 : cF Tryz.prog Tryz.f4 = some c4 := by kernel_rfl
/-- rundale/rundalelaw13.SupplyPlays -/
def c5 : Fu := ⟨68, [.t 4],
  (.sq (.rg [⟨(some 4), none, .mv (.c (.bool false))⟩])
  (.sq (.rg [⟨(some 10), none, .ca 16 []⟩,
    ⟨(some 5), none, .mv (.t 10)⟩])
  (.sq (.sq (.rg [⟨(some 11), none, .mv (.t 5)⟩,
    ⟨(some 12), none, .nt (.t 11)⟩])
  (.cd (.t 12)
  (.sq (.rg [⟨(some 4), none, .mv (.c (.bool false))⟩])
  .rt)
  .sk))
  (.sq (.sq (.rg [⟨(some 13), none, .mv (.t 1)⟩,
    ⟨(some 14), none, .len (.t 13)⟩,
    ⟨(some 15), none, .ib .gtr (.t 14) (.c (.int .i64 120))⟩])
  (.cd (.t 15)
  (.sq (.rg [⟨(some 16), none, .mv (.t 5)⟩,
    ⟨(some 4), none, .mv (.t 16)⟩])
  .rt)
  .sk))
  (.sq (.rg [⟨(some 17), none, .mv (.t 0)⟩,
    ⟨(some 18), none, .ca 10 [(.t 17)]⟩,
    ⟨(some 6), none, .al 24 [(.int .i64 0), (.int .i64 0), (.int .i64 0), (.int .i64 0), (.int .i64 0), (.int .i64 0)]⟩,
    ⟨none, none, .st (.t 6) (.t 18) 6⟩])
  (.sq (.rg [⟨(some 19), none, .ld (.t 6) 6 true⟩,
    ⟨(some 20), none, .ca 17 [(.t 19), (.c (.int .i64 3))]⟩,
    ⟨(some 7), none, .mv (.t 20)⟩])
  (.sq (.sq (.rg [⟨(some 21), none, .mv (.t 7)⟩,
    ⟨(some 22), none, .en 0 false (.t 21) (.c (.pointer none))⟩])
  (.cd (.t 22)
  (.sq (.rg [⟨(some 4), none, .mv (.c (.bool false))⟩])
  .rt)
  .sk))
  (.sq (.rg [⟨(some 23), none, .bd [(.pointer none), (.pointer none), (.pointer none), (.pointer none), (.pointer none), (.pointer none), (.pointer none), (.pointer none), (.pointer none), (.pointer none), (.pointer none), (.pointer none), (.slice none 0 0), (.slice none 0 0), (.slice none 0 0), (.int .i64 0), (.int .i64 0), (.int .i64 0)] []⟩,
    ⟨(some 24), none, .bx 67 (.t 23)⟩,
    ⟨(some 8), none, .mv (.t 24)⟩])
  (.sq (.sq (.rg [⟨(some 9), none, .mv (.c (.int .i64 0))⟩])
  (.bl 0
  (.lp
  (.sq (.sq (.rg [⟨(some 25), none, .mv (.t 9)⟩,
    ⟨(some 26), none, .mv (.t 1)⟩,
    ⟨(some 27), none, .len (.t 26)⟩,
    ⟨(some 28), none, .ib .lss (.t 25) (.t 27)⟩])
  (.cd (.t 28)
  .sk
  (.ex 0)))
  (.sq (.bl 1
  (.sq (.rd [⟨0, 0, [8], ⟨(some 31), none, .mv (.t 8)⟩⟩,
    ⟨1, 0, [7], ⟨(some 32), none, .mv (.t 7)⟩⟩,
    ⟨2, 0, [1], ⟨(some 33), none, .mv (.t 1)⟩⟩,
    ⟨3, 0, [9], ⟨(some 34), none, .mv (.t 9)⟩⟩,
    ⟨4, 12, [33, 34], ⟨(some 35), none, .ia (.t 33) (.t 34) 1⟩⟩,
    ⟨5, 28, [35], ⟨(some 36), none, .ld (.t 35) 1 false⟩⟩,
    ⟨6, 60, [36], ⟨(some 37), none, .ca 12 [(.t 36), (.c (.int .i64 3))]⟩⟩,
    ⟨7, 0, [1], ⟨(some 38), none, .mv (.t 1)⟩⟩,
    ⟨8, 0, [9], ⟨(some 39), none, .mv (.t 9)⟩⟩,
    ⟨9, 384, [38, 39], ⟨(some 40), none, .ia (.t 38) (.t 39) 1⟩⟩,
    ⟨10, 896, [40], ⟨(some 41), none, .ld (.t 40) 1 false⟩⟩,
    ⟨11, 1920, [41], ⟨(some 42), none, .ib .quo (.t 41) (.c (.int .i64 3))⟩⟩,
    ⟨12, 4092, [42], ⟨(some 43), none, .ca 12 [(.t 42), (.c (.int .i64 280))]⟩⟩,
    ⟨13, 8191, [31, 32, 37, 43], ⟨(some 44), none, .ca 25 [(.t 31), (.t 32), (.t 37), (.t 43)]⟩⟩,
    ⟨14, 16383, [44], ⟨(some 45), none, .nt (.t 44)⟩⟩,
    ⟨15, 32767, [45], ⟨(some 46), none, .mv (.t 45)⟩⟩,
    ⟨16, 65535, [7, 46], ⟨(some 47), (some (46, false)), .mv (.t 7)⟩⟩,
    ⟨17, 131071, [47, 46], ⟨(some 48), (some (46, false)), .ca 26 [(.t 47)]⟩⟩,
    ⟨18, 262143, [48, 46], ⟨(some 49), (some (46, false)), .nt (.t 48)⟩⟩,
    ⟨19, 524287, [46, 49], ⟨(some 50), none, .pk (.t 46) (.c (.bool true)) (.t 49)⟩⟩])
  (.cd (.t 50)
  (.sq (.rg [⟨(some 4), none, .mv (.c (.bool false))⟩])
  .rt)
  .sk)))
  (.rg [⟨(some 29), none, .mv (.t 9)⟩,
    ⟨(some 30), none, .ib .add (.t 29) (.c (.int .i64 1))⟩,
    ⟨(some 9), none, .mv (.t 30)⟩]))))))
  (.sq (.rd [⟨0, 0, [5], ⟨(some 51), none, .mv (.t 5)⟩⟩,
    ⟨1, 1, [51], ⟨(some 52), none, .mv (.t 51)⟩⟩,
    ⟨2, 3, [7, 52], ⟨(some 53), (some (52, true)), .mv (.t 7)⟩⟩,
    ⟨3, 7, [53, 52], ⟨(some 54), (some (52, true)), .nc (.t 53)⟩⟩,
    ⟨4, 15, [54, 52], ⟨(some 55), (some (52, true)), .fa (.t 54) 1⟩⟩,
    ⟨5, 31, [55, 52], ⟨(some 56), (some (52, true)), .ld (.t 55) 1 false⟩⟩,
    ⟨6, 63, [56, 52], ⟨(some 57), (some (52, true)), .ca 23 [(.t 56)]⟩⟩,
    ⟨7, 3, [7, 52], ⟨(some 58), (some (52, true)), .mv (.t 7)⟩⟩,
    ⟨8, 131, [58, 52], ⟨(some 59), (some (52, true)), .nc (.t 58)⟩⟩,
    ⟨9, 387, [59, 52], ⟨(some 60), (some (52, true)), .fa (.t 59) 3⟩⟩,
    ⟨10, 899, [60, 52], ⟨(some 61), (some (52, true)), .ld (.t 60) 1 false⟩⟩,
    ⟨11, 1923, [61, 52], ⟨(some 62), (some (52, true)), .nc (.t 61)⟩⟩,
    ⟨12, 3971, [62, 52], ⟨(some 63), (some (52, true)), .fa (.t 62) 7⟩⟩,
    ⟨13, 8067, [63, 52], ⟨(some 64), (some (52, true)), .ld (.t 63) 1 false⟩⟩,
    ⟨14, 16383, [64, 52], ⟨(some 65), (some (52, true)), .ca 28 [(.t 64)]⟩⟩,
    ⟨15, 32767, [57, 65, 52], ⟨(some 66), (some (52, true)), .ca 27 [(.t 57), (.t 65)]⟩⟩,
    ⟨16, 65535, [52, 66], ⟨(some 67), none, .pk (.t 52) (.t 66) (.c (.bool false))⟩⟩,
    ⟨17, 131071, [67], ⟨(some 4), none, .mv (.t 67)⟩⟩])
  .rt))))))))))⟩
theorem k5 : cF Tryz.prog Tryz.f5 = some c5 := by kernel_rfl
/-- rundale/rundalelaw17.GatherCosts -/
def c6 : Fu := ⟨128, [.t 4],
  (.sq (.rg [⟨(some 4), none, .mv (.c (.bool false))⟩])
  (.sq (.rg [⟨(some 15), none, .ca 9 []⟩,
    ⟨(some 5), none, .mv (.t 15)⟩])
  (.sq (.sq (.rg [⟨(some 16), none, .mv (.t 5)⟩,
    ⟨(some 17), none, .nt (.t 16)⟩])
  (.cd (.t 17)
  (.sq (.rg [⟨(some 4), none, .mv (.c (.bool false))⟩])
  .rt)
  .sk))
  (.sq (.rg [⟨(some 18), none, .mv (.t 0)⟩,
    ⟨(some 19), none, .ca 10 [(.t 18)]⟩,
    ⟨(some 20), none, .ca 29 [(.t 19)]⟩,
    ⟨(some 6), none, .mv (.t 20)⟩])
  (.sq (.sq (.rg [⟨(some 21), none, .mv (.t 6)⟩,
    ⟨(some 22), none, .en 0 false (.t 21) (.c (.pointer none))⟩])
  (.cd (.t 22)
  (.sq (.rg [⟨(some 4), none, .mv (.c (.bool false))⟩])
  .rt)
  .sk))
  (.sq (.rg [⟨(some 23), none, .mv (.t 1)⟩,
    ⟨(some 24), none, .mv (.t 6)⟩,
    ⟨(some 25), none, .nc (.t 24)⟩,
    ⟨(some 26), none, .fa (.t 25) 0⟩,
    ⟨(some 27), none, .fa (.t 26) 1⟩,
    ⟨(some 28), none, .ld (.t 27) 1 false⟩,
    ⟨(some 29), none, .ib .add (.t 28) (.c (.int .i64 1))⟩,
    ⟨(some 30), none, .ca 12 [(.t 23), (.t 29)]⟩,
    ⟨(some 7), none, .mv (.t 30)⟩])
  (.sq (.rg [⟨(some 8), none, .mv (.c (.slice none 0 0))⟩])
  (.sq (.sq (.rg [⟨(some 9), none, .mv (.c (.int .i64 0))⟩])
  (.bl 0
  (.lp
  (.sq (.sq (.rg [⟨(some 31), none, .mv (.t 9)⟩,
    ⟨(some 32), none, .mv (.t 7)⟩,
    ⟨(some 33), none, .ib .lss (.t 31) (.t 32)⟩])
  (.cd (.t 33)
  .sk
  (.ex 0)))
  (.sq (.bl 1
  (.sq (.rg [⟨(some 37), none, .mv (.t 6)⟩,
    ⟨(some 38), none, .ca 30 [(.t 37), (.c (.int .i64 0))]⟩,
    ⟨(some 36), none, .mv (.t 38)⟩,
    ⟨(some 39), none, .ex (.t 36) 0⟩,
    ⟨(some 40), none, .ex (.t 36) 1⟩,
    ⟨(some 10), none, .mv (.t 39)⟩,
    ⟨(some 11), none, .mv (.t 40)⟩])
  (.sq (.sq (.rg [⟨(some 41), none, .mv (.t 11)⟩,
    ⟨(some 42), none, .nt (.t 41)⟩])
  (.cd (.t 42)
  (.sq (.rg [⟨(some 4), none, .mv (.c (.bool false))⟩])
  .rt)
  .sk))
  (.rg [⟨(some 43), none, .mv (.t 8)⟩,
    ⟨(some 44), none, .mv (.t 10)⟩,
    ⟨(some 45), none, .bs 3 1 [(.int .i64 0)] [(0, 1, (.t 44))]⟩,
    ⟨(some 46), none, .ap 49 3 1 8 [(.int .i64 0)] (.t 43) (.t 45)⟩,
    ⟨(some 8), none, .mv (.t 46)⟩]))))
  (.rg [⟨(some 34), none, .mv (.t 9)⟩,
    ⟨(some 35), none, .ib .add (.t 34) (.c (.int .i64 1))⟩,
    ⟨(some 9), none, .mv (.t 35)⟩]))))))
  (.sq (.rg [⟨(some 47), none, .mv (.t 6)⟩,
    ⟨(some 48), none, .nc (.t 47)⟩,
    ⟨(some 49), none, .fa (.t 48) 10⟩,
    ⟨(some 50), none, .ld (.t 49) 1 false⟩,
    ⟨(some 51), none, .ia (.t 50) (.c (.int .i64 0)) 1⟩,
    ⟨(some 52), none, .ld (.t 51) 1 false⟩,
    ⟨(some 53), none, .mv (.t 8)⟩,
    ⟨(some 54), none, .ca 20 [(.t 52), (.t 53)]⟩])
  (.sq (.rg [⟨(some 55), none, .mv (.t 6)⟩,
    ⟨(some 56), none, .nc (.t 55)⟩,
    ⟨(some 57), none, .fa (.t 56) 0⟩,
    ⟨(some 58), none, .fa (.t 57) 0⟩,
    ⟨(some 59), none, .ld (.t 58) 1 false⟩,
    ⟨(some 60), none, .ib .add (.t 59) (.c (.int .i64 3))⟩,
    ⟨(some 12), none, .mv (.t 60)⟩])
  (.sq (.sq (.rg [⟨(some 61), none, .mv (.t 6)⟩,
    ⟨(some 62), none, .nc (.t 61)⟩,
    ⟨(some 63), none, .fa (.t 62) 10⟩,
    ⟨(some 64), none, .ld (.t 63) 1 false⟩,
    ⟨(some 65), none, .ia (.t 64) (.c (.int .i64 0)) 1⟩,
    ⟨(some 66), none, .ld (.t 65) 1 false⟩,
    ⟨(some 67), none, .ca 19 [(.t 66)]⟩,
    ⟨(some 68), none, .len (.t 67)⟩,
    ⟨(some 69), none, .ib .gtr (.t 68) (.c (.int .i64 0))⟩])
  (.cd (.t 69)
  (.rg [⟨(some 70), none, .mv (.t 12)⟩,
    ⟨(some 71), none, .mv (.t 6)⟩,
    ⟨(some 72), none, .nc (.t 71)⟩,
    ⟨(some 73), none, .fa (.t 72) 10⟩,
    ⟨(some 74), none, .ld (.t 73) 1 false⟩,
    ⟨(some 75), none, .ia (.t 74) (.c (.int .i64 0)) 1⟩,
    ⟨(some 76), none, .ld (.t 75) 1 false⟩,
    ⟨(some 77), none, .ca 19 [(.t 76)]⟩,
    ⟨(some 78), none, .len (.t 77)⟩,
    ⟨(some 79), none, .ib .add (.t 70) (.t 78)⟩,
    ⟨(some 80), none, .ib .add (.t 79) (.c (.int .i64 2))⟩,
    ⟨(some 12), none, .mv (.t 80)⟩])
  .sk))
  (.sq (.rg [⟨(some 82), none, .mv (.t 6)⟩,
    ⟨(some 83), none, .ca 31 [(.t 82), (.c (.int .i64 0))]⟩,
    ⟨(some 81), none, .mv (.t 83)⟩,
    ⟨(some 84), none, .ex (.t 81) 0⟩,
    ⟨(some 85), none, .ex (.t 81) 1⟩,
    ⟨(some 13), none, .mv (.t 84)⟩,
    ⟨(some 14), none, .mv (.t 85)⟩])
  (.sq (.rd [⟨0, 0, [5], ⟨(some 86), none, .mv (.t 5)⟩⟩,
    ⟨1, 1, [86], ⟨(some 87), none, .mv (.t 86)⟩⟩,
    ⟨2, 3, [13, 87], ⟨(some 88), (some (87, true)), .mv (.t 13)⟩⟩,
    ⟨3, 7, [87, 88], ⟨(some 89), none, .pk (.t 87) (.t 88) (.c (.bool false))⟩⟩,
    ⟨4, 15, [89], ⟨(some 90), none, .mv (.t 89)⟩⟩,
    ⟨5, 31, [14, 90], ⟨(some 91), (some (90, true)), .mv (.t 14)⟩⟩,
    ⟨6, 31, [12, 90], ⟨(some 92), (some (90, true)), .mv (.t 12)⟩⟩,
    ⟨7, 127, [91, 92, 90], ⟨(some 93), (some (90, true)), .ib .eql (.t 91) (.t 92)⟩⟩,
    ⟨8, 255, [90, 93], ⟨(some 94), none, .pk (.t 90) (.t 93) (.c (.bool false))⟩⟩,
    ⟨9, 511, [94], ⟨(some 95), none, .mv (.t 94)⟩⟩,
    ⟨10, 1023, [6, 95], ⟨(some 96), (some (95, true)), .mv (.t 6)⟩⟩,
    ⟨11, 2047, [96, 95], ⟨(some 97), (some (95, true)), .nc (.t 96)⟩⟩,
    ⟨12, 4095, [97, 95], ⟨(some 98), (some (95, true)), .fa (.t 97) 10⟩⟩,
    ⟨13, 8191, [98, 95], ⟨(some 99), (some (95, true)), .ld (.t 98) 1 false⟩⟩,
    ⟨14, 16383, [99, 95], ⟨(some 100), (some (95, true)), .ia (.t 99) (.c (.int .i64 0)) 1⟩⟩,
    ⟨15, 32767, [100, 95], ⟨(some 101), (some (95, true)), .ld (.t 100) 1 false⟩⟩,
    ⟨16, 65535, [101, 95], ⟨(some 102), (some (95, true)), .ca 19 [(.t 101)]⟩⟩,
    ⟨17, 131071, [102, 95], ⟨(some 103), (some (95, true)), .len (.t 102)⟩⟩,
    ⟨18, 262143, [103, 95], ⟨(some 104), (some (95, true)), .ib .eql (.t 103) (.c (.int .i64 0))⟩⟩,
    ⟨19, 524287, [95, 104], ⟨(some 105), none, .pk (.t 95) (.t 104) (.c (.bool false))⟩⟩,
    ⟨20, 1048575, [105], ⟨(some 106), none, .mv (.t 105)⟩⟩,
    ⟨21, 2097151, [6, 106], ⟨(some 107), (some (106, true)), .mv (.t 6)⟩⟩,
    ⟨22, 4194303, [107, 106], ⟨(some 108), (some (106, true)), .nc (.t 107)⟩⟩,
    ⟨23, 8388607, [108, 106], ⟨(some 109), (some (106, true)), .fa (.t 108) 9⟩⟩,
    ⟨24, 16777215, [109, 106], ⟨(some 110), (some (106, true)), .ld (.t 109) 1 false⟩⟩,
    ⟨25, 33554431, [110, 106], ⟨(some 111), (some (106, true)), .ca 23 [(.t 110)]⟩⟩,
    ⟨26, 67108863, [111, 106], ⟨(some 112), (some (106, true)), .len (.t 111)⟩⟩,
    ⟨27, 2097151, [6, 106], ⟨(some 113), (some (106, true)), .mv (.t 6)⟩⟩,
    ⟨28, 136314879, [113, 106], ⟨(some 114), (some (106, true)), .nc (.t 113)⟩⟩,
    ⟨29, 404750335, [114, 106], ⟨(some 115), (some (106, true)), .fa (.t 114) 0⟩⟩,
    ⟨30, 941621247, [115, 106], ⟨(some 116), (some (106, true)), .fa (.t 115) 1⟩⟩,
    ⟨31, 2015363071, [116, 106], ⟨(some 117), (some (106, true)), .ld (.t 116) 1 false⟩⟩,
    ⟨32, 4294967295, [112, 117, 106], ⟨(some 118), (some (106, true)), .ib .eql (.t 112) (.t 117)⟩⟩,
    ⟨33, 8589934591, [106, 118], ⟨(some 119), none, .pk (.t 106) (.t 118) (.c (.bool false))⟩⟩,
    ⟨34, 17179869183, [119], ⟨(some 120), none, .mv (.t 119)⟩⟩,
    ⟨35, 34359738367, [6, 120], ⟨(some 121), (some (120, true)), .mv (.t 6)⟩⟩,
    ⟨36, 68719476735, [121, 120], ⟨(some 122), (some (120, true)), .nc (.t 121)⟩⟩,
    ⟨37, 137438953471, [122, 120], ⟨(some 123), (some (120, true)), .fa (.t 122) 7⟩⟩,
    ⟨38, 274877906943, [123, 120], ⟨(some 124), (some (120, true)), .ld (.t 123) 1 false⟩⟩,
    ⟨39, 549755813887, [124, 120], ⟨(some 125), (some (120, true)), .ca 32 [(.t 124)]⟩⟩,
    ⟨40, 1099511627775, [125, 120], ⟨(some 126), (some (120, true)), .ib .eql (.t 125) (.c (.int .i64 1))⟩⟩,
    ⟨41, 2199023255551, [120, 126], ⟨(some 127), none, .pk (.t 120) (.t 126) (.c (.bool false))⟩⟩,
    ⟨42, 4398046511103, [127], ⟨(some 4), none, .mv (.t 127)⟩⟩])
  .rt)))))))))))))⟩
theorem k6 : cF Tryz.prog Tryz.f6 = some c6 := by kernel_rfl
/-- rundale/rundalelaw17.GatherPlays -/
def c7 : Fu := ⟨352, [.t 4],
  (.sq (.rg [⟨(some 4), none, .mv (.c (.bool false))⟩])
  (.sq (.rg [⟨(some 22), none, .ca 9 []⟩,
    ⟨(some 5), none, .mv (.t 22)⟩])
  (.sq (.sq (.rg [⟨(some 23), none, .mv (.t 5)⟩,
    ⟨(some 24), none, .nt (.t 23)⟩])
  (.cd (.t 24)
  (.sq (.rg [⟨(some 4), none, .mv (.c (.bool false))⟩])
  .rt)
  .sk))
  (.sq (.sq (.rg [⟨(some 25), none, .mv (.t 1)⟩,
    ⟨(some 26), none, .len (.t 25)⟩,
    ⟨(some 27), none, .ib .gtr (.t 26) (.c (.int .i64 150))⟩])
  (.cd (.t 27)
  (.sq (.rg [⟨(some 28), none, .mv (.t 5)⟩,
    ⟨(some 4), none, .mv (.t 28)⟩])
  .rt)
  .sk))
  (.sq (.rg [⟨(some 29), none, .mv (.t 0)⟩,
    ⟨(some 30), none, .ca 10 [(.t 29)]⟩,
    ⟨(some 31), none, .ca 29 [(.t 30)]⟩,
    ⟨(some 6), none, .mv (.t 31)⟩])
  (.sq (.sq (.rg [⟨(some 32), none, .mv (.t 6)⟩,
    ⟨(some 33), none, .en 0 false (.t 32) (.c (.pointer none))⟩])
  (.cd (.t 33)
  (.sq (.rg [⟨(some 4), none, .mv (.c (.bool false))⟩])
  .rt)
  .sk))
  (.sq (.rg [⟨(some 34), none, .mv (.t 6)⟩,
    ⟨(some 35), none, .nc (.t 34)⟩,
    ⟨(some 36), none, .fa (.t 35) 0⟩,
    ⟨(some 37), none, .fa (.t 36) 0⟩,
    ⟨(some 38), none, .ld (.t 37) 1 false⟩,
    ⟨(some 7), none, .mv (.t 38)⟩])
  (.sq (.rg [⟨(some 8), none, .al 86 [(.pointer none), (.pointer none), (.pointer none), (.pointer none)]⟩])
  (.sq (.rg [⟨(some 9), none, .al 88 [(.pointer none), (.pointer none), (.pointer none), (.pointer none)]⟩])
  (.sq (.sq (.rg [⟨(some 10), none, .mv (.c (.int .i64 0))⟩])
  (.bl 0
  (.lp
  (.sq (.sq (.rg [⟨(some 39), none, .mv (.t 10)⟩,
    ⟨(some 40), none, .mv (.t 1)⟩,
    ⟨(some 41), none, .len (.t 40)⟩,
    ⟨(some 42), none, .ib .lss (.t 39) (.t 41)⟩])
  (.cd (.t 42)
  .sk
  (.ex 0)))
  (.sq (.bl 1
  (.sq (.rd [⟨0, 0, [1], ⟨(some 45), none, .mv (.t 1)⟩⟩,
    ⟨1, 0, [10], ⟨(some 46), none, .mv (.t 10)⟩⟩,
    ⟨2, 3, [45, 46], ⟨(some 47), none, .ia (.t 45) (.t 46) 1⟩⟩,
    ⟨3, 7, [47], ⟨(some 48), none, .ld (.t 47) 1 false⟩⟩,
    ⟨4, 0, [7], ⟨(some 49), none, .mv (.t 7)⟩⟩,
    ⟨5, 31, [48, 49], ⟨(some 50), none, .ca 12 [(.t 48), (.t 49)]⟩⟩,
    ⟨6, 0, [1], ⟨(some 51), none, .mv (.t 1)⟩⟩,
    ⟨7, 0, [10], ⟨(some 52), none, .mv (.t 10)⟩⟩,
    ⟨8, 192, [51, 52], ⟨(some 53), none, .ia (.t 51) (.t 52) 1⟩⟩,
    ⟨9, 448, [53], ⟨(some 54), none, .ld (.t 53) 1 false⟩⟩,
    ⟨10, 960, [54], ⟨(some 55), none, .ib .quo (.t 54) (.c (.int .i64 4))⟩⟩,
    ⟨11, 2047, [55], ⟨(some 56), none, .ca 12 [(.t 55), (.c (.int .i64 60))]⟩⟩,
    ⟨12, 4095, [50], ⟨(some 11), none, .mv (.t 50)⟩⟩,
    ⟨13, 8191, [56], ⟨(some 12), none, .mv (.t 56)⟩⟩])
  (.sq (.bl 2
  (.sq (.rg [⟨(some 86), none, .mv (.t 11)⟩,
    ⟨(some 87), none, .iaa (.t 8) (.t 86) 4 1⟩,
    ⟨(some 88), none, .ld (.t 87) 1 false⟩,
    ⟨(some 89), none, .en 0 true (.t 88) (.c (.pointer none))⟩,
    ⟨(some 85), none, .mv (.t 89)⟩])
  (.cd (.t 85)
  (.sq (.rd [⟨0, 0, [11], ⟨(some 90), none, .mv (.t 11)⟩⟩,
    ⟨1, 1, [8, 90], ⟨(some 91), none, .iaa (.t 8) (.t 90) 4 1⟩⟩,
    ⟨2, 3, [91], ⟨(some 92), none, .ld (.t 91) 1 false⟩⟩,
    ⟨3, 0, [11], ⟨(some 93), none, .mv (.t 11)⟩⟩,
    ⟨4, 8, [9, 93], ⟨(some 94), none, .iaa (.t 9) (.t 93) 4 1⟩⟩,
    ⟨5, 24, [94], ⟨(some 95), none, .ld (.t 94) 1 false⟩⟩,
    ⟨6, 7, [92], ⟨(some 13), none, .mv (.t 92)⟩⟩,
    ⟨7, 127, [95], ⟨(some 14), none, .mv (.t 95)⟩⟩])
  (.sq (.sq (.rd [⟨0, 0, [13], ⟨(some 96), none, .mv (.t 13)⟩⟩,
    ⟨1, 1, [96], ⟨(some 97), none, .ca 33 [(.t 96)]⟩⟩,
    ⟨2, 0, [14], ⟨(some 98), none, .mv (.t 14)⟩⟩,
    ⟨3, 7, [98], ⟨(some 99), none, .ca 34 [(.t 98)]⟩⟩,
    ⟨4, 15, [97, 99], ⟨(some 100), none, .bb true (.t 97) (.t 99)⟩⟩,
    ⟨5, 31, [100], ⟨(some 101), none, .mv (.t 100)⟩⟩,
    ⟨6, 63, [13, 101], ⟨(some 102), (some (101, false)), .mv (.t 13)⟩⟩,
    ⟨7, 127, [102, 101], ⟨(some 103), (some (101, false)), .ca 35 [(.t 102)]⟩⟩,
    ⟨8, 63, [14, 101], ⟨(some 104), (some (101, false)), .mv (.t 14)⟩⟩,
    ⟨9, 319, [104, 101], ⟨(some 105), (some (101, false)), .nc (.t 104)⟩⟩,
    ⟨10, 831, [105, 101], ⟨(some 106), (some (101, false)), .fa (.t 105) 5⟩⟩,
    ⟨11, 1855, [106, 101], ⟨(some 107), (some (101, false)), .ld (.t 106) 1 false⟩⟩,
    ⟨12, 4095, [103, 107, 101], ⟨(some 108), (some (101, false)), .bb true (.t 103) (.t 107)⟩⟩,
    ⟨13, 8191, [101, 108], ⟨(some 109), none, .pk (.t 101) (.c (.bool true)) (.t 108)⟩⟩,
    ⟨14, 16383, [109], ⟨(some 110), none, .mv (.t 109)⟩⟩,
    ⟨15, 32767, [13, 110], ⟨(some 111), (some (110, false)), .mv (.t 13)⟩⟩,
    ⟨16, 65535, [111, 110], ⟨(some 112), (some (110, false)), .ca 36 [(.t 111)]⟩⟩,
    ⟨17, 32767, [14, 110], ⟨(some 113), (some (110, false)), .mv (.t 14)⟩⟩,
    ⟨18, 163839, [113, 110], ⟨(some 114), (some (110, false)), .nc (.t 113)⟩⟩,
    ⟨19, 425983, [114, 110], ⟨(some 115), (some (110, false)), .fa (.t 114) 4⟩⟩,
    ⟨20, 950271, [115, 110], ⟨(some 116), (some (110, false)), .ld (.t 115) 1 false⟩⟩,
    ⟨21, 2097151, [112, 116, 110], ⟨(some 117), (some (110, false)), .bb true (.t 112) (.t 116)⟩⟩,
    ⟨22, 4194303, [110, 117], ⟨(some 118), none, .pk (.t 110) (.c (.bool true)) (.t 117)⟩⟩,
    ⟨23, 8388607, [118], ⟨(some 119), none, .mv (.t 118)⟩⟩,
    ⟨24, 16777215, [13, 119], ⟨(some 120), (some (119, false)), .mv (.t 13)⟩⟩,
    ⟨25, 33554431, [120, 119], ⟨(some 121), (some (119, false)), .ca 37 [(.t 120)]⟩⟩,
    ⟨26, 16777215, [14, 119], ⟨(some 122), (some (119, false)), .mv (.t 14)⟩⟩,
    ⟨27, 134217727, [122, 119], ⟨(some 123), (some (119, false)), .ca 38 [(.t 122)]⟩⟩,
    ⟨28, 268435455, [121, 123, 119], ⟨(some 124), (some (119, false)), .ca 27 [(.t 121), (.t 123)]⟩⟩,
    ⟨29, 536870911, [124, 119], ⟨(some 125), (some (119, false)), .nt (.t 124)⟩⟩,
    ⟨30, 1073741823, [119, 125], ⟨(some 126), none, .pk (.t 119) (.c (.bool true)) (.t 125)⟩⟩])
  (.cd (.t 126)
  (.sq (.rg [⟨(some 4), none, .mv (.c (.bool false))⟩])
  .rt)
  .sk))
  (.sq (.rg [⟨(some 127), none, .mv (.t 14)⟩,
    ⟨(some 128), none, .nc (.t 127)⟩,
    ⟨(some 129), none, .fa (.t 128) 5⟩,
    ⟨(some 130), none, .ld (.t 129) 1 false⟩])
  (.cd (.t 130)
  (.rg [⟨(some 131), none, .mv (.t 11)⟩,
    ⟨(some 132), none, .iaa (.t 8) (.t 131) 4 1⟩,
    ⟨none, none, .st (.t 132) (.c (.pointer none)) 1⟩])
  .sk))))
  (.sq (.rg [⟨(some 134), none, .mv (.t 12)⟩,
    ⟨(some 135), none, .ib .rem (.t 134) (.c (.int .i64 6))⟩,
    ⟨(some 136), none, .ib .lss (.t 135) (.c (.int .i64 2))⟩,
    ⟨(some 133), none, .mv (.t 136)⟩])
  (.cd (.t 133)
  (.sq (.rd [⟨0, 0, [11], ⟨(some 137), none, .mv (.t 11)⟩⟩,
    ⟨1, 0, [11], ⟨(some 138), none, .mv (.t 11)⟩⟩,
    ⟨2, 0, [6], ⟨(some 139), none, .mv (.t 6)⟩⟩,
    ⟨3, 4, [139], ⟨(some 140), none, .nc (.t 139)⟩⟩,
    ⟨4, 12, [140], ⟨(some 141), none, .fa (.t 140) 8⟩⟩,
    ⟨5, 28, [141], ⟨(some 142), none, .ld (.t 141) 1 false⟩⟩,
    ⟨6, 0, [6], ⟨(some 143), none, .mv (.t 6)⟩⟩,
    ⟨7, 64, [143], ⟨(some 144), none, .nc (.t 143)⟩⟩,
    ⟨8, 192, [144], ⟨(some 145), none, .fa (.t 144) 10⟩⟩,
    ⟨9, 448, [145], ⟨(some 146), none, .ld (.t 145) 1 false⟩⟩,
    ⟨10, 0, [11], ⟨(some 147), none, .mv (.t 11)⟩⟩,
    ⟨11, 1984, [146, 147], ⟨(some 148), none, .ia (.t 146) (.t 147) 1⟩⟩,
    ⟨12, 4032, [148], ⟨(some 149), none, .ld (.t 148) 1 false⟩⟩,
    ⟨13, 8188, [142, 149], ⟨(some 150), none, .ca 39 [(.t 142), (.t 149)]⟩⟩,
    ⟨14, 0, [6], ⟨(some 151), none, .mv (.t 6)⟩⟩,
    ⟨15, 16384, [151], ⟨(some 152), none, .nc (.t 151)⟩⟩,
    ⟨16, 49152, [152], ⟨(some 153), none, .fa (.t 152) 12⟩⟩,
    ⟨17, 114688, [153], ⟨(some 154), none, .ld (.t 153) 1 false⟩⟩,
    ⟨18, 0, [11], ⟨(some 155), none, .mv (.t 11)⟩⟩,
    ⟨19, 507904, [154, 155], ⟨(some 156), none, .ia (.t 154) (.t 155) 1⟩⟩,
    ⟨20, 1032192, [156], ⟨(some 157), none, .ld (.t 156) 1 false⟩⟩,
    ⟨21, 2097148, [157], ⟨(some 158), none, .ca 40 [(.t 157)]⟩⟩,
    ⟨22, 16381, [8, 137], ⟨(some 159), none, .iaa (.t 8) (.t 137) 4 1⟩⟩,
    ⟨23, 8388605, [159, 150], ⟨none, none, .st (.t 159) (.t 150) 1⟩⟩,
    ⟨24, 16777215, [9, 138], ⟨(some 160), none, .iaa (.t 9) (.t 138) 4 1⟩⟩,
    ⟨25, 33554431, [160, 158], ⟨none, none, .st (.t 160) (.t 158) 1⟩⟩])
  (.sq (.rg [⟨(some 161), none, .mv (.t 11)⟩,
    ⟨(some 162), none, .iaa (.t 8) (.t 161) 4 1⟩,
    ⟨(some 163), none, .ld (.t 162) 1 false⟩,
    ⟨(some 164), none, .en 0 false (.t 163) (.c (.pointer none))⟩,
    ⟨(some 165), none, .mv (.t 164)⟩,
    ⟨(some 166), (some (165, false)), .mv (.t 11)⟩,
    ⟨(some 167), (some (165, false)), .iaa (.t 8) (.t 166) 4 1⟩,
    ⟨(some 168), (some (165, false)), .ld (.t 167) 1 false⟩,
    ⟨(some 169), (some (165, false)), .ca 35 [(.t 168)]⟩,
    ⟨(some 170), none, .pk (.t 165) (.c (.bool true)) (.t 169)⟩])
  (.cd (.t 170)
  (.sq (.rg [⟨(some 4), none, .mv (.c (.bool false))⟩])
  .rt)
  .sk)))
  (.sq (.rg [⟨(some 172), none, .mv (.t 12)⟩,
    ⟨(some 173), none, .ib .rem (.t 172) (.c (.int .i64 6))⟩,
    ⟨(some 174), none, .ib .lss (.t 173) (.c (.int .i64 4))⟩,
    ⟨(some 175), none, .mv (.t 174)⟩,
    ⟨(some 176), (some (175, true)), .mv (.t 6)⟩,
    ⟨(some 177), (some (175, true)), .nc (.t 176)⟩,
    ⟨(some 178), (some (175, true)), .fa (.t 177) 11⟩,
    ⟨(some 179), (some (175, true)), .ld (.t 178) 1 false⟩,
    ⟨(some 180), (some (175, true)), .nc (.t 179)⟩,
    ⟨(some 181), (some (175, true)), .fa (.t 180) 7⟩,
    ⟨(some 182), (some (175, true)), .ld (.t 181) 1 false⟩,
    ⟨(some 183), (some (175, true)), .ca 28 [(.t 182)]⟩,
    ⟨(some 184), (some (175, true)), .len (.t 183)⟩,
    ⟨(some 185), (some (175, true)), .ib .gtr (.t 184) (.c (.int .i64 0))⟩,
    ⟨(some 186), none, .pk (.t 175) (.t 185) (.c (.bool false))⟩,
    ⟨(some 171), none, .mv (.t 186)⟩])
  (.cd (.t 171)
  (.sq (.rg [⟨(some 188), none, .mv (.t 6)⟩,
    ⟨(some 189), none, .mv (.t 11)⟩,
    ⟨(some 190), none, .ca 30 [(.t 188), (.t 189)]⟩,
    ⟨(some 187), none, .mv (.t 190)⟩,
    ⟨(some 191), none, .ex (.t 187) 0⟩,
    ⟨(some 192), none, .ex (.t 187) 1⟩,
    ⟨(some 15), none, .mv (.t 191)⟩,
    ⟨(some 16), none, .mv (.t 192)⟩])
  (.sq (.rg [⟨(some 193), none, .mv (.t 6)⟩,
    ⟨(some 194), none, .nc (.t 193)⟩,
    ⟨(some 195), none, .fa (.t 194) 11⟩,
    ⟨(some 196), none, .ld (.t 195) 1 false⟩,
    ⟨(some 197), none, .nc (.t 196)⟩,
    ⟨(some 198), none, .fa (.t 197) 9⟩,
    ⟨(some 199), none, .ld (.t 198) 1 false⟩,
    ⟨(some 200), none, .ca 41 [(.t 199)]⟩,
    ⟨(some 201), none, .mv (.t 12)⟩,
    ⟨(some 202), none, .ib .quo (.t 201) (.c (.int .i64 6))⟩,
    ⟨(some 203), none, .ib .rem (.t 202) (.c (.int .i64 2))⟩,
    ⟨(some 204), none, .ib .sub (.t 200) (.t 203)⟩,
    ⟨(some 17), none, .mv (.t 204)⟩])
  (.sq (.sq (.rd [⟨0, 0, [16], ⟨(some 205), none, .mv (.t 16)⟩⟩,
    ⟨1, 1, [205], ⟨(some 206), none, .nt (.t 205)⟩⟩,
    ⟨2, 3, [206], ⟨(some 207), none, .mv (.t 206)⟩⟩,
    ⟨3, 7, [6, 207], ⟨(some 208), (some (207, false)), .mv (.t 6)⟩⟩,
    ⟨4, 15, [208, 207], ⟨(some 209), (some (207, false)), .nc (.t 208)⟩⟩,
    ⟨5, 31, [209, 207], ⟨(some 210), (some (207, false)), .fa (.t 209) 10⟩⟩,
    ⟨6, 63, [210, 207], ⟨(some 211), (some (207, false)), .ld (.t 210) 1 false⟩⟩,
    ⟨7, 7, [11, 207], ⟨(some 212), (some (207, false)), .mv (.t 11)⟩⟩,
    ⟨8, 255, [211, 212, 207], ⟨(some 213), (some (207, false)), .ia (.t 211) (.t 212) 1⟩⟩,
    ⟨9, 511, [213, 207], ⟨(some 214), (some (207, false)), .ld (.t 213) 1 false⟩⟩,
    ⟨10, 7, [17, 207], ⟨(some 215), (some (207, false)), .mv (.t 17)⟩⟩,
    ⟨11, 7, [15, 207], ⟨(some 216), (some (207, false)), .mv (.t 15)⟩⟩,
    ⟨12, 2055, [216, 207], ⟨(some 217), (some (207, false)), .bs 3 1 [(.int .i64 0)] [(0, 1, (.t 216))]⟩⟩,
    ⟨13, 8191, [214, 215, 217, 207], ⟨(some 218), (some (207, false)), .ca 42 [(.t 214), (.t 215), (.t 217)]⟩⟩,
    ⟨14, 16383, [218, 207], ⟨(some 219), (some (207, false)), .ib .eql (.t 218) (.c (.int .i64 0))⟩⟩,
    ⟨15, 7, [6, 207], ⟨(some 220), (some (207, false)), .mv (.t 6)⟩⟩,
    ⟨16, 32775, [220, 207], ⟨(some 221), (some (207, false)), .nc (.t 220)⟩⟩,
    ⟨17, 98311, [221, 207], ⟨(some 222), (some (207, false)), .fa (.t 221) 12⟩⟩,
    ⟨18, 229383, [222, 207], ⟨(some 223), (some (207, false)), .ld (.t 222) 1 false⟩⟩,
    ⟨19, 7, [11, 207], ⟨(some 224), (some (207, false)), .mv (.t 11)⟩⟩,
    ⟨20, 1015815, [223, 224, 207], ⟨(some 225), (some (207, false)), .ia (.t 223) (.t 224) 1⟩⟩,
    ⟨21, 2064391, [225, 207], ⟨(some 226), (some (207, false)), .ld (.t 225) 1 false⟩⟩,
    ⟨22, 7, [17, 207], ⟨(some 227), (some (207, false)), .mv (.t 17)⟩⟩,
    ⟨23, 7, [15, 207], ⟨(some 228), (some (207, false)), .mv (.t 15)⟩⟩,
    ⟨24, 8388615, [228, 207], ⟨(some 229), (some (207, false)), .bs 3 1 [(.int .i64 0)] [(0, 1, (.t 228))]⟩⟩,
    ⟨25, 33538047, [226, 227, 229, 207], ⟨(some 230), (some (207, false)), .ca 43 [(.t 226), (.t 227), (.t 229)]⟩⟩,
    ⟨26, 67108863, [219, 230, 207], ⟨(some 231), (some (207, false)), .bb true (.t 219) (.t 230)⟩⟩,
    ⟨27, 134217727, [207, 231], ⟨(some 232), none, .pk (.t 207) (.c (.bool true)) (.t 231)⟩⟩])
  (.cd (.t 232)
  (.sq (.rg [⟨(some 4), none, .mv (.c (.bool false))⟩])
  .rt)
  .sk))
  (.sq (.rg [⟨(some 234), none, .mv (.t 6)⟩,
    ⟨(some 235), none, .nc (.t 234)⟩,
    ⟨(some 236), none, .fa (.t 235) 12⟩,
    ⟨(some 237), none, .ld (.t 236) 1 false⟩,
    ⟨(some 238), none, .mv (.t 11)⟩,
    ⟨(some 239), none, .ia (.t 237) (.t 238) 1⟩,
    ⟨(some 240), none, .ld (.t 239) 1 false⟩,
    ⟨(some 241), none, .nc (.t 240)⟩,
    ⟨(some 242), none, .fa (.t 241) 2⟩,
    ⟨(some 243), none, .ld (.t 242) 1 false⟩,
    ⟨(some 244), none, .mv (.t 17)⟩,
    ⟨(some 245), none, .ib .add (.t 244) (.c (.int .i64 3))⟩,
    ⟨(some 246), none, .ib .rem (.t 245) (.c (.int .i64 3))⟩,
    ⟨(some 247), none, .ca 44 [(.t 243), (.t 246)]⟩,
    ⟨(some 233), none, .mv (.t 247)⟩,
    ⟨(some 248), none, .ex (.t 233) 0⟩,
    ⟨(some 249), none, .ex (.t 233) 1⟩,
    ⟨(some 18), none, .mv (.t 248)⟩,
    ⟨(some 19), none, .mv (.t 249)⟩])
  (.sq (.rg [⟨(some 250), none, .mv (.t 19)⟩,
    ⟨(some 251), none, .len (.t 250)⟩,
    ⟨(some 252), none, .ib .eql (.t 251) (.c (.int .i64 0))⟩,
    ⟨(some 253), none, .mv (.t 252)⟩,
    ⟨(some 254), (some (253, false)), .mv (.t 19)⟩,
    ⟨(some 255), (some (253, false)), .mv (.t 19)⟩,
    ⟨(some 256), (some (253, false)), .len (.t 255)⟩,
    ⟨(some 257), (some (253, false)), .ib .sub (.t 256) (.c (.int .i64 1))⟩,
    ⟨(some 258), (some (253, false)), .ia (.t 254) (.t 257) 1⟩,
    ⟨(some 259), (some (253, false)), .ld (.t 258) 1 false⟩,
    ⟨(some 260), (some (253, false)), .mv (.t 15)⟩,
    ⟨(some 261), (some (253, false)), .ib .neq (.t 259) (.t 260)⟩,
    ⟨(some 262), none, .pk (.t 253) (.c (.bool true)) (.t 261)⟩])
  (.cd (.t 262)
  (.sq (.rg [⟨(some 263), none, .mv (.t 6)⟩,
    ⟨(some 264), none, .nc (.t 263)⟩,
    ⟨(some 265), none, .fa (.t 264) 10⟩,
    ⟨(some 266), none, .ld (.t 265) 1 false⟩,
    ⟨(some 267), none, .mv (.t 11)⟩,
    ⟨(some 268), none, .ia (.t 266) (.t 267) 1⟩,
    ⟨(some 269), none, .ld (.t 268) 1 false⟩,
    ⟨(some 270), none, .mv (.t 15)⟩,
    ⟨(some 271), none, .bs 3 1 [(.int .i64 0)] [(0, 1, (.t 270))]⟩,
    ⟨(some 272), none, .ca 20 [(.t 269), (.t 271)]⟩])
  (.rg [⟨(some 273), none, .mv (.t 6)⟩,
    ⟨(some 274), none, .nc (.t 273)⟩,
    ⟨(some 275), none, .fa (.t 274) 12⟩,
    ⟨(some 276), none, .ld (.t 275) 1 false⟩,
    ⟨(some 277), none, .mv (.t 11)⟩,
    ⟨(some 278), none, .ia (.t 276) (.t 277) 1⟩,
    ⟨(some 279), none, .ld (.t 278) 1 false⟩,
    ⟨(some 280), none, .nc (.t 279)⟩,
    ⟨(some 281), none, .fa (.t 280) 1⟩,
    ⟨(some 282), none, .ld (.t 281) 1 false⟩,
    ⟨(some 283), none, .mv (.t 15)⟩,
    ⟨(some 284), none, .bs 3 1 [(.int .i64 0)] [(0, 1, (.t 283))]⟩,
    ⟨(some 285), none, .ca 45 [(.t 282), (.t 284)]⟩]))
  .sk))))))
  (.sq (.rg [⟨(some 287), none, .mv (.t 12)⟩,
    ⟨(some 288), none, .ib .rem (.t 287) (.c (.int .i64 6))⟩,
    ⟨(some 289), none, .ib .eql (.t 288) (.c (.int .i64 4))⟩,
    ⟨(some 286), none, .mv (.t 289)⟩])
  (.cd (.t 286)
  (.sq (.rg [⟨(some 291), none, .mv (.t 6)⟩,
    ⟨(some 292), none, .nc (.t 291)⟩,
    ⟨(some 293), none, .fa (.t 292) 11⟩,
    ⟨(some 294), none, .ld (.t 293) 1 false⟩,
    ⟨(some 295), none, .nc (.t 294)⟩,
    ⟨(some 296), none, .fa (.t 295) 9⟩,
    ⟨(some 297), none, .ld (.t 296) 1 false⟩,
    ⟨(some 298), none, .ca 41 [(.t 297)]⟩,
    ⟨(some 299), none, .ca 46 [(.t 298)]⟩,
    ⟨(some 290), none, .mv (.t 299)⟩,
    ⟨(some 300), none, .ex (.t 290) 0⟩,
    ⟨(some 301), none, .ex (.t 290) 1⟩,
    ⟨(some 20), none, .mv (.t 300)⟩,
    ⟨(some 21), none, .mv (.t 301)⟩])
  (.sq (.rd [⟨0, 0, [6], ⟨(some 302), none, .mv (.t 6)⟩⟩,
    ⟨1, 1, [302], ⟨(some 303), none, .nc (.t 302)⟩⟩,
    ⟨2, 3, [303], ⟨(some 304), none, .fa (.t 303) 11⟩⟩,
    ⟨3, 7, [304], ⟨(some 305), none, .ld (.t 304) 1 false⟩⟩,
    ⟨4, 15, [305], ⟨(some 306), none, .nc (.t 305)⟩⟩,
    ⟨5, 31, [306], ⟨(some 307), none, .fa (.t 306) 6⟩⟩,
    ⟨6, 63, [307], ⟨(some 308), none, .ld (.t 307) 1 false⟩⟩,
    ⟨7, 127, [308], ⟨(some 309), none, .nc (.t 308)⟩⟩,
    ⟨8, 255, [309], ⟨(some 310), none, .fa (.t 309) 0⟩⟩,
    ⟨9, 511, [310], ⟨(some 311), none, .ld (.t 310) 1 false⟩⟩,
    ⟨10, 0, [6], ⟨(some 312), none, .mv (.t 6)⟩⟩,
    ⟨11, 1024, [312], ⟨(some 313), none, .nc (.t 312)⟩⟩,
    ⟨12, 3072, [313], ⟨(some 314), none, .fa (.t 313) 0⟩⟩,
    ⟨13, 7168, [314], ⟨(some 315), none, .ld (.t 314) 6 true⟩⟩,
    ⟨14, 0, [11], ⟨(some 316), none, .mv (.t 11)⟩⟩,
    ⟨15, 31744, [315, 316], ⟨(some 317), none, .ca 47 [(.t 315), (.t 316)]⟩⟩,
    ⟨16, 0, [20], ⟨(some 318), none, .mv (.t 20)⟩⟩,
    ⟨17, 131071, [311, 317], ⟨(some 319), none, .ia (.t 311) (.t 317) 1⟩⟩,
    ⟨18, 262143, [319, 318], ⟨none, none, .st (.t 319) (.t 318) 1⟩⟩])
  (.rd [⟨0, 0, [6], ⟨(some 320), none, .mv (.t 6)⟩⟩,
    ⟨1, 1, [320], ⟨(some 321), none, .nc (.t 320)⟩⟩,
    ⟨2, 3, [321], ⟨(some 322), none, .fa (.t 321) 6⟩⟩,
    ⟨3, 7, [322], ⟨(some 323), none, .ld (.t 322) 1 false⟩⟩,
    ⟨4, 0, [6], ⟨(some 324), none, .mv (.t 6)⟩⟩,
    ⟨5, 16, [324], ⟨(some 325), none, .nc (.t 324)⟩⟩,
    ⟨6, 48, [325], ⟨(some 326), none, .fa (.t 325) 0⟩⟩,
    ⟨7, 112, [326], ⟨(some 327), none, .ld (.t 326) 6 true⟩⟩,
    ⟨8, 0, [11], ⟨(some 328), none, .mv (.t 11)⟩⟩,
    ⟨9, 496, [327, 328], ⟨(some 329), none, .ca 49 [(.t 327), (.t 328)]⟩⟩,
    ⟨10, 0, [20], ⟨(some 330), none, .mv (.t 20)⟩⟩,
    ⟨11, 2047, [323, 329, 330], ⟨(some 331), none, .ca 48 [(.t 323), (.t 329), (.t 330)]⟩⟩])))
  (.sq (.rd [⟨0, 0, [6], ⟨(some 57), none, .mv (.t 6)⟩⟩,
    ⟨1, 1, [57], ⟨(some 58), none, .nc (.t 57)⟩⟩,
    ⟨2, 3, [58], ⟨(some 59), none, .fa (.t 58) 11⟩⟩,
    ⟨3, 7, [59], ⟨(some 60), none, .ld (.t 59) 1 false⟩⟩,
    ⟨4, 15, [60], ⟨(some 61), none, .nc (.t 60)⟩⟩,
    ⟨5, 31, [61], ⟨(some 62), none, .fa (.t 61) 6⟩⟩,
    ⟨6, 63, [62], ⟨(some 63), none, .ld (.t 62) 1 false⟩⟩,
    ⟨7, 127, [63], ⟨(some 64), none, .nc (.t 63)⟩⟩,
    ⟨8, 255, [64], ⟨(some 65), none, .fa (.t 64) 0⟩⟩,
    ⟨9, 511, [65], ⟨(some 66), none, .ld (.t 65) 1 false⟩⟩,
    ⟨10, 0, [6], ⟨(some 67), none, .mv (.t 6)⟩⟩,
    ⟨11, 1024, [67], ⟨(some 68), none, .nc (.t 67)⟩⟩,
    ⟨12, 3072, [68], ⟨(some 69), none, .fa (.t 68) 0⟩⟩,
    ⟨13, 7168, [69], ⟨(some 70), none, .ld (.t 69) 6 true⟩⟩,
    ⟨14, 0, [11], ⟨(some 71), none, .mv (.t 11)⟩⟩,
    ⟨15, 31744, [70, 71], ⟨(some 72), none, .ca 47 [(.t 70), (.t 71)]⟩⟩,
    ⟨16, 65535, [66, 72], ⟨(some 73), none, .ia (.t 66) (.t 72) 1⟩⟩,
    ⟨17, 131071, [73], ⟨none, none, .st (.t 73) (.c (.int .u64 0)) 1⟩⟩])
  (.rd [⟨0, 0, [6], ⟨(some 74), none, .mv (.t 6)⟩⟩,
    ⟨1, 1, [74], ⟨(some 75), none, .nc (.t 74)⟩⟩,
    ⟨2, 3, [75], ⟨(some 76), none, .fa (.t 75) 6⟩⟩,
    ⟨3, 7, [76], ⟨(some 77), none, .ld (.t 76) 1 false⟩⟩,
    ⟨4, 0, [6], ⟨(some 78), none, .mv (.t 6)⟩⟩,
    ⟨5, 16, [78], ⟨(some 79), none, .nc (.t 78)⟩⟩,
    ⟨6, 48, [79], ⟨(some 80), none, .fa (.t 79) 0⟩⟩,
    ⟨7, 112, [80], ⟨(some 81), none, .ld (.t 80) 6 true⟩⟩,
    ⟨8, 0, [11], ⟨(some 82), none, .mv (.t 11)⟩⟩,
    ⟨9, 496, [81, 82], ⟨(some 83), none, .ca 49 [(.t 81), (.t 82)]⟩⟩,
    ⟨10, 1023, [77, 83], ⟨(some 84), none, .ca 48 [(.t 77), (.t 83), (.c (.int .u64 0))]⟩⟩])))))))))))
  (.sq (.rg [⟨(some 332), none, .mv (.t 6)⟩,
    ⟨(some 333), none, .ca 50 [(.t 332)]⟩,
    ⟨(some 334), none, .nt (.t 333)⟩])
  (.cd (.t 334)
  (.sq (.rg [⟨(some 4), none, .mv (.c (.bool false))⟩])
  .rt)
  .sk)))))
  (.rg [⟨(some 43), none, .mv (.t 10)⟩,
    ⟨(some 44), none, .ib .add (.t 43) (.c (.int .i64 1))⟩,
    ⟨(some 10), none, .mv (.t 44)⟩]))))))
  (.sq (.rd [⟨0, 0, [5], ⟨(some 335), none, .mv (.t 5)⟩⟩,
    ⟨1, 1, [335], ⟨(some 336), none, .mv (.t 335)⟩⟩,
    ⟨2, 3, [6, 336], ⟨(some 337), (some (336, true)), .mv (.t 6)⟩⟩,
    ⟨3, 7, [337, 336], ⟨(some 338), (some (336, true)), .nc (.t 337)⟩⟩,
    ⟨4, 15, [338, 336], ⟨(some 339), (some (336, true)), .fa (.t 338) 9⟩⟩,
    ⟨5, 31, [339, 336], ⟨(some 340), (some (336, true)), .ld (.t 339) 1 false⟩⟩,
    ⟨6, 63, [340, 336], ⟨(some 341), (some (336, true)), .ca 23 [(.t 340)]⟩⟩,
    ⟨7, 3, [6, 336], ⟨(some 342), (some (336, true)), .mv (.t 6)⟩⟩,
    ⟨8, 131, [342, 336], ⟨(some 343), (some (336, true)), .nc (.t 342)⟩⟩,
    ⟨9, 387, [343, 336], ⟨(some 344), (some (336, true)), .fa (.t 343) 11⟩⟩,
    ⟨10, 899, [344, 336], ⟨(some 345), (some (336, true)), .ld (.t 344) 1 false⟩⟩,
    ⟨11, 1923, [345, 336], ⟨(some 346), (some (336, true)), .nc (.t 345)⟩⟩,
    ⟨12, 3971, [346, 336], ⟨(some 347), (some (336, true)), .fa (.t 346) 7⟩⟩,
    ⟨13, 8067, [347, 336], ⟨(some 348), (some (336, true)), .ld (.t 347) 1 false⟩⟩,
    ⟨14, 16383, [348, 336], ⟨(some 349), (some (336, true)), .ca 28 [(.t 348)]⟩⟩,
    ⟨15, 32767, [341, 349, 336], ⟨(some 350), (some (336, true)), .ca 27 [(.t 341), (.t 349)]⟩⟩,
    ⟨16, 65535, [336, 350], ⟨(some 351), none, .pk (.t 336) (.t 350) (.c (.bool false))⟩⟩,
    ⟨17, 131071, [351], ⟨(some 4), none, .mv (.t 351)⟩⟩])
  .rt)))))))))))⟩
/-- rundale/rundalelaw17.GatherBack -/
def c8 : Fu := ⟨215, [.t 6],
  (.sq (.rg [⟨(some 6), none, .mv (.c (.bool false))⟩])
  (.sq (.rg [⟨(some 23), none, .ca 9 []⟩,
    ⟨(some 7), none, .mv (.t 23)⟩])
  (.sq (.sq (.rg [⟨(some 24), none, .mv (.t 7)⟩,
    ⟨(some 25), none, .nt (.t 24)⟩])
  (.cd (.t 25)
  (.sq (.rg [⟨(some 6), none, .mv (.c (.bool false))⟩])
  .rt)
  .sk))
  (.sq (.rg [⟨(some 26), none, .mv (.t 0)⟩,
    ⟨(some 27), none, .ca 10 [(.t 26)]⟩,
    ⟨(some 8), none, .al 24 [(.int .i64 0), (.int .i64 0), (.int .i64 0), (.int .i64 0), (.int .i64 0), (.int .i64 0)]⟩,
    ⟨none, none, .st (.t 8) (.t 27) 6⟩])
  (.sq (.rg [⟨(some 28), none, .fa (.t 8) 5⟩,
    ⟨none, none, .st (.t 28) (.c (.int .i64 1)) 1⟩])
  (.sq (.rg [⟨(some 29), none, .ld (.t 8) 6 true⟩,
    ⟨(some 30), none, .ca 29 [(.t 29)]⟩,
    ⟨(some 9), none, .mv (.t 30)⟩])
  (.sq (.sq (.rg [⟨(some 31), none, .mv (.t 9)⟩,
    ⟨(some 32), none, .en 0 false (.t 31) (.c (.pointer none))⟩])
  (.cd (.t 32)
  (.sq (.rg [⟨(some 6), none, .mv (.c (.bool false))⟩])
  .rt)
  .sk))
  (.sq (.rg [⟨(some 33), none, .mv (.t 9)⟩,
    ⟨(some 34), none, .nc (.t 33)⟩,
    ⟨(some 35), none, .fa (.t 34) 0⟩,
    ⟨(some 36), none, .fa (.t 35) 0⟩,
    ⟨(some 37), none, .ld (.t 36) 1 false⟩,
    ⟨(some 10), none, .mv (.t 37)⟩])
  (.sq (.rg [⟨(some 11), none, .mv (.c (.int .i64 0))⟩])
  (.sq (.sq (.rg [⟨(some 12), none, .mv (.c (.int .i64 0))⟩])
  (.bl 0
  (.lp
  (.sq (.sq (.rg [⟨(some 38), none, .mv (.t 12)⟩,
    ⟨(some 39), none, .mv (.t 1)⟩,
    ⟨(some 40), none, .mv (.t 9)⟩,
    ⟨(some 41), none, .nc (.t 40)⟩,
    ⟨(some 42), none, .fa (.t 41) 0⟩,
    ⟨(some 43), none, .fa (.t 42) 1⟩,
    ⟨(some 44), none, .ld (.t 43) 1 false⟩,
    ⟨(some 45), none, .ib .add (.t 44) (.c (.int .i64 1))⟩,
    ⟨(some 46), none, .ca 12 [(.t 39), (.t 45)]⟩,
    ⟨(some 47), none, .ib .lss (.t 38) (.t 46)⟩])
  (.cd (.t 47)
  .sk
  (.ex 0)))
  (.sq (.bl 1
  (.sq (.rg [⟨(some 51), none, .mv (.t 9)⟩,
    ⟨(some 52), none, .mv (.t 12)⟩,
    ⟨(some 53), none, .mv (.t 10)⟩,
    ⟨(some 54), none, .ib .rem (.t 52) (.t 53)⟩,
    ⟨(some 55), none, .ca 30 [(.t 51), (.t 54)]⟩,
    ⟨(some 50), none, .mv (.t 55)⟩,
    ⟨(some 56), none, .ex (.t 50) 0⟩,
    ⟨(some 57), none, .ex (.t 50) 1⟩,
    ⟨(some 13), none, .mv (.t 56)⟩,
    ⟨(some 14), none, .mv (.t 57)⟩])
  (.sq (.sq (.rd [⟨0, 0, [14], ⟨(some 58), none, .mv (.t 14)⟩⟩,
    ⟨1, 1, [58], ⟨(some 59), none, .nt (.t 58)⟩⟩,
    ⟨2, 3, [59], ⟨(some 60), none, .mv (.t 59)⟩⟩,
    ⟨3, 7, [9, 60], ⟨(some 61), (some (60, false)), .mv (.t 9)⟩⟩,
    ⟨4, 15, [61, 60], ⟨(some 62), (some (60, false)), .nc (.t 61)⟩⟩,
    ⟨5, 31, [62, 60], ⟨(some 63), (some (60, false)), .fa (.t 62) 10⟩⟩,
    ⟨6, 63, [63, 60], ⟨(some 64), (some (60, false)), .ld (.t 63) 1 false⟩⟩,
    ⟨7, 7, [12, 60], ⟨(some 65), (some (60, false)), .mv (.t 12)⟩⟩,
    ⟨8, 7, [10, 60], ⟨(some 66), (some (60, false)), .mv (.t 10)⟩⟩,
    ⟨9, 391, [65, 66, 60], ⟨(some 67), (some (60, false)), .ib .rem (.t 65) (.t 66)⟩⟩,
    ⟨10, 1023, [64, 67, 60], ⟨(some 68), (some (60, false)), .ia (.t 64) (.t 67) 1⟩⟩,
    ⟨11, 2047, [68, 60], ⟨(some 69), (some (60, false)), .ld (.t 68) 1 false⟩⟩,
    ⟨12, 7, [13, 60], ⟨(some 70), (some (60, false)), .mv (.t 13)⟩⟩,
    ⟨13, 4103, [70, 60], ⟨(some 71), (some (60, false)), .bs 3 1 [(.int .i64 0)] [(0, 1, (.t 70))]⟩⟩,
    ⟨14, 16383, [69, 71, 60], ⟨(some 72), (some (60, false)), .ca 42 [(.t 69), (.c (.int .i64 0)), (.t 71)]⟩⟩,
    ⟨15, 32767, [72, 60], ⟨(some 73), (some (60, false)), .ib .neq (.t 72) (.c (.int .i64 0))⟩⟩,
    ⟨16, 65535, [60, 73], ⟨(some 74), none, .pk (.t 60) (.c (.bool true)) (.t 73)⟩⟩])
  (.cd (.t 74)
  (.sq (.rg [⟨(some 6), none, .mv (.c (.bool false))⟩])
  .rt)
  .sk))
  (.rg [⟨(some 75), none, .mv (.t 11)⟩,
    ⟨(some 76), none, .ib .add (.t 75) (.c (.int .i64 1))⟩,
    ⟨(some 11), none, .mv (.t 76)⟩]))))
  (.rg [⟨(some 48), none, .mv (.t 12)⟩,
    ⟨(some 49), none, .ib .add (.t 48) (.c (.int .i64 1))⟩,
    ⟨(some 12), none, .mv (.t 49)⟩]))))))
  (.sq (.sq (.rg [⟨(some 77), none, .mv (.t 2)⟩])
  (.cd (.t 77)
  (.sq (.rg [⟨(some 79), none, .mv (.t 9)⟩,
    ⟨(some 80), none, .nc (.t 79)⟩,
    ⟨(some 81), none, .fa (.t 80) 7⟩,
    ⟨(some 82), none, .ld (.t 81) 1 false⟩,
    ⟨(some 83), none, .mv (.t 10)⟩,
    ⟨(some 84), none, .ib .sub (.t 83) (.c (.int .i64 1))⟩,
    ⟨(some 85), none, .ca 51 [(.t 82), (.t 84)]⟩,
    ⟨(some 78), none, .mv (.t 85)⟩,
    ⟨(some 86), none, .ex (.t 78) 0⟩,
    ⟨(some 87), none, .ex (.t 78) 1⟩,
    ⟨(some 15), none, .mv (.t 86)⟩,
    ⟨(some 16), none, .mv (.t 87)⟩])
  (.sq (.rg [⟨(some 88), none, .mv (.t 15)⟩,
    ⟨(some 89), none, .en 0 false (.t 88) (.c (.pointer none))⟩,
    ⟨(some 90), none, .mv (.t 89)⟩,
    ⟨(some 91), (some (90, false)), .mv (.t 16)⟩,
    ⟨(some 92), (some (90, false)), .ib .neq (.t 91) (.c (.int .i64 0))⟩,
    ⟨(some 93), none, .pk (.t 90) (.c (.bool true)) (.t 92)⟩,
    ⟨(some 94), none, .mv (.t 93)⟩,
    ⟨(some 95), (some (94, false)), .mv (.t 15)⟩,
    ⟨(some 96), (some (94, false)), .ca 52 [(.t 95)]⟩,
    ⟨(some 97), (some (94, false)), .nt (.t 96)⟩,
    ⟨(some 98), none, .pk (.t 94) (.c (.bool true)) (.t 97)⟩,
    ⟨(some 99), none, .mv (.t 98)⟩,
    ⟨(some 100), (some (99, false)), .mv (.t 15)⟩,
    ⟨(some 101), (some (99, false)), .ca 52 [(.t 100)]⟩,
    ⟨(some 102), (some (99, false)), .nt (.t 101)⟩,
    ⟨(some 103), none, .pk (.t 99) (.c (.bool true)) (.t 102)⟩,
    ⟨(some 104), none, .mv (.t 103)⟩,
    ⟨(some 105), (some (104, false)), .mv (.t 15)⟩,
    ⟨(some 106), (some (104, false)), .ca 53 [(.t 105)]⟩,
    ⟨(some 107), (some (104, false)), .nt (.t 106)⟩,
    ⟨(some 108), none, .pk (.t 104) (.c (.bool true)) (.t 107)⟩])
  (.cd (.t 108)
  (.sq (.rg [⟨(some 6), none, .mv (.c (.bool false))⟩])
  .rt)
  .sk)))
  .sk))
  (.sq (.sq (.rg [⟨(some 17), none, .mv (.c (.int .i64 0))⟩])
  (.bl 2
  (.lp
  (.sq (.sq (.rg [⟨(some 109), none, .mv (.t 17)⟩,
    ⟨(some 110), none, .mv (.t 10)⟩,
    ⟨(some 111), none, .ib .mul (.c (.int .i64 3)) (.t 110)⟩,
    ⟨(some 112), none, .ib .lss (.t 109) (.t 111)⟩])
  (.cd (.t 112)
  .sk
  (.ex 2)))
  (.sq (.bl 3
  (.rg [⟨(some 115), none, .mv (.t 9)⟩,
    ⟨(some 116), none, .mv (.t 17)⟩,
    ⟨(some 117), none, .mv (.t 10)⟩,
    ⟨(some 118), none, .ib .rem (.t 116) (.t 117)⟩,
    ⟨(some 119), none, .ca 31 [(.t 115), (.t 118)]⟩]))
  (.rg [⟨(some 113), none, .mv (.t 17)⟩,
    ⟨(some 114), none, .ib .add (.t 113) (.c (.int .i64 1))⟩,
    ⟨(some 17), none, .mv (.t 114)⟩]))))))
  (.sq (.rg [⟨(some 18), none, .mv (.c (.int .i64 0))⟩])
  (.sq (.sq (.rg [⟨(some 19), none, .mv (.c (.int .i64 0))⟩])
  (.bl 4
  (.lp
  (.sq (.sq (.rg [⟨(some 120), none, .mv (.t 19)⟩,
    ⟨(some 121), none, .mv (.t 10)⟩,
    ⟨(some 122), none, .ib .lss (.t 120) (.t 121)⟩])
  (.cd (.t 122)
  .sk
  (.ex 4)))
  (.sq (.bl 5
  (.sq (.sq (.rg [⟨(some 20), none, .mv (.c (.int .i64 0))⟩])
  (.bl 6
  (.lp
  (.sq (.sq (.rg [⟨(some 125), none, .mv (.t 20)⟩,
    ⟨(some 126), none, .ib .lss (.t 125) (.c (.int .i64 3))⟩])
  (.cd (.t 126)
  .sk
  (.ex 6)))
  (.sq (.bl 7
  (.sq (.rg [⟨(some 130), none, .mv (.t 9)⟩,
    ⟨(some 131), none, .nc (.t 130)⟩,
    ⟨(some 132), none, .fa (.t 131) 10⟩,
    ⟨(some 133), none, .ld (.t 132) 1 false⟩,
    ⟨(some 134), none, .mv (.t 19)⟩,
    ⟨(some 135), none, .ia (.t 133) (.t 134) 1⟩,
    ⟨(some 136), none, .ld (.t 135) 1 false⟩,
    ⟨(some 137), none, .mv (.t 20)⟩,
    ⟨(some 138), none, .ca 54 [(.t 136), (.t 137)]⟩,
    ⟨(some 129), none, .mv (.t 138)⟩,
    ⟨(some 139), none, .ex (.t 129) 0⟩,
    ⟨(some 140), none, .ex (.t 129) 1⟩,
    ⟨(some 21), none, .mv (.t 139)⟩,
    ⟨(some 22), none, .mv (.t 140)⟩])
  (.rg [⟨(some 141), none, .mv (.t 18)⟩,
    ⟨(some 142), none, .mv (.t 22)⟩,
    ⟨(some 143), none, .len (.t 142)⟩,
    ⟨(some 144), none, .ib .add (.t 141) (.t 143)⟩,
    ⟨(some 18), none, .mv (.t 144)⟩])))
  (.rg [⟨(some 127), none, .mv (.t 20)⟩,
    ⟨(some 128), none, .ib .add (.t 127) (.c (.int .i64 1))⟩,
    ⟨(some 20), none, .mv (.t 128)⟩]))))))
  (.sq (.rg [⟨(some 145), none, .mv (.t 9)⟩,
    ⟨(some 146), none, .nc (.t 145)⟩,
    ⟨(some 147), none, .fa (.t 146) 10⟩,
    ⟨(some 148), none, .ld (.t 147) 1 false⟩,
    ⟨(some 149), none, .mv (.t 19)⟩,
    ⟨(some 150), none, .ia (.t 148) (.t 149) 1⟩,
    ⟨(some 151), none, .ld (.t 150) 1 false⟩,
    ⟨(some 152), none, .ca 19 [(.t 151)]⟩,
    ⟨(some 153), none, .len (.t 152)⟩,
    ⟨(some 154), none, .ib .neq (.t 153) (.c (.int .i64 0))⟩])
  (.cd (.t 154)
  (.sq (.rg [⟨(some 6), none, .mv (.c (.bool false))⟩])
  .rt)
  .sk))))
  (.rg [⟨(some 123), none, .mv (.t 19)⟩,
    ⟨(some 124), none, .ib .add (.t 123) (.c (.int .i64 1))⟩,
    ⟨(some 19), none, .mv (.t 124)⟩]))))))
  (.sq (.sq (.rg [⟨(some 155), none, .mv (.t 2)⟩])
  (.cd (.t 155)
  (.sq (.rd [⟨0, 0, [7], ⟨(some 156), none, .mv (.t 7)⟩⟩,
    ⟨1, 1, [156], ⟨(some 157), none, .mv (.t 156)⟩⟩,
    ⟨2, 3, [9, 157], ⟨(some 158), (some (157, true)), .mv (.t 9)⟩⟩,
    ⟨3, 7, [158, 157], ⟨(some 159), (some (157, true)), .nc (.t 158)⟩⟩,
    ⟨4, 15, [159, 157], ⟨(some 160), (some (157, true)), .fa (.t 159) 7⟩⟩,
    ⟨5, 31, [160, 157], ⟨(some 161), (some (157, true)), .ld (.t 160) 1 false⟩⟩,
    ⟨6, 63, [161, 157], ⟨(some 162), (some (157, true)), .ca 32 [(.t 161)]⟩⟩,
    ⟨7, 127, [162, 157], ⟨(some 163), (some (157, true)), .ib .eql (.t 162) (.c (.int .i64 1))⟩⟩,
    ⟨8, 255, [157, 163], ⟨(some 164), none, .pk (.t 157) (.t 163) (.c (.bool false))⟩⟩,
    ⟨9, 511, [164], ⟨(some 165), none, .mv (.t 164)⟩⟩,
    ⟨10, 1023, [18, 165], ⟨(some 166), (some (165, true)), .mv (.t 18)⟩⟩,
    ⟨11, 1023, [11, 165], ⟨(some 167), (some (165, true)), .mv (.t 11)⟩⟩,
    ⟨12, 4095, [166, 167, 165], ⟨(some 168), (some (165, true)), .ib .eql (.t 166) (.t 167)⟩⟩,
    ⟨13, 8191, [165, 168], ⟨(some 169), none, .pk (.t 165) (.t 168) (.c (.bool false))⟩⟩,
    ⟨14, 16383, [169], ⟨(some 170), none, .mv (.t 169)⟩⟩,
    ⟨15, 32767, [9, 170], ⟨(some 171), (some (170, true)), .mv (.t 9)⟩⟩,
    ⟨16, 65535, [171, 170], ⟨(some 172), (some (170, true)), .nc (.t 171)⟩⟩,
    ⟨17, 131071, [172, 170], ⟨(some 173), (some (170, true)), .fa (.t 172) 9⟩⟩,
    ⟨18, 262143, [173, 170], ⟨(some 174), (some (170, true)), .ld (.t 173) 1 false⟩⟩,
    ⟨19, 524287, [174, 170], ⟨(some 175), (some (170, true)), .ca 23 [(.t 174)]⟩⟩,
    ⟨20, 1048575, [175, 170], ⟨(some 176), (some (170, true)), .len (.t 175)⟩⟩,
    ⟨21, 32767, [9, 170], ⟨(some 177), (some (170, true)), .mv (.t 9)⟩⟩,
    ⟨22, 2129919, [177, 170], ⟨(some 178), (some (170, true)), .nc (.t 177)⟩⟩,
    ⟨23, 6324223, [178, 170], ⟨(some 179), (some (170, true)), .fa (.t 178) 0⟩⟩,
    ⟨24, 14712831, [179, 170], ⟨(some 180), (some (170, true)), .fa (.t 179) 1⟩⟩,
    ⟨25, 31490047, [180, 170], ⟨(some 181), (some (170, true)), .ld (.t 180) 1 false⟩⟩,
    ⟨26, 32767, [11, 170], ⟨(some 182), (some (170, true)), .mv (.t 11)⟩⟩,
    ⟨27, 132153343, [181, 182, 170], ⟨(some 183), (some (170, true)), .ib .sub (.t 181) (.t 182)⟩⟩,
    ⟨28, 268435455, [176, 183, 170], ⟨(some 184), (some (170, true)), .ib .eql (.t 176) (.t 183)⟩⟩,
    ⟨29, 536870911, [170, 184], ⟨(some 185), none, .pk (.t 170) (.t 184) (.c (.bool false))⟩⟩,
    ⟨30, 1073741823, [185], ⟨(some 6), none, .mv (.t 185)⟩⟩])
  .rt)
  .sk))
  (.sq (.rd [⟨0, 0, [7], ⟨(some 186), none, .mv (.t 7)⟩⟩,
    ⟨1, 1, [186], ⟨(some 187), none, .mv (.t 186)⟩⟩,
    ⟨2, 3, [9, 187], ⟨(some 188), (some (187, true)), .mv (.t 9)⟩⟩,
    ⟨3, 7, [188, 187], ⟨(some 189), (some (187, true)), .nc (.t 188)⟩⟩,
    ⟨4, 15, [189, 187], ⟨(some 190), (some (187, true)), .fa (.t 189) 7⟩⟩,
    ⟨5, 31, [190, 187], ⟨(some 191), (some (187, true)), .ld (.t 190) 1 false⟩⟩,
    ⟨6, 63, [191, 187], ⟨(some 192), (some (187, true)), .ca 32 [(.t 191)]⟩⟩,
    ⟨7, 3, [10, 187], ⟨(some 193), (some (187, true)), .mv (.t 10)⟩⟩,
    ⟨8, 131, [193, 187], ⟨(some 194), (some (187, true)), .ib .mul (.c (.int .i64 3)) (.t 193)⟩⟩,
    ⟨9, 511, [192, 194, 187], ⟨(some 195), (some (187, true)), .ib .eql (.t 192) (.t 194)⟩⟩,
    ⟨10, 1023, [187, 195], ⟨(some 196), none, .pk (.t 187) (.t 195) (.c (.bool false))⟩⟩,
    ⟨11, 2047, [196], ⟨(some 197), none, .mv (.t 196)⟩⟩,
    ⟨12, 4095, [18, 197], ⟨(some 198), (some (197, true)), .mv (.t 18)⟩⟩,
    ⟨13, 8191, [198, 197], ⟨(some 199), (some (197, true)), .ib .eql (.t 198) (.c (.int .i64 0))⟩⟩,
    ⟨14, 16383, [197, 199], ⟨(some 200), none, .pk (.t 197) (.t 199) (.c (.bool false))⟩⟩,
    ⟨15, 32767, [200], ⟨(some 201), none, .mv (.t 200)⟩⟩,
    ⟨16, 65535, [9, 201], ⟨(some 202), (some (201, true)), .mv (.t 9)⟩⟩,
    ⟨17, 131071, [202, 201], ⟨(some 203), (some (201, true)), .nc (.t 202)⟩⟩,
    ⟨18, 262143, [203, 201], ⟨(some 204), (some (201, true)), .fa (.t 203) 9⟩⟩,
    ⟨19, 524287, [204, 201], ⟨(some 205), (some (201, true)), .ld (.t 204) 1 false⟩⟩,
    ⟨20, 1048575, [205, 201], ⟨(some 206), (some (201, true)), .ca 23 [(.t 205)]⟩⟩,
    ⟨21, 2097151, [206, 201], ⟨(some 207), (some (201, true)), .len (.t 206)⟩⟩,
    ⟨22, 65535, [9, 201], ⟨(some 208), (some (201, true)), .mv (.t 9)⟩⟩,
    ⟨23, 4259839, [208, 201], ⟨(some 209), (some (201, true)), .nc (.t 208)⟩⟩,
    ⟨24, 12648447, [209, 201], ⟨(some 210), (some (201, true)), .fa (.t 209) 0⟩⟩,
    ⟨25, 29425663, [210, 201], ⟨(some 211), (some (201, true)), .fa (.t 210) 1⟩⟩,
    ⟨26, 62980095, [211, 201], ⟨(some 212), (some (201, true)), .ld (.t 211) 1 false⟩⟩,
    ⟨27, 134217727, [207, 212, 201], ⟨(some 213), (some (201, true)), .ib .eql (.t 207) (.t 212)⟩⟩,
    ⟨28, 268435455, [201, 213], ⟨(some 214), none, .pk (.t 201) (.t 213) (.c (.bool false))⟩⟩,
    ⟨29, 536870911, [214], ⟨(some 6), none, .mv (.t 214)⟩⟩])
  .rt))))))))))))))))⟩
theorem k8 : cF Tryz.prog Tryz.f8 = some c8 := by kernel_rfl
/-- rundale/rundalelaw17.first -/
def c9 : Fu := ⟨35, [.t 0],
  (.sq (.rg [⟨(some 0), none, .mv (.c (.bool false))⟩])
  (.sq (.rg [⟨(some 4), none, .bd [(.int .i64 0), (.int .i64 0), (.int .i64 0), (.int .i64 0), (.int .i64 0), (.int .i64 0)] [(0, 1, (.c (.int .i64 2))), (1, 1, (.c (.int .i64 2))), (2, 1, (.c (.int .i64 8))), (3, 1, (.c (.int .i64 1))), (5, 1, (.c (.int .i64 1)))]⟩,
    ⟨(some 5), none, .ca 29 [(.t 4)]⟩,
    ⟨(some 1), none, .mv (.t 5)⟩])
  (.sq (.sq (.rg [⟨(some 6), none, .mv (.t 1)⟩,
    ⟨(some 7), none, .en 0 false (.t 6) (.c (.pointer none))⟩])
  (.cd (.t 7)
  (.sq (.rg [⟨(some 0), none, .mv (.c (.bool false))⟩])
  .rt)
  .sk))
  (.sq (.rg [⟨(some 9), none, .mv (.t 1)⟩,
    ⟨(some 10), none, .ca 31 [(.t 9), (.c (.int .i64 0))]⟩,
    ⟨(some 8), none, .mv (.t 10)⟩,
    ⟨(some 11), none, .ex (.t 8) 0⟩,
    ⟨(some 12), none, .ex (.t 8) 1⟩,
    ⟨(some 2), none, .mv (.t 11)⟩,
    ⟨(some 3), none, .mv (.t 12)⟩])
  (.sq (.rg [⟨(some 13), none, .mv (.t 2)⟩,
    ⟨(some 14), none, .mv (.t 13)⟩,
    ⟨(some 15), (some (14, true)), .mv (.t 3)⟩,
    ⟨(some 16), (some (14, true)), .ib .eql (.t 15) (.c (.int .i64 5))⟩,
    ⟨(some 17), none, .pk (.t 14) (.t 16) (.c (.bool false))⟩,
    ⟨(some 18), none, .mv (.t 17)⟩,
    ⟨(some 19), (some (18, true)), .mv (.t 1)⟩,
    ⟨(some 20), (some (18, true)), .nc (.t 19)⟩,
    ⟨(some 21), (some (18, true)), .fa (.t 20) 7⟩,
    ⟨(some 22), (some (18, true)), .ld (.t 21) 1 false⟩,
    ⟨(some 23), (some (18, true)), .ca 32 [(.t 22)]⟩,
    ⟨(some 24), (some (18, true)), .ib .eql (.t 23) (.c (.int .i64 1))⟩,
    ⟨(some 25), none, .pk (.t 18) (.t 24) (.c (.bool false))⟩,
    ⟨(some 26), none, .mv (.t 25)⟩,
    ⟨(some 27), (some (26, true)), .mv (.t 1)⟩,
    ⟨(some 28), (some (26, true)), .nc (.t 27)⟩,
    ⟨(some 29), (some (26, true)), .fa (.t 28) 9⟩,
    ⟨(some 30), (some (26, true)), .ld (.t 29) 1 false⟩,
    ⟨(some 31), (some (26, true)), .ca 23 [(.t 30)]⟩,
    ⟨(some 32), (some (26, true)), .len (.t 31)⟩,
    ⟨(some 33), (some (26, true)), .ib .eql (.t 32) (.c (.int .i64 2))⟩,
    ⟨(some 34), none, .pk (.t 26) (.t 33) (.c (.bool false))⟩,
    ⟨(some 0), none, .mv (.t 34)⟩])
  .rt)))))⟩
theorem k9 : cF Tryz.prog Tryz.f9 = some c9 := by kernel_rfl
/-- rundale/rundalemake.Config -/
def c10 : Fu := ⟨43, [.c 2 6 true],
  (.sq (.rg [⟨(some 2), none, .al 24 [(.int .i64 0), (.int .i64 0), (.int .i64 0), (.int .i64 0), (.int .i64 0), (.int .i64 0)]⟩])
  (.sq (.rg [⟨(some 4), none, .mv (.t 0)⟩,
    ⟨(some 5), none, .ca 12 [(.t 4), (.c (.int .i64 4))]⟩,
    ⟨(some 6), none, .mv (.t 0)⟩,
    ⟨(some 7), none, .ib .quo (.t 6) (.c (.int .i64 4))⟩,
    ⟨(some 8), none, .ca 12 [(.t 7), (.c (.int .i64 8))]⟩,
    ⟨(some 9), none, .mv (.t 0)⟩,
    ⟨(some 10), none, .ib .quo (.t 9) (.c (.int .i64 32))⟩,
    ⟨(some 11), none, .ca 12 [(.t 10), (.c (.int .i64 2))]⟩,
    ⟨(some 12), none, .mv (.t 0)⟩,
    ⟨(some 13), none, .ib .quo (.t 12) (.c (.int .i64 64))⟩,
    ⟨(some 14), none, .ca 12 [(.t 13), (.c (.int .i64 4))]⟩,
    ⟨(some 15), none, .mv (.t 0)⟩,
    ⟨(some 16), none, .ib .quo (.t 15) (.c (.int .i64 256))⟩,
    ⟨(some 17), none, .ca 12 [(.t 16), (.c (.int .i64 4))]⟩,
    ⟨(some 18), none, .mv (.t 0)⟩,
    ⟨(some 19), none, .ib .quo (.t 18) (.c (.int .i64 1024))⟩,
    ⟨(some 20), none, .ca 12 [(.t 19), (.c (.int .i64 3))]⟩,
    ⟨(some 21), none, .bs 3 6 [(.int .i64 0), (.int .i64 0), (.int .i64 0), (.int .i64 0), (.int .i64 0), (.int .i64 0)] [(0, 1, (.t 5)), (1, 1, (.t 8)), (2, 1, (.t 11)), (3, 1, (.t 14)), (4, 1, (.t 17)), (5, 1, (.t 20))]⟩,
    ⟨(some 22), none, .bd [(.slice none 0 0), (.int .i64 0)] [(0, 1, (.t 21))]⟩,
    ⟨(some 23), none, .bx 117 (.t 22)⟩,
    ⟨(some 3), none, .mv (.t 23)⟩])
  (.sq (.rg [⟨(some 24), none, .mv (.t 3)⟩,
    ⟨(some 25), none, .ca 55 [(.t 24), (.c (.int .i64 4))]⟩,
    ⟨(some 26), none, .ib .add (.c (.int .i64 1)) (.t 25)⟩,
    ⟨(some 27), none, .mv (.t 3)⟩,
    ⟨(some 28), none, .ca 55 [(.t 27), (.c (.int .i64 8))]⟩,
    ⟨(some 29), none, .ib .add (.c (.int .i64 1)) (.t 28)⟩,
    ⟨(some 30), none, .mv (.t 3)⟩,
    ⟨(some 31), none, .ca 55 [(.t 30), (.c (.int .i64 2))]⟩,
    ⟨(some 32), none, .ib .mul (.c (.int .i64 8)) (.t 31)⟩,
    ⟨(some 33), none, .ib .add (.c (.int .i64 8)) (.t 32)⟩,
    ⟨(some 34), none, .mv (.t 3)⟩,
    ⟨(some 35), none, .ca 55 [(.t 34), (.c (.int .i64 4))]⟩,
    ⟨(some 36), none, .ib .add (.c (.int .i64 1)) (.t 35)⟩,
    ⟨(some 37), none, .mv (.t 3)⟩,
    ⟨(some 38), none, .ca 55 [(.t 37), (.c (.int .i64 4))]⟩,
    ⟨(some 39), none, .mv (.t 3)⟩,
    ⟨(some 40), none, .ca 55 [(.t 39), (.c (.int .i64 3))]⟩,
    ⟨(some 41), none, .ib .add (.c (.int .i64 1)) (.t 40)⟩,
    ⟨(some 42), none, .bd [(.int .i64 0), (.int .i64 0), (.int .i64 0), (.int .i64 0), (.int .i64 0), (.int .i64 0)] [(0, 1, (.t 26)), (1, 1, (.t 29)), (2, 1, (.t 33)), (3, 1, (.t 36)), (4, 1, (.t 38)), (5, 1, (.t 41))]⟩,
    ⟨none, none, .st (.t 2) (.t 42) 6⟩])
  .rt)))⟩
theorem k10 : cF Tryz.prog Tryz.f10 = some c10 := by kernel_rfl
/-- rundale/cells.New -/
def c11 : Fu := ⟨14, [.t 2, .t 3],
  (.sq (.rg [⟨(some 2), none, .mv (.c (.pointer none))⟩,
    ⟨(some 3), none, .mv (.c (.int .i64 0))⟩])
  (.sq (.sq (.rg [⟨(some 4), none, .mv (.t 0)⟩,
    ⟨(some 5), none, .ib .lss (.t 4) (.c (.int .i64 1))⟩,
    ⟨(some 6), none, .mv (.t 5)⟩,
    ⟨(some 7), (some (6, false)), .mv (.t 0)⟩,
    ⟨(some 8), (some (6, false)), .ib .gtr (.t 7) (.c (.int .i64 8388608))⟩,
    ⟨(some 9), none, .pk (.t 6) (.c (.bool true)) (.t 8)⟩])
  (.cd (.t 9)
  (.sq (.rg [⟨(some 2), none, .mv (.c (.pointer none))⟩,
    ⟨(some 3), none, .mv (.c (.int .i64 1))⟩])
  .rt)
  .sk))
  (.sq (.rg [⟨(some 10), none, .mv (.t 0)⟩,
    ⟨(some 11), none, .mk 103 1 8 [(.int .u64 0)] (.t 10) (.t 10)⟩,
    ⟨(some 12), none, .bd [(.slice none 0 0), (.int .i64 0), (.int .i64 0), (.int .i64 0), (.int .u64 0), (.int .u64 0), (.bool false)] [(0, 1, (.t 11))]⟩,
    ⟨(some 13), none, .bx 122 (.t 12)⟩,
    ⟨(some 2), none, .mv (.t 13)⟩,
    ⟨(some 3), none, .mv (.c (.int .i64 0))⟩])
  .rt)))⟩
theorem k11 : cF Tryz.prog Tryz.f11 = some c11 := by kernel_rfl
/-- rundale/rundalemake.Number -/
def c12 : Fu := ⟨15, [.t 4],
  (.sq (.rg [⟨(some 4), none, .mv (.c (.int .i64 0))⟩])
  (.sq (.rg [⟨(some 6), none, .mv (.t 0)⟩,
    ⟨(some 7), none, .mv (.t 1)⟩,
    ⟨(some 8), none, .ib .rem (.t 6) (.t 7)⟩,
    ⟨(some 5), none, .mv (.t 8)⟩])
  (.sq (.sq (.rg [⟨(some 9), none, .mv (.t 5)⟩,
    ⟨(some 10), none, .ib .lss (.t 9) (.c (.int .i64 0))⟩])
  (.cd (.t 10)
  (.rg [⟨(some 11), none, .mv (.t 5)⟩,
    ⟨(some 12), none, .mv (.t 1)⟩,
    ⟨(some 13), none, .ib .add (.t 11) (.t 12)⟩,
    ⟨(some 5), none, .mv (.t 13)⟩])
  .sk))
  (.sq (.rg [⟨(some 14), none, .mv (.t 5)⟩,
    ⟨(some 4), none, .mv (.t 14)⟩])
  .rt))))⟩
theorem k12 : cF Tryz.prog Tryz.f12 = some c12 := by kernel_rfl
/-- rundale/lay.Len -/
def c13 : Fu := ⟨17, [.t 2],
  (.sq (.rg [⟨(some 1), none, .bx 24 (.t 0)⟩,
    ⟨(some 2), none, .mv (.c (.int .i64 0))⟩])
  (.sq (.sq (.rg [⟨(some 5), none, .ld (.t 1) 6 true⟩,
    ⟨(some 6), none, .ca 56 [(.t 5)]⟩,
    ⟨(some 7), none, .nt (.t 6)⟩])
  (.cd (.t 7)
  (.sq (.rg [⟨(some 2), none, .mv (.c (.int .i64 0))⟩])
  .rt)
  .sk))
  (.sq (.rg [⟨(some 8), none, .ld (.t 1) 6 true⟩,
    ⟨(some 9), none, .ca 57 [(.t 8)]⟩,
    ⟨(some 3), none, .al 126 [(.int .i64 0), (.int .i64 0), (.int .i64 0), (.int .i64 0), (.int .i64 0), (.int .i64 0), (.int .i64 0), (.int .i64 0), (.int .i64 0), (.int .i64 0), (.int .i64 0), (.int .i64 0), (.int .i64 0), (.int .i64 0), (.int .i64 0)]⟩,
    ⟨none, none, .st (.t 3) (.t 9) 15⟩])
  (.sq (.rg [⟨(some 10), none, .iaa (.t 3) (.c (.int .i64 4)) 5 3⟩,
    ⟨(some 11), none, .ld (.t 10) 3 true⟩,
    ⟨(some 4), none, .al 125 [(.int .i64 0), (.int .i64 0), (.int .i64 0)]⟩,
    ⟨none, none, .st (.t 4) (.t 11) 3⟩])
  (.sq (.rg [⟨(some 12), none, .fa (.t 4) 1⟩,
    ⟨(some 13), none, .ld (.t 12) 1 false⟩,
    ⟨(some 14), none, .fa (.t 4) 2⟩,
    ⟨(some 15), none, .ld (.t 14) 1 false⟩,
    ⟨(some 16), none, .ib .add (.t 13) (.t 15)⟩,
    ⟨(some 2), none, .mv (.t 16)⟩])
  .rt)))))⟩
theorem k13 : cF Tryz.prog Tryz.f13 = some c13 := by kernel_rfl
/-- rundale/gather.New -/
def c14 : Fu := ⟨34, [.t 4, .t 5],
  (.sq (.rg [⟨(some 3), none, .bx 24 (.t 1)⟩,
    ⟨(some 4), none, .mv (.c (.pointer none))⟩,
    ⟨(some 5), none, .mv (.c (.int .i64 0))⟩])
  (.sq (.sq (.rd [⟨0, 0, [3], ⟨(some 8), none, .ld (.t 3) 6 true⟩⟩,
    ⟨1, 1, [8], ⟨(some 9), none, .ca 56 [(.t 8)]⟩⟩,
    ⟨2, 3, [9], ⟨(some 10), none, .nt (.t 9)⟩⟩,
    ⟨3, 7, [10], ⟨(some 11), none, .mv (.t 10)⟩⟩,
    ⟨4, 15, [0, 11], ⟨(some 12), (some (11, false)), .mv (.t 0)⟩⟩,
    ⟨5, 31, [12, 11], ⟨(some 13), (some (11, false)), .ca 58 [(.t 12)]⟩⟩,
    ⟨6, 15, [3, 11], ⟨(some 14), (some (11, false)), .ld (.t 3) 6 true⟩⟩,
    ⟨7, 127, [14, 11], ⟨(some 15), (some (11, false)), .ca 13 [(.t 14)]⟩⟩,
    ⟨8, 255, [13, 15, 11], ⟨(some 16), (some (11, false)), .ib .lss (.t 13) (.t 15)⟩⟩,
    ⟨9, 511, [11, 16], ⟨(some 17), none, .pk (.t 11) (.c (.bool true)) (.t 16)⟩⟩])
  (.cd (.t 17)
  (.sq (.rg [⟨(some 4), none, .mv (.c (.pointer none))⟩,
    ⟨(some 5), none, .mv (.c (.int .i64 1))⟩])
  .rt)
  .sk))
  (.sq (.rd [⟨0, 0, [0], ⟨(some 19), none, .mv (.t 0)⟩⟩,
    ⟨1, 0, [3], ⟨(some 20), none, .ld (.t 3) 6 true⟩⟩,
    ⟨2, 2, [20], ⟨(some 21), none, .ca 49 [(.t 20), (.c (.int .i64 0))]⟩⟩,
    ⟨3, 0, [3], ⟨(some 22), none, .fa (.t 3) 0⟩⟩,
    ⟨4, 8, [22], ⟨(some 23), none, .ld (.t 22) 1 false⟩⟩,
    ⟨5, 31, [19, 21, 23], ⟨(some 24), none, .ca 59 [(.t 19), (.c (.int .i64 2)), (.t 21), (.t 23)]⟩⟩,
    ⟨6, 63, [24], ⟨(some 18), none, .mv (.t 24)⟩⟩,
    ⟨7, 127, [18], ⟨(some 25), none, .ex (.t 18) 0⟩⟩,
    ⟨8, 127, [18], ⟨(some 26), none, .ex (.t 18) 1⟩⟩,
    ⟨9, 255, [25], ⟨(some 6), none, .mv (.t 25)⟩⟩,
    ⟨10, 1023, [26], ⟨(some 7), none, .mv (.t 26)⟩⟩])
  (.sq (.sq (.rg [⟨(some 27), none, .mv (.t 7)⟩,
    ⟨(some 28), none, .ib .neq (.t 27) (.c (.int .i64 0))⟩])
  (.cd (.t 28)
  (.sq (.rg [⟨(some 29), none, .mv (.t 7)⟩,
    ⟨(some 4), none, .mv (.c (.pointer none))⟩,
    ⟨(some 5), none, .mv (.t 29)⟩])
  .rt)
  .sk))
  (.sq (.rg [⟨(some 30), none, .mv (.t 0)⟩,
    ⟨(some 31), none, .mv (.t 6)⟩,
    ⟨(some 32), none, .bd [(.pointer none), (.pointer none)] [(0, 1, (.t 30)), (1, 1, (.t 31))]⟩,
    ⟨(some 33), none, .bx 131 (.t 32)⟩,
    ⟨(some 4), none, .mv (.t 33)⟩,
    ⟨(some 5), none, .mv (.c (.int .i64 0))⟩])
  .rt)))))⟩
theorem k14 : cF Tryz.prog Tryz.f14 = some c14 := by kernel_rfl
/-- (*rundale/supply.Supply).Stash -/
def c19 : Fu := ⟨8, [.t 2],
  (.sq (.rg [⟨(some 2), none, .mv (.c (.slice none 0 0))⟩])
  (.sq (.rg [⟨(some 3), none, .mv (.t 0)⟩,
    ⟨(some 4), none, .nc (.t 3)⟩,
    ⟨(some 5), none, .fa (.t 4) 8⟩,
    ⟨(some 6), none, .ld (.t 5) 1 false⟩,
    ⟨(some 7), none, .ca 72 [(.t 6)]⟩,
    ⟨(some 2), none, .mv (.t 7)⟩])
  .rt))⟩
theorem k19 : cF Tryz.prog Tryz.f19 = some c19 := by kernel_rfl
/-- (*rundale/supply.Supply).Put -/
def c20 : Fu := ⟨10, [],
  (.rg [⟨(some 4), none, .mv (.t 0)⟩,
    ⟨(some 5), none, .nc (.t 4)⟩,
    ⟨(some 6), none, .fa (.t 5) 8⟩,
    ⟨(some 7), none, .ld (.t 6) 1 false⟩,
    ⟨(some 8), none, .mv (.t 1)⟩,
    ⟨(some 9), none, .ca 73 [(.t 7), (.t 8)]⟩])⟩
theorem k20 : cF Tryz.prog Tryz.f20 = some c20 := by kernel_rfl
/-- (*rundale/stack.Stack).List -/
def c23 : Fu := ⟨45, [.t 2],
  (.sq (.rg [⟨(some 2), none, .mv (.c (.slice none 0 0))⟩])
  (.sq (.rg [⟨(some 3), none, .mv (.c (.slice none 0 0))⟩])
  (.sq (.sq (.rd [⟨0, 0, [0], ⟨(some 5), none, .mv (.t 0)⟩⟩,
    ⟨1, 0, [0], ⟨(some 6), none, .mv (.t 0)⟩⟩,
    ⟨2, 2, [6], ⟨(some 7), none, .nc (.t 6)⟩⟩,
    ⟨3, 6, [7], ⟨(some 8), none, .fa (.t 7) 0⟩⟩,
    ⟨4, 14, [8], ⟨(some 9), none, .ld (.t 8) 1 false⟩⟩,
    ⟨5, 0, [0], ⟨(some 10), none, .mv (.t 0)⟩⟩,
    ⟨6, 32, [10], ⟨(some 11), none, .nc (.t 10)⟩⟩,
    ⟨7, 96, [11], ⟨(some 12), none, .fa (.t 11) 1⟩⟩,
    ⟨8, 224, [12], ⟨(some 13), none, .ld (.t 12) 1 false⟩⟩,
    ⟨9, 510, [9, 13], ⟨(some 14), none, .ca 78 [(.t 9), (.t 13)]⟩⟩,
    ⟨10, 1023, [5, 14], ⟨(some 15), none, .ca 77 [(.t 5), (.t 14)]⟩⟩,
    ⟨11, 2047, [15], ⟨(some 4), none, .mv (.t 15)⟩⟩])
  (.bl 0
  (.lp
  (.sq (.sq (.rg [⟨(some 16), none, .mv (.t 4)⟩,
    ⟨(some 17), none, .ib .geq (.t 16) (.c (.int .i64 0))⟩,
    ⟨(some 18), none, .mv (.t 17)⟩,
    ⟨(some 19), (some (18, true)), .mv (.t 3)⟩,
    ⟨(some 20), (some (18, true)), .len (.t 19)⟩,
    ⟨(some 21), (some (18, true)), .mv (.t 0)⟩,
    ⟨(some 22), (some (18, true)), .nc (.t 21)⟩,
    ⟨(some 23), (some (18, true)), .fa (.t 22) 3⟩,
    ⟨(some 24), (some (18, true)), .ld (.t 23) 1 false⟩,
    ⟨(some 25), (some (18, true)), .ib .lss (.t 20) (.t 24)⟩,
    ⟨(some 26), none, .pk (.t 18) (.t 25) (.c (.bool false))⟩])
  (.cd (.t 26)
  .sk
  (.ex 0)))
  (.sq (.bl 1
  (.rg [⟨(some 40), none, .mv (.t 3)⟩,
    ⟨(some 41), none, .mv (.t 4)⟩,
    ⟨(some 42), none, .bs 3 1 [(.int .i64 0)] [(0, 1, (.t 41))]⟩,
    ⟨(some 43), none, .ap 49 3 1 8 [(.int .i64 0)] (.t 40) (.t 42)⟩,
    ⟨(some 3), none, .mv (.t 43)⟩]))
  (.rd [⟨0, 0, [0], ⟨(some 27), none, .mv (.t 0)⟩⟩,
    ⟨1, 0, [0], ⟨(some 28), none, .mv (.t 0)⟩⟩,
    ⟨2, 2, [28], ⟨(some 29), none, .nc (.t 28)⟩⟩,
    ⟨3, 6, [29], ⟨(some 30), none, .fa (.t 29) 0⟩⟩,
    ⟨4, 14, [30], ⟨(some 31), none, .ld (.t 30) 1 false⟩⟩,
    ⟨5, 0, [0], ⟨(some 32), none, .mv (.t 0)⟩⟩,
    ⟨6, 32, [32], ⟨(some 33), none, .nc (.t 32)⟩⟩,
    ⟨7, 96, [33], ⟨(some 34), none, .fa (.t 33) 2⟩⟩,
    ⟨8, 224, [34], ⟨(some 35), none, .ld (.t 34) 1 false⟩⟩,
    ⟨9, 0, [4], ⟨(some 36), none, .mv (.t 4)⟩⟩,
    ⟨10, 992, [35, 36], ⟨(some 37), none, .ib .add (.t 35) (.t 36)⟩⟩,
    ⟨11, 2046, [31, 37], ⟨(some 38), none, .ca 78 [(.t 31), (.t 37)]⟩⟩,
    ⟨12, 4095, [27, 38], ⟨(some 39), none, .ca 79 [(.t 27), (.t 38)]⟩⟩,
    ⟨13, 8191, [39], ⟨(some 4), none, .mv (.t 39)⟩⟩]))))))
  (.sq (.rg [⟨(some 44), none, .mv (.t 3)⟩,
    ⟨(some 2), none, .mv (.t 44)⟩])
  .rt))))⟩
theorem k23 : cF Tryz.prog Tryz.f23 = some c23 := by kernel_rfl
/-- (*rundale/supply.Supply).All -/
def c24 : Fu := ⟨10, [.t 2],
  (.sq (.rg [⟨(some 2), none, .mv (.c (.pointer none))⟩])
  (.sq (.rg [⟨(some 3), none, .mv (.t 0)⟩,
    ⟨(some 4), none, .mv (.t 0)⟩,
    ⟨(some 5), none, .nc (.t 4)⟩,
    ⟨(some 6), none, .fa (.t 5) 8⟩,
    ⟨(some 7), none, .ld (.t 6) 1 false⟩,
    ⟨(some 8), none, .ca 80 [(.t 7)]⟩,
    ⟨(some 9), none, .ca 75 [(.t 3), (.t 8)]⟩,
    ⟨(some 2), none, .mv (.t 9)⟩])
  .rt))⟩
theorem k24 : cF Tryz.prog Tryz.f24 = some c24 := by kernel_rfl
/-- rundale/rundalelaw17.made -/
def c29 : Fu := ⟨130, [.t 2],
  (.sq (.rg [⟨(some 1), none, .bx 24 (.t 0)⟩,
    ⟨(some 2), none, .mv (.c (.pointer none))⟩])
  (.sq (.rg [⟨(some 16), none, .ld (.t 1) 6 true⟩,
    ⟨(some 17), none, .ca 13 [(.t 16)]⟩,
    ⟨(some 18), none, .ca 11 [(.t 17)]⟩,
    ⟨(some 15), none, .mv (.t 18)⟩,
    ⟨(some 19), none, .ex (.t 15) 0⟩,
    ⟨(some 20), none, .ex (.t 15) 1⟩,
    ⟨(some 3), none, .mv (.t 19)⟩,
    ⟨(some 4), none, .mv (.t 20)⟩])
  (.sq (.sq (.rg [⟨(some 21), none, .mv (.t 3)⟩,
    ⟨(some 22), none, .en 0 false (.t 21) (.c (.pointer none))⟩,
    ⟨(some 23), none, .mv (.t 22)⟩,
    ⟨(some 24), (some (23, false)), .mv (.t 4)⟩,
    ⟨(some 25), (some (23, false)), .ib .neq (.t 24) (.c (.int .i64 0))⟩,
    ⟨(some 26), none, .pk (.t 23) (.c (.bool true)) (.t 25)⟩])
  (.cd (.t 26)
  (.sq (.rg [⟨(some 2), none, .mv (.c (.pointer none))⟩])
  .rt)
  .sk))
  (.sq (.rg [⟨(some 28), none, .mv (.t 3)⟩,
    ⟨(some 29), none, .ld (.t 1) 6 true⟩,
    ⟨(some 30), none, .ca 66 [(.t 28), (.t 29)]⟩,
    ⟨(some 27), none, .mv (.t 30)⟩,
    ⟨(some 31), none, .ex (.t 27) 0⟩,
    ⟨(some 32), none, .ex (.t 27) 1⟩,
    ⟨(some 5), none, .mv (.t 31)⟩,
    ⟨(some 6), none, .mv (.t 32)⟩])
  (.sq (.rg [⟨(some 34), none, .mv (.t 3)⟩,
    ⟨(some 35), none, .ld (.t 1) 6 true⟩,
    ⟨(some 36), none, .ca 14 [(.t 34), (.t 35)]⟩,
    ⟨(some 33), none, .mv (.t 36)⟩,
    ⟨(some 37), none, .ex (.t 33) 0⟩,
    ⟨(some 38), none, .ex (.t 33) 1⟩,
    ⟨(some 7), none, .mv (.t 37)⟩,
    ⟨(some 8), none, .mv (.t 38)⟩])
  (.sq (.rd [⟨0, 0, [3], ⟨(some 40), none, .mv (.t 3)⟩⟩,
    ⟨1, 0, [1], ⟨(some 41), none, .ld (.t 1) 6 true⟩⟩,
    ⟨2, 2, [41], ⟨(some 42), none, .ca 49 [(.t 41), (.c (.int .i64 0))]⟩⟩,
    ⟨3, 0, [1], ⟨(some 43), none, .fa (.t 1) 0⟩⟩,
    ⟨4, 8, [43], ⟨(some 44), none, .ld (.t 43) 1 false⟩⟩,
    ⟨5, 31, [40, 42, 44], ⟨(some 45), none, .ca 59 [(.t 40), (.c (.int .i64 2)), (.t 42), (.t 44)]⟩⟩,
    ⟨6, 63, [45], ⟨(some 39), none, .mv (.t 45)⟩⟩,
    ⟨7, 127, [39], ⟨(some 46), none, .ex (.t 39) 0⟩⟩,
    ⟨8, 127, [39], ⟨(some 47), none, .ex (.t 39) 1⟩⟩,
    ⟨9, 255, [46], ⟨(some 9), none, .mv (.t 46)⟩⟩,
    ⟨10, 1023, [47], ⟨(some 10), none, .mv (.t 47)⟩⟩])
  (.sq (.sq (.rg [⟨(some 48), none, .mv (.t 5)⟩,
    ⟨(some 49), none, .en 0 false (.t 48) (.c (.pointer none))⟩,
    ⟨(some 50), none, .mv (.t 49)⟩,
    ⟨(some 51), (some (50, false)), .mv (.t 6)⟩,
    ⟨(some 52), (some (50, false)), .ib .neq (.t 51) (.c (.int .i64 0))⟩,
    ⟨(some 53), none, .pk (.t 50) (.c (.bool true)) (.t 52)⟩,
    ⟨(some 54), none, .mv (.t 53)⟩,
    ⟨(some 55), (some (54, false)), .mv (.t 7)⟩,
    ⟨(some 56), (some (54, false)), .en 0 false (.t 55) (.c (.pointer none))⟩,
    ⟨(some 57), none, .pk (.t 54) (.c (.bool true)) (.t 56)⟩,
    ⟨(some 58), none, .mv (.t 57)⟩,
    ⟨(some 59), (some (58, false)), .mv (.t 8)⟩,
    ⟨(some 60), (some (58, false)), .ib .neq (.t 59) (.c (.int .i64 0))⟩,
    ⟨(some 61), none, .pk (.t 58) (.c (.bool true)) (.t 60)⟩,
    ⟨(some 62), none, .mv (.t 61)⟩,
    ⟨(some 63), (some (62, false)), .mv (.t 9)⟩,
    ⟨(some 64), (some (62, false)), .en 0 false (.t 63) (.c (.pointer none))⟩,
    ⟨(some 65), none, .pk (.t 62) (.c (.bool true)) (.t 64)⟩,
    ⟨(some 66), none, .mv (.t 65)⟩,
    ⟨(some 67), (some (66, false)), .mv (.t 10)⟩,
    ⟨(some 68), (some (66, false)), .ib .neq (.t 67) (.c (.int .i64 0))⟩,
    ⟨(some 69), none, .pk (.t 66) (.c (.bool true)) (.t 68)⟩,
    ⟨(some 70), none, .mv (.t 69)⟩,
    ⟨(some 71), (some (70, false)), .mv (.t 5)⟩,
    ⟨(some 72), (some (70, false)), .ca 67 [(.t 71)]⟩,
    ⟨(some 73), (some (70, false)), .en 0 false (.t 72) (.c (.pointer none))⟩,
    ⟨(some 74), none, .pk (.t 70) (.c (.bool true)) (.t 73)⟩])
  (.cd (.t 74)
  (.sq (.rg [⟨(some 2), none, .mv (.c (.pointer none))⟩])
  .rt)
  .sk))
  (.sq (.rg [⟨(some 75), none, .mv (.t 5)⟩,
    ⟨(some 76), none, .ca 68 [(.t 75)]⟩])
  (.sq (.rd [⟨0, 0, [1], ⟨(some 77), none, .ld (.t 1) 6 true⟩⟩,
    ⟨1, 0, [3], ⟨(some 78), none, .mv (.t 3)⟩⟩,
    ⟨2, 0, [9], ⟨(some 79), none, .mv (.t 9)⟩⟩,
    ⟨3, 0, [7], ⟨(some 80), none, .mv (.t 7)⟩⟩,
    ⟨4, 0, [5], ⟨(some 81), none, .mv (.t 5)⟩⟩,
    ⟨5, 16, [81], ⟨(some 82), none, .ca 67 [(.t 81)]⟩⟩,
    ⟨6, 0, [1], ⟨(some 83), none, .ld (.t 1) 6 true⟩⟩,
    ⟨7, 112, [83], ⟨(some 84), none, .ca 69 [(.t 83)]⟩⟩,
    ⟨8, 255, [77, 78, 79, 80, 82, 84], ⟨(some 85), none, .bd [(.int .i64 0), (.int .i64 0), (.int .i64 0), (.int .i64 0), (.int .i64 0), (.int .i64 0), (.pointer none), (.pointer none), (.pointer none), (.pointer none), (.slice none 0 0), (.pointer none), (.slice none 0 0)] [(0, 6, (.t 77)), (6, 1, (.t 78)), (7, 1, (.t 79)), (8, 1, (.t 80)), (9, 1, (.t 82)), (11, 1, (.t 84))]⟩⟩,
    ⟨9, 511, [85], ⟨(some 86), none, .bx 80 (.t 85)⟩⟩,
    ⟨10, 1023, [86], ⟨(some 11), none, .mv (.t 86)⟩⟩])
  (.sq (.sq (.rg [⟨(some 12), none, .mv (.c (.int .i64 0))⟩])
  (.bl 0
  (.lp
  (.sq (.sq (.rg [⟨(some 87), none, .mv (.t 12)⟩,
    ⟨(some 88), none, .fa (.t 1) 0⟩,
    ⟨(some 89), none, .ld (.t 88) 1 false⟩,
    ⟨(some 90), none, .ib .lss (.t 87) (.t 89)⟩])
  (.cd (.t 90)
  .sk
  (.ex 0)))
  (.sq (.bl 1
  (.sq (.rg [⟨(some 94), none, .mv (.t 3)⟩,
    ⟨(some 95), none, .ld (.t 1) 6 true⟩,
    ⟨(some 96), none, .ca 60 [(.t 94), (.t 95)]⟩,
    ⟨(some 93), none, .mv (.t 96)⟩,
    ⟨(some 97), none, .ex (.t 93) 0⟩,
    ⟨(some 98), none, .ex (.t 93) 1⟩,
    ⟨(some 13), none, .mv (.t 97)⟩,
    ⟨(some 14), none, .mv (.t 98)⟩])
  (.sq (.sq (.rg [⟨(some 99), none, .mv (.t 13)⟩,
    ⟨(some 100), none, .en 0 false (.t 99) (.c (.pointer none))⟩,
    ⟨(some 101), none, .mv (.t 100)⟩,
    ⟨(some 102), (some (101, false)), .mv (.t 14)⟩,
    ⟨(some 103), (some (101, false)), .ib .neq (.t 102) (.c (.int .i64 0))⟩,
    ⟨(some 104), none, .pk (.t 101) (.c (.bool true)) (.t 103)⟩])
  (.cd (.t 104)
  (.sq (.rg [⟨(some 2), none, .mv (.c (.pointer none))⟩])
  .rt)
  .sk))
  (.sq (.rg [⟨(some 105), none, .mv (.t 11)⟩,
    ⟨(some 106), none, .mv (.t 11)⟩,
    ⟨(some 107), none, .nc (.t 106)⟩,
    ⟨(some 108), none, .fa (.t 107) 10⟩,
    ⟨(some 109), none, .ld (.t 108) 1 false⟩,
    ⟨(some 110), none, .mv (.t 13)⟩,
    ⟨(some 111), none, .bs 39 1 [(.pointer none)] [(0, 1, (.t 110))]⟩,
    ⟨(some 112), none, .ap 41 39 1 8 [(.pointer none)] (.t 109) (.t 111)⟩,
    ⟨(some 113), none, .nc (.t 105)⟩,
    ⟨(some 114), none, .fa (.t 113) 10⟩,
    ⟨none, none, .st (.t 114) (.t 112) 1⟩])
  (.rd [⟨0, 0, [11], ⟨(some 115), none, .mv (.t 11)⟩⟩,
    ⟨1, 0, [11], ⟨(some 116), none, .mv (.t 11)⟩⟩,
    ⟨2, 2, [116], ⟨(some 117), none, .nc (.t 116)⟩⟩,
    ⟨3, 6, [117], ⟨(some 118), none, .fa (.t 117) 12⟩⟩,
    ⟨4, 14, [118], ⟨(some 119), none, .ld (.t 118) 1 false⟩⟩,
    ⟨5, 0, [11], ⟨(some 120), none, .mv (.t 11)⟩⟩,
    ⟨6, 32, [120], ⟨(some 121), none, .nc (.t 120)⟩⟩,
    ⟨7, 96, [121], ⟨(some 122), none, .fa (.t 121) 11⟩⟩,
    ⟨8, 224, [122], ⟨(some 123), none, .ld (.t 122) 1 false⟩⟩,
    ⟨9, 480, [123], ⟨(some 124), none, .ca 70 [(.t 123)]⟩⟩,
    ⟨10, 992, [124], ⟨(some 125), none, .bs 89 1 [(.pointer none)] [(0, 1, (.t 124))]⟩⟩,
    ⟨11, 2046, [119, 125], ⟨(some 126), none, .ap 43 89 1 8 [(.pointer none)] (.t 119) (.t 125)⟩⟩,
    ⟨12, 4095, [115], ⟨(some 127), none, .nc (.t 115)⟩⟩,
    ⟨13, 8191, [127], ⟨(some 128), none, .fa (.t 127) 12⟩⟩,
    ⟨14, 16383, [128, 126], ⟨none, none, .st (.t 128) (.t 126) 1⟩⟩])))))
  (.rg [⟨(some 91), none, .mv (.t 12)⟩,
    ⟨(some 92), none, .ib .add (.t 91) (.c (.int .i64 1))⟩,
    ⟨(some 12), none, .mv (.t 92)⟩]))))))
  (.sq (.rg [⟨(some 129), none, .mv (.t 11)⟩,
    ⟨(some 2), none, .mv (.t 129)⟩])
  .rt)))))))))))⟩
theorem k29 : cF Tryz.prog Tryz.f29 = some c29 := by kernel_rfl
/-- (*rundale/rundalelaw17.all).take -/
def c30 : Fu := ⟨52, [.t 4, .t 5],
  (.sq (.rg [⟨(some 4), none, .mv (.c (.int .i64 0))⟩,
    ⟨(some 5), none, .mv (.c (.bool false))⟩])
  (.sq (.rd [⟨0, 0, [0], ⟨(some 11), none, .mv (.t 0)⟩⟩,
    ⟨1, 1, [11], ⟨(some 12), none, .nc (.t 11)⟩⟩,
    ⟨2, 3, [12], ⟨(some 13), none, .fa (.t 12) 10⟩⟩,
    ⟨3, 7, [13], ⟨(some 14), none, .ld (.t 13) 1 false⟩⟩,
    ⟨4, 0, [1], ⟨(some 15), none, .mv (.t 1)⟩⟩,
    ⟨5, 31, [14, 15], ⟨(some 16), none, .ia (.t 14) (.t 15) 1⟩⟩,
    ⟨6, 63, [16], ⟨(some 17), none, .ld (.t 16) 1 false⟩⟩,
    ⟨7, 127, [17], ⟨(some 18), none, .ca 61 [(.t 17)]⟩⟩,
    ⟨8, 0, [0], ⟨(some 19), none, .mv (.t 0)⟩⟩,
    ⟨9, 256, [19], ⟨(some 20), none, .nc (.t 19)⟩⟩,
    ⟨10, 768, [20], ⟨(some 21), none, .fa (.t 20) 12⟩⟩,
    ⟨11, 1792, [21], ⟨(some 22), none, .ld (.t 21) 1 false⟩⟩,
    ⟨12, 0, [1], ⟨(some 23), none, .mv (.t 1)⟩⟩,
    ⟨13, 7936, [22, 23], ⟨(some 24), none, .ia (.t 22) (.t 23) 1⟩⟩,
    ⟨14, 16128, [24], ⟨(some 25), none, .ld (.t 24) 1 false⟩⟩,
    ⟨15, 32767, [25], ⟨(some 26), none, .ca 85 [(.t 25)]⟩⟩,
    ⟨16, 65535, [18], ⟨(some 6), none, .mv (.t 18)⟩⟩,
    ⟨17, 131071, [26], ⟨(some 7), none, .mv (.t 26)⟩⟩])
  (.sq (.sq (.rg [⟨(some 27), none, .mv (.t 6)⟩,
    ⟨(some 28), none, .en 0 false (.t 27) (.c (.pointer none))⟩])
  (.cd (.t 28)
  (.sq (.rg [⟨(some 4), none, .mv (.c (.int .i64 0))⟩,
    ⟨(some 5), none, .mv (.c (.bool false))⟩])
  .rt)
  .sk))
  (.sq (.sq (.rg [⟨(some 8), none, .mv (.c (.int .i64 0))⟩])
  (.bl 0
  (.lp
  (.sq (.sq (.rg [⟨(some 29), none, .mv (.t 8)⟩,
    ⟨(some 30), none, .ib .lss (.t 29) (.c (.int .i64 40))⟩])
  (.cd (.t 30)
  .sk
  (.ex 0)))
  (.sq (.bl 1
  (.sq (.rg [⟨(some 33), none, .mv (.t 6)⟩,
    ⟨(some 34), none, .ca 63 [(.t 33)]⟩])
  (.rg [⟨(some 35), none, .mv (.t 7)⟩,
    ⟨(some 36), none, .ca 81 [(.t 35)]⟩])))
  (.rg [⟨(some 31), none, .mv (.t 8)⟩,
    ⟨(some 32), none, .ib .add (.t 31) (.c (.int .i64 1))⟩,
    ⟨(some 8), none, .mv (.t 32)⟩]))))))
  (.sq (.rg [⟨(some 38), none, .mv (.t 6)⟩,
    ⟨(some 39), none, .ca 64 [(.t 38)]⟩,
    ⟨(some 37), none, .mv (.t 39)⟩,
    ⟨(some 40), none, .ex (.t 37) 0⟩,
    ⟨(some 41), none, .ex (.t 37) 1⟩,
    ⟨(some 9), none, .mv (.t 40)⟩,
    ⟨(some 10), none, .mv (.t 41)⟩])
  (.sq (.rd [⟨0, 0, [9], ⟨(some 42), none, .mv (.t 9)⟩⟩,
    ⟨1, 0, [10], ⟨(some 43), none, .mv (.t 10)⟩⟩,
    ⟨2, 2, [43], ⟨(some 44), none, .mv (.t 43)⟩⟩,
    ⟨3, 6, [9, 44], ⟨(some 45), (some (44, true)), .mv (.t 9)⟩⟩,
    ⟨4, 6, [7, 44], ⟨(some 46), (some (44, true)), .mv (.t 7)⟩⟩,
    ⟨5, 22, [46, 44], ⟨(some 47), (some (44, true)), .nc (.t 46)⟩⟩,
    ⟨6, 54, [47, 44], ⟨(some 48), (some (44, true)), .fa (.t 47) 2⟩⟩,
    ⟨7, 118, [48, 44], ⟨(some 49), (some (44, true)), .ld (.t 48) 1 false⟩⟩,
    ⟨8, 254, [45, 49, 44], ⟨(some 50), (some (44, true)), .ib .eql (.t 45) (.t 49)⟩⟩,
    ⟨9, 510, [44, 50], ⟨(some 51), none, .pk (.t 44) (.t 50) (.c (.bool false))⟩⟩,
    ⟨10, 7, [42], ⟨(some 4), none, .mv (.t 42)⟩⟩,
    ⟨11, 2047, [51], ⟨(some 5), none, .mv (.t 51)⟩⟩])
  .rt))))))⟩
theorem k30 : cF Tryz.prog Tryz.f30 = some c30 := by kernel_rfl
/-- (*rundale/rundalelaw17.all).collects -/
def c31 : Fu := ⟨45, [.t 4, .t 5],
  (.sq (.rg [⟨(some 4), none, .mv (.c (.bool false))⟩,
    ⟨(some 5), none, .mv (.c (.int .i64 0))⟩])
  (.sq (.rd [⟨0, 0, [0], ⟨(some 9), none, .mv (.t 0)⟩⟩,
    ⟨1, 1, [9], ⟨(some 10), none, .nc (.t 9)⟩⟩,
    ⟨2, 3, [10], ⟨(some 11), none, .fa (.t 10) 8⟩⟩,
    ⟨3, 7, [11], ⟨(some 12), none, .ld (.t 11) 1 false⟩⟩,
    ⟨4, 0, [0], ⟨(some 13), none, .mv (.t 0)⟩⟩,
    ⟨5, 16, [13], ⟨(some 14), none, .nc (.t 13)⟩⟩,
    ⟨6, 48, [14], ⟨(some 15), none, .fa (.t 14) 10⟩⟩,
    ⟨7, 112, [15], ⟨(some 16), none, .ld (.t 15) 1 false⟩⟩,
    ⟨8, 0, [1], ⟨(some 17), none, .mv (.t 1)⟩⟩,
    ⟨9, 496, [16, 17], ⟨(some 18), none, .ia (.t 16) (.t 17) 1⟩⟩,
    ⟨10, 1008, [18], ⟨(some 19), none, .ld (.t 18) 1 false⟩⟩,
    ⟨11, 2047, [12, 19], ⟨(some 20), none, .ca 39 [(.t 12), (.t 19)]⟩⟩,
    ⟨12, 4095, [20], ⟨(some 6), none, .mv (.t 20)⟩⟩])
  (.sq (.sq (.rg [⟨(some 21), none, .mv (.t 6)⟩,
    ⟨(some 22), none, .en 0 false (.t 21) (.c (.pointer none))⟩])
  (.cd (.t 22)
  (.sq (.rg [⟨(some 4), none, .mv (.c (.bool false))⟩,
    ⟨(some 5), none, .mv (.c (.int .i64 (-1)))⟩])
  .rt)
  .sk))
  (.sq (.rg [⟨(some 7), none, .mv (.c (.int .i64 0))⟩])
  (.sq (.sq (.rg [⟨(some 8), none, .mv (.c (.int .i64 0))⟩])
  (.bl 0
  (.lp
  (.sq (.sq (.rg [⟨(some 23), none, .mv (.t 8)⟩,
    ⟨(some 24), none, .ib .lss (.t 23) (.c (.int .i64 400))⟩,
    ⟨(some 25), none, .mv (.t 24)⟩,
    ⟨(some 26), (some (25, true)), .mv (.t 6)⟩,
    ⟨(some 27), (some (25, true)), .ca 33 [(.t 26)]⟩,
    ⟨(some 28), none, .pk (.t 25) (.t 27) (.c (.bool false))⟩])
  (.cd (.t 28)
  .sk
  (.ex 0)))
  (.sq (.bl 1
  (.rg [⟨(some 31), none, .mv (.t 7)⟩,
    ⟨(some 32), none, .ib .add (.t 31) (.c (.int .i64 1))⟩,
    ⟨(some 7), none, .mv (.t 32)⟩]))
  (.rg [⟨(some 29), none, .mv (.t 8)⟩,
    ⟨(some 30), none, .ib .add (.t 29) (.c (.int .i64 1))⟩,
    ⟨(some 8), none, .mv (.t 30)⟩]))))))
  (.sq (.sq (.rg [⟨(some 33), none, .mv (.t 6)⟩,
    ⟨(some 34), none, .ca 35 [(.t 33)]⟩,
    ⟨(some 35), none, .nt (.t 34)⟩,
    ⟨(some 36), none, .mv (.t 35)⟩,
    ⟨(some 37), (some (36, false)), .mv (.t 6)⟩,
    ⟨(some 38), (some (36, false)), .ca 37 [(.t 37)]⟩,
    ⟨(some 39), (some (36, false)), .len (.t 38)⟩,
    ⟨(some 40), (some (36, false)), .ib .neq (.t 39) (.c (.int .i64 0))⟩,
    ⟨(some 41), none, .pk (.t 36) (.c (.bool true)) (.t 40)⟩])
  (.cd (.t 41)
  (.sq (.rg [⟨(some 4), none, .mv (.c (.bool false))⟩,
    ⟨(some 5), none, .mv (.c (.int .i64 (-1)))⟩])
  .rt)
  .sk))
  (.sq (.rg [⟨(some 42), none, .mv (.t 6)⟩,
    ⟨(some 43), none, .ca 36 [(.t 42)]⟩,
    ⟨(some 44), none, .mv (.t 7)⟩,
    ⟨(some 4), none, .mv (.t 43)⟩,
    ⟨(some 5), none, .mv (.t 44)⟩])
  .rt)))))))⟩
theorem k31 : cF Tryz.prog Tryz.f31 = some c31 := by kernel_rfl
/-- (*rundale/epoch.Epoch).Now -/
def c32 : Fu := ⟨13, [.t 2],
  (.sq (.rg [⟨(some 2), none, .mv (.c (.int .i64 0))⟩])
  (.sq (.rd [⟨0, 0, [0], ⟨(some 3), none, .mv (.t 0)⟩⟩,
    ⟨1, 1, [3], ⟨(some 4), none, .nc (.t 3)⟩⟩,
    ⟨2, 3, [4], ⟨(some 5), none, .fa (.t 4) 0⟩⟩,
    ⟨3, 7, [5], ⟨(some 6), none, .ld (.t 5) 1 false⟩⟩,
    ⟨4, 0, [0], ⟨(some 7), none, .mv (.t 0)⟩⟩,
    ⟨5, 16, [7], ⟨(some 8), none, .nc (.t 7)⟩⟩,
    ⟨6, 48, [8], ⟨(some 9), none, .fa (.t 8) 1⟩⟩,
    ⟨7, 112, [9], ⟨(some 10), none, .ld (.t 9) 1 false⟩⟩,
    ⟨8, 255, [6, 10], ⟨(some 11), none, .ca 78 [(.t 6), (.t 10)]⟩⟩,
    ⟨9, 511, [11], ⟨(some 12), none, .ca 92 [(.t 11)]⟩⟩,
    ⟨10, 1023, [12], ⟨(some 2), none, .mv (.t 12)⟩⟩])
  .rt))⟩
theorem k32 : cF Tryz.prog Tryz.f32 = some c32 := by kernel_rfl
/-- (*rundale/gather.Collect).Step -/
def c33 : Fu := ⟨7, [.t 2],
  (.sq (.rg [⟨(some 2), none, .mv (.c (.bool false))⟩])
  (.sq (.rg [⟨(some 3), none, .mv (.t 0)⟩,
    ⟨(some 4), none, .nc (.t 3)⟩,
    ⟨(some 5), none, .fa (.t 4) 0⟩,
    ⟨(some 6), none, .ca 93 [(.t 5)]⟩,
    ⟨(some 2), none, .mv (.t 6)⟩])
  .rt))⟩
theorem k33 : cF Tryz.prog Tryz.f33 = some c33 := by kernel_rfl
/-- (*rundale/gather.Collect).Done -/
def c35 : Fu := ⟨7, [.t 2],
  (.sq (.rg [⟨(some 2), none, .mv (.c (.bool false))⟩])
  (.sq (.rg [⟨(some 3), none, .mv (.t 0)⟩,
    ⟨(some 4), none, .nc (.t 3)⟩,
    ⟨(some 5), none, .fa (.t 4) 0⟩,
    ⟨(some 6), none, .ca 97 [(.t 5)]⟩,
    ⟨(some 2), none, .mv (.t 6)⟩])
  .rt))⟩
theorem k35 : cF Tryz.prog Tryz.f35 = some c35 := by kernel_rfl
/-- (*rundale/gather.Collect).Won -/
def c36 : Fu := ⟨8, [.t 2],
  (.sq (.rg [⟨(some 2), none, .mv (.c (.bool false))⟩])
  (.sq (.rg [⟨(some 3), none, .mv (.t 0)⟩,
    ⟨(some 4), none, .nc (.t 3)⟩,
    ⟨(some 5), none, .fa (.t 4) 7⟩,
    ⟨(some 6), none, .ld (.t 5) 1 false⟩,
    ⟨(some 7), none, .ca 98 [(.t 6)]⟩,
    ⟨(some 2), none, .mv (.t 7)⟩])
  .rt))⟩
theorem k36 : cF Tryz.prog Tryz.f36 = some c36 := by kernel_rfl
/-- (*rundale/gather.Collect).Hand -/
def c37 : Fu := ⟨13, [.t 2],
  (.sq (.rg [⟨(some 2), none, .mv (.c (.slice none 0 0))⟩])
  (.sq (.sq (.rg [⟨(some 3), none, .mv (.t 0)⟩,
    ⟨(some 4), none, .nc (.t 3)⟩,
    ⟨(some 5), none, .fa (.t 4) 8⟩,
    ⟨(some 6), none, .ld (.t 5) 1 false⟩,
    ⟨(some 7), none, .en 0 false (.t 6) (.c (.pointer none))⟩])
  (.cd (.t 7)
  (.sq (.rg [⟨(some 2), none, .mv (.c (.slice none 0 0))⟩])
  .rt)
  .sk))
  (.sq (.rg [⟨(some 8), none, .mv (.t 0)⟩,
    ⟨(some 9), none, .nc (.t 8)⟩,
    ⟨(some 10), none, .fa (.t 9) 8⟩,
    ⟨(some 11), none, .ld (.t 10) 1 false⟩,
    ⟨(some 12), none, .ca 99 [(.t 11)]⟩,
    ⟨(some 2), none, .mv (.t 12)⟩])
  .rt)))⟩
theorem k37 : cF Tryz.prog Tryz.f37 = some c37 := by kernel_rfl
/-- (*rundale/gather.Gather).Collect -/
def c39 : Fu := ⟨32, [.t 4],
  (.sq (.rg [⟨(some 4), none, .mv (.c (.pointer none))⟩])
  (.sq (.rg [⟨(some 6), none, .mv (.t 0)⟩,
    ⟨(some 7), none, .mv (.t 1)⟩,
    ⟨(some 8), none, .mv (.t 0)⟩,
    ⟨(some 9), none, .nc (.t 8)⟩,
    ⟨(some 10), none, .fa (.t 9) 1⟩,
    ⟨(some 11), none, .ld (.t 10) 1 false⟩,
    ⟨(some 12), none, .ca 101 [(.t 11)]⟩,
    ⟨(some 13), none, .bd [.nilFunc, .nilFunc, .nilFunc, .nilFunc, (.int .i64 0), (.pointer none), (.pointer none), (.pointer none), (.pointer none)] [(5, 1, (.t 6)), (6, 1, (.t 7)), (7, 1, (.t 12))]⟩,
    ⟨(some 14), none, .bx 166 (.t 13)⟩,
    ⟨(some 5), none, .mv (.t 14)⟩])
  (.sq (.rd [⟨0, 0, [5], ⟨(some 15), none, .mv (.t 5)⟩⟩,
    ⟨1, 1, [15], ⟨(some 16), none, .nc (.t 15)⟩⟩,
    ⟨2, 3, [16], ⟨(some 17), none, .fa (.t 16) 0⟩⟩,
    ⟨3, 0, [5], ⟨(some 18), none, .mv (.t 5)⟩⟩,
    ⟨4, 8, [18], ⟨(some 19), none, .nc (.t 18)⟩⟩,
    ⟨5, 24, [19], ⟨(some 20), none, .fa (.t 19) 7⟩⟩,
    ⟨6, 56, [20], ⟨(some 21), none, .ld (.t 20) 1 false⟩⟩,
    ⟨7, 120, [21], ⟨(some 22), none, .mf (.func 103) [(.t 21)] []⟩⟩,
    ⟨8, 0, [5], ⟨(some 23), none, .mv (.t 5)⟩⟩,
    ⟨9, 256, [23], ⟨(some 24), none, .nc (.t 23)⟩⟩,
    ⟨10, 768, [24], ⟨(some 25), none, .fa (.t 24) 7⟩⟩,
    ⟨11, 1792, [25], ⟨(some 26), none, .ld (.t 25) 1 false⟩⟩,
    ⟨12, 3840, [26], ⟨(some 27), none, .mf (.func 104) [(.t 26)] []⟩⟩,
    ⟨13, 0, [5], ⟨(some 28), none, .mv (.t 5)⟩⟩,
    ⟨14, 8192, [28], ⟨(some 29), none, .mf (.func 105) [(.t 28)] []⟩⟩,
    ⟨15, 32767, [17, 22, 27, 29], ⟨(some 30), none, .ca 102 [(.t 17), (.t 22), (.t 27), (.t 29)]⟩⟩])
  (.sq (.rg [⟨(some 31), none, .mv (.t 5)⟩,
    ⟨(some 4), none, .mv (.t 31)⟩])
  .rt))))⟩
theorem k39 : cF Tryz.prog Tryz.f39 = some c39 := by kernel_rfl
/-- (*rundale/supply.Supply).Retire -/
def c42 : Fu := ⟨26, [.t 6],
  (.sq (.rg [⟨(some 6), none, .mv (.c (.int .i64 0))⟩])
  (.sq (.rg [⟨(some 10), none, .mv (.t 0)⟩,
    ⟨(some 11), none, .nc (.t 10)⟩,
    ⟨(some 12), none, .fa (.t 11) 9⟩,
    ⟨(some 13), none, .ld (.t 12) 1 false⟩,
    ⟨(some 14), none, .mv (.t 1)⟩,
    ⟨(some 15), none, .mv (.t 2)⟩,
    ⟨(some 16), none, .ca 106 [(.t 13), (.t 14), (.t 15)]⟩,
    ⟨(some 9), none, .mv (.t 16)⟩,
    ⟨(some 17), none, .ex (.t 9) 0⟩,
    ⟨(some 18), none, .ex (.t 9) 1⟩,
    ⟨(some 7), none, .mv (.t 17)⟩,
    ⟨(some 8), none, .mv (.t 18)⟩])
  (.sq (.rg [⟨(some 19), none, .mv (.t 0)⟩,
    ⟨(some 20), none, .nc (.t 19)⟩,
    ⟨(some 21), none, .fa (.t 20) 8⟩,
    ⟨(some 22), none, .ld (.t 21) 1 false⟩,
    ⟨(some 23), none, .mv (.t 7)⟩,
    ⟨(some 24), none, .ca 73 [(.t 22), (.t 23)]⟩])
  (.sq (.rg [⟨(some 25), none, .mv (.t 8)⟩,
    ⟨(some 6), none, .mv (.t 25)⟩])
  .rt))))⟩
theorem k42 : cF Tryz.prog Tryz.f42 = some c42 := by kernel_rfl
/-- (*rundale/rundaleref5.Stash).Give -/
def c45 : Fu := ⟨14, [],
  (.rg [⟨(some 4), none, .mv (.t 0)⟩,
    ⟨(some 5), none, .mv (.t 0)⟩,
    ⟨(some 6), none, .nc (.t 5)⟩,
    ⟨(some 7), none, .fa (.t 6) 1⟩,
    ⟨(some 8), none, .ld (.t 7) 1 false⟩,
    ⟨(some 9), none, .ap 49 3 1 8 [(.int .i64 0)] (.c (.slice none 0 0)) (.t 8)⟩,
    ⟨(some 10), none, .mv (.t 1)⟩,
    ⟨(some 11), none, .ap 49 3 1 8 [(.int .i64 0)] (.t 9) (.t 10)⟩,
    ⟨(some 12), none, .nc (.t 4)⟩,
    ⟨(some 13), none, .fa (.t 12) 1⟩,
    ⟨none, none, .st (.t 13) (.t 11) 1⟩])⟩
theorem k45 : cF Tryz.prog Tryz.f45 = some c45 := by kernel_rfl
/-- rundale/rundaleref1.Pin -/
def c47 : Fu := ⟨10, [.t 4],
  (.sq (.rg [⟨(some 2), none, .bx 24 (.t 0)⟩,
    ⟨(some 4), none, .mv (.c (.int .i64 0))⟩])
  (.sq (.rg [⟨(some 5), none, .ld (.t 2) 6 true⟩,
    ⟨(some 6), none, .fa (.t 2) 0⟩,
    ⟨(some 7), none, .ld (.t 6) 1 false⟩,
    ⟨(some 8), none, .mv (.t 1)⟩,
    ⟨(some 9), none, .ca 109 [(.t 5), (.c (.int .i64 3)), (.t 7), (.t 8)]⟩,
    ⟨(some 4), none, .mv (.t 9)⟩])
  .rt))⟩
theorem k47 : cF Tryz.prog Tryz.f47 = some c47 := by kernel_rfl
/-- (*rundale/cells.Cells).Lay -/
def c48 : Fu := ⟨18, [.t 6],
  (.sq (.rg [⟨(some 6), none, .mv (.c (.int .i64 0))⟩])
  (.sq (.sq (.rg [⟨(some 7), none, .mv (.t 0)⟩,
    ⟨(some 8), none, .mv (.t 1)⟩,
    ⟨(some 9), none, .ca 110 [(.t 7), (.t 8)]⟩,
    ⟨(some 10), none, .nt (.t 9)⟩])
  (.cd (.t 10)
  (.sq (.rg [⟨(some 6), none, .mv (.c (.int .i64 1))⟩])
  .rt)
  .sk))
  (.sq (.rg [⟨(some 11), none, .mv (.t 0)⟩,
    ⟨(some 12), none, .nc (.t 11)⟩,
    ⟨(some 13), none, .fa (.t 12) 0⟩,
    ⟨(some 14), none, .ld (.t 13) 1 false⟩,
    ⟨(some 15), none, .mv (.t 1)⟩,
    ⟨(some 16), none, .mv (.t 2)⟩,
    ⟨(some 17), none, .ia (.t 14) (.t 15) 1⟩,
    ⟨none, none, .st (.t 17) (.t 16) 1⟩])
  (.sq (.rg [⟨(some 6), none, .mv (.c (.int .i64 0))⟩])
  .rt))))⟩
theorem k48 : cF Tryz.prog Tryz.f48 = some c48 := by kernel_rfl
/-- rundale/lay.Pin -/
def c49 : Fu := ⟨8, [.t 4],
  (.sq (.rg [⟨(some 2), none, .bx 24 (.t 0)⟩,
    ⟨(some 4), none, .mv (.c (.int .i64 0))⟩])
  (.sq (.rg [⟨(some 5), none, .ld (.t 2) 6 true⟩,
    ⟨(some 6), none, .mv (.t 1)⟩,
    ⟨(some 7), none, .ca 111 [(.t 5), (.c (.int .i64 3)), (.t 6)]⟩,
    ⟨(some 4), none, .mv (.t 7)⟩])
  .rt))⟩
theorem k49 : cF Tryz.prog Tryz.f49 = some c49 := by kernel_rfl
/-- (*rundale/epoch.Epoch).Enter -/
def c51 : Fu := ⟨22, [.t 4, .t 5],
  (.sq (.rg [⟨(some 4), none, .mv (.c (.pointer none))⟩,
    ⟨(some 5), none, .mv (.c (.int .i64 0))⟩])
  (.sq (.sq (.rg [⟨(some 7), none, .mv (.t 0)⟩,
    ⟨(some 8), none, .mv (.t 1)⟩,
    ⟨(some 9), none, .ca 113 [(.t 7), (.t 8)]⟩,
    ⟨(some 10), none, .nt (.t 9)⟩])
  (.cd (.t 10)
  (.sq (.rg [⟨(some 4), none, .mv (.c (.pointer none))⟩,
    ⟨(some 5), none, .mv (.c (.int .i64 1))⟩])
  .rt)
  .sk))
  (.sq (.rg [⟨(some 11), none, .mv (.t 0)⟩,
    ⟨(some 12), none, .mv (.t 1)⟩,
    ⟨(some 13), none, .bd [.nilFunc, .nilFunc, .nilFunc, .nilFunc, (.int .i64 0), (.pointer none), (.int .i64 0), (.int .i64 0)] [(5, 1, (.t 11)), (6, 1, (.t 12))]⟩,
    ⟨(some 14), none, .bx 188 (.t 13)⟩,
    ⟨(some 6), none, .mv (.t 14)⟩])
  (.sq (.rg [⟨(some 15), none, .mv (.t 6)⟩,
    ⟨(some 16), none, .nc (.t 15)⟩,
    ⟨(some 17), none, .fa (.t 16) 0⟩,
    ⟨(some 18), none, .mv (.t 6)⟩,
    ⟨(some 19), none, .mf (.func 115) [(.t 18)] []⟩,
    ⟨(some 20), none, .ca 114 [(.t 17), (.t 19)]⟩])
  (.sq (.rg [⟨(some 21), none, .mv (.t 6)⟩,
    ⟨(some 4), none, .mv (.t 21)⟩,
    ⟨(some 5), none, .mv (.c (.int .i64 0))⟩])
  .rt)))))⟩
theorem k51 : cF Tryz.prog Tryz.f51 = some c51 := by kernel_rfl
/-- (*rundale/epoch.Enter).Step -/
def c52 : Fu := ⟨7, [.t 2],
  (.sq (.rg [⟨(some 2), none, .mv (.c (.bool false))⟩])
  (.sq (.rg [⟨(some 3), none, .mv (.t 0)⟩,
    ⟨(some 4), none, .nc (.t 3)⟩,
    ⟨(some 5), none, .fa (.t 4) 0⟩,
    ⟨(some 6), none, .ca 93 [(.t 5)]⟩,
    ⟨(some 2), none, .mv (.t 6)⟩])
  .rt))⟩
theorem k52 : cF Tryz.prog Tryz.f52 = some c52 := by kernel_rfl
/-- (*rundale/epoch.Enter).Done -/
def c53 : Fu := ⟨7, [.t 2],
  (.sq (.rg [⟨(some 2), none, .mv (.c (.bool false))⟩])
  (.sq (.rg [⟨(some 3), none, .mv (.t 0)⟩,
    ⟨(some 4), none, .nc (.t 3)⟩,
    ⟨(some 5), none, .fa (.t 4) 0⟩,
    ⟨(some 6), none, .ca 97 [(.t 5)]⟩,
    ⟨(some 2), none, .mv (.t 6)⟩])
  .rt))⟩
theorem k53 : cF Tryz.prog Tryz.f53 = some c53 := by kernel_rfl
/-- (*rundale/supply.Supply).Bucket -/
def c54 : Fu := ⟨14, [.t 4, .t 5],
  (.sq (.rg [⟨(some 4), none, .mv (.c (.int .i64 0))⟩,
    ⟨(some 5), none, .mv (.c (.slice none 0 0))⟩])
  (.sq (.rg [⟨(some 6), none, .mv (.t 0)⟩,
    ⟨(some 7), none, .nc (.t 6)⟩,
    ⟨(some 8), none, .fa (.t 7) 9⟩,
    ⟨(some 9), none, .ld (.t 8) 1 false⟩,
    ⟨(some 10), none, .mv (.t 1)⟩,
    ⟨(some 11), none, .ca 116 [(.t 9), (.t 10)]⟩,
    ⟨(some 12), none, .ex (.t 11) 0⟩,
    ⟨(some 13), none, .ex (.t 11) 1⟩,
    ⟨(some 4), none, .mv (.t 12)⟩,
    ⟨(some 5), none, .mv (.t 13)⟩])
  .rt))⟩
theorem k54 : cF Tryz.prog Tryz.f54 = some c54 := by kernel_rfl
/-- (*rundale/rundalemake.Seq).N -/
def c55 : Fu := ⟨36, [.t 4],
  (.sq (.rg [⟨(some 4), none, .mv (.c (.int .i64 0))⟩])
  (.sq (.rg [⟨(some 5), none, .mv (.c (.int .i64 0))⟩])
  (.sq (.sq (.rd [⟨0, 0, [0], ⟨(some 6), none, .mv (.t 0)⟩⟩,
    ⟨1, 1, [6], ⟨(some 7), none, .nc (.t 6)⟩⟩,
    ⟨2, 3, [7], ⟨(some 8), none, .fa (.t 7) 1⟩⟩,
    ⟨3, 7, [8], ⟨(some 9), none, .ld (.t 8) 1 false⟩⟩,
    ⟨4, 0, [0], ⟨(some 10), none, .mv (.t 0)⟩⟩,
    ⟨5, 16, [10], ⟨(some 11), none, .nc (.t 10)⟩⟩,
    ⟨6, 48, [11], ⟨(some 12), none, .fa (.t 11) 0⟩⟩,
    ⟨7, 112, [12], ⟨(some 13), none, .ld (.t 12) 1 false⟩⟩,
    ⟨8, 240, [13], ⟨(some 14), none, .len (.t 13)⟩⟩,
    ⟨9, 511, [9, 14], ⟨(some 15), none, .ib .lss (.t 9) (.t 14)⟩⟩])
  (.cd (.t 15)
  (.rd [⟨0, 0, [0], ⟨(some 16), none, .mv (.t 0)⟩⟩,
    ⟨1, 1, [16], ⟨(some 17), none, .nc (.t 16)⟩⟩,
    ⟨2, 3, [17], ⟨(some 18), none, .fa (.t 17) 0⟩⟩,
    ⟨3, 7, [18], ⟨(some 19), none, .ld (.t 18) 1 false⟩⟩,
    ⟨4, 0, [0], ⟨(some 20), none, .mv (.t 0)⟩⟩,
    ⟨5, 16, [20], ⟨(some 21), none, .nc (.t 20)⟩⟩,
    ⟨6, 48, [21], ⟨(some 22), none, .fa (.t 21) 1⟩⟩,
    ⟨7, 112, [22], ⟨(some 23), none, .ld (.t 22) 1 false⟩⟩,
    ⟨8, 255, [19, 23], ⟨(some 24), none, .ia (.t 19) (.t 23) 1⟩⟩,
    ⟨9, 511, [24], ⟨(some 25), none, .ld (.t 24) 1 false⟩⟩,
    ⟨10, 1023, [25], ⟨(some 5), none, .mv (.t 25)⟩⟩])
  .sk))
  (.sq (.rg [⟨(some 26), none, .mv (.t 0)⟩,
    ⟨(some 27), none, .nc (.t 26)⟩,
    ⟨(some 28), none, .fa (.t 27) 1⟩,
    ⟨(some 29), none, .ld (.t 28) 1 false⟩,
    ⟨(some 30), none, .ib .add (.t 29) (.c (.int .i64 1))⟩,
    ⟨(some 31), none, .nc (.t 26)⟩,
    ⟨(some 32), none, .fa (.t 31) 1⟩,
    ⟨none, none, .st (.t 32) (.t 30) 1⟩])
  (.sq (.rg [⟨(some 33), none, .mv (.t 5)⟩,
    ⟨(some 34), none, .mv (.t 1)⟩,
    ⟨(some 35), none, .ca 12 [(.t 33), (.t 34)]⟩,
    ⟨(some 4), none, .mv (.t 35)⟩])
  .rt)))))⟩
theorem k55 : cF Tryz.prog Tryz.f55 = some c55 := by kernel_rfl
/-- rundale/lay.May -/
def c56 : Fu := ⟨37, [.t 2],
  (.sq (.rg [⟨(some 1), none, .bx 24 (.t 0)⟩,
    ⟨(some 2), none, .mv (.c (.bool false))⟩])
  (.sq (.rg [⟨(some 3), none, .fa (.t 1) 0⟩,
    ⟨(some 4), none, .ld (.t 3) 1 false⟩,
    ⟨(some 5), none, .ca 117 [(.t 4), (.c (.int .i64 1)), (.c (.int .i64 64))]⟩,
    ⟨(some 6), none, .mv (.t 5)⟩,
    ⟨(some 7), (some (6, true)), .fa (.t 1) 1⟩,
    ⟨(some 8), (some (6, true)), .ld (.t 7) 1 false⟩,
    ⟨(some 9), (some (6, true)), .ca 117 [(.t 8), (.c (.int .i64 1)), (.c (.int .i64 4096))]⟩,
    ⟨(some 10), none, .pk (.t 6) (.t 9) (.c (.bool false))⟩,
    ⟨(some 11), none, .mv (.t 10)⟩,
    ⟨(some 12), (some (11, true)), .fa (.t 1) 2⟩,
    ⟨(some 13), (some (11, true)), .ld (.t 12) 1 false⟩,
    ⟨(some 14), (some (11, true)), .ca 117 [(.t 13), (.c (.int .i64 8)), (.c (.int .i64 1024))]⟩,
    ⟨(some 15), none, .pk (.t 11) (.t 14) (.c (.bool false))⟩,
    ⟨(some 16), none, .mv (.t 15)⟩,
    ⟨(some 17), (some (16, true)), .fa (.t 1) 2⟩,
    ⟨(some 18), (some (16, true)), .ld (.t 17) 1 false⟩,
    ⟨(some 19), (some (16, true)), .ib .rem (.t 18) (.c (.int .i64 8))⟩,
    ⟨(some 20), (some (16, true)), .ib .eql (.t 19) (.c (.int .i64 0))⟩,
    ⟨(some 21), none, .pk (.t 16) (.t 20) (.c (.bool false))⟩,
    ⟨(some 22), none, .mv (.t 21)⟩,
    ⟨(some 23), (some (22, true)), .fa (.t 1) 3⟩,
    ⟨(some 24), (some (22, true)), .ld (.t 23) 1 false⟩,
    ⟨(some 25), (some (22, true)), .ca 117 [(.t 24), (.c (.int .i64 1)), (.c (.int .i64 4096))]⟩,
    ⟨(some 26), none, .pk (.t 22) (.t 25) (.c (.bool false))⟩,
    ⟨(some 27), none, .mv (.t 26)⟩,
    ⟨(some 28), (some (27, true)), .fa (.t 1) 4⟩,
    ⟨(some 29), (some (27, true)), .ld (.t 28) 1 false⟩,
    ⟨(some 30), (some (27, true)), .ca 117 [(.t 29), (.c (.int .i64 0)), (.c (.int .i64 64))]⟩,
    ⟨(some 31), none, .pk (.t 27) (.t 30) (.c (.bool false))⟩,
    ⟨(some 32), none, .mv (.t 31)⟩,
    ⟨(some 33), (some (32, true)), .fa (.t 1) 5⟩,
    ⟨(some 34), (some (32, true)), .ld (.t 33) 1 false⟩,
    ⟨(some 35), (some (32, true)), .ca 117 [(.t 34), (.c (.int .i64 1)), (.c (.int .i64 8))]⟩,
    ⟨(some 36), none, .pk (.t 32) (.t 35) (.c (.bool false))⟩,
    ⟨(some 2), none, .mv (.t 36)⟩])
  .rt))⟩
theorem k56 : cF Tryz.prog Tryz.f56 = some c56 := by kernel_rfl
/-- rundale/lay.parts -/
def c57 : Fu := ⟨40, [.c 2 15 true],
  (.sq (.rg [⟨(some 1), none, .bx 24 (.t 0)⟩,
    ⟨(some 2), none, .al 126 [(.int .i64 0), (.int .i64 0), (.int .i64 0), (.int .i64 0), (.int .i64 0), (.int .i64 0), (.int .i64 0), (.int .i64 0), (.int .i64 0), (.int .i64 0), (.int .i64 0), (.int .i64 0), (.int .i64 0), (.int .i64 0), (.int .i64 0)]⟩])
  (.sq (.rg [⟨(some 6), none, .fa (.t 1) 0⟩,
    ⟨(some 7), none, .ld (.t 6) 1 false⟩,
    ⟨(some 8), none, .bd [(.int .i64 0), (.int .i64 0), (.int .i64 0)] [(0, 1, (.c (.int .i64 3))), (2, 1, (.t 7))]⟩,
    ⟨(some 9), none, .fa (.t 1) 3⟩,
    ⟨(some 10), none, .ld (.t 9) 1 false⟩,
    ⟨(some 11), none, .bd [(.int .i64 0), (.int .i64 0), (.int .i64 0)] [(0, 1, (.c (.int .i64 4))), (2, 1, (.t 10))]⟩,
    ⟨(some 12), none, .fa (.t 1) 3⟩,
    ⟨(some 13), none, .ld (.t 12) 1 false⟩,
    ⟨(some 14), none, .bd [(.int .i64 0), (.int .i64 0), (.int .i64 0)] [(0, 1, (.c (.int .i64 5))), (2, 1, (.t 13))]⟩,
    ⟨(some 15), none, .fa (.t 1) 1⟩,
    ⟨(some 16), none, .ld (.t 15) 1 false⟩,
    ⟨(some 17), none, .bd [(.int .i64 0), (.int .i64 0), (.int .i64 0)] [(0, 1, (.c (.int .i64 6))), (2, 1, (.t 16))]⟩,
    ⟨(some 18), none, .fa (.t 1) 1⟩,
    ⟨(some 19), none, .ld (.t 18) 1 false⟩,
    ⟨(some 20), none, .fa (.t 1) 2⟩,
    ⟨(some 21), none, .ld (.t 20) 1 false⟩,
    ⟨(some 22), none, .ib .mul (.t 19) (.t 21)⟩,
    ⟨(some 23), none, .bd [(.int .i64 0), (.int .i64 0), (.int .i64 0)] [(0, 1, (.c (.int .i64 7))), (2, 1, (.t 22))]⟩,
    ⟨(some 24), none, .bd [(.int .i64 0), (.int .i64 0), (.int .i64 0), (.int .i64 0), (.int .i64 0), (.int .i64 0), (.int .i64 0), (.int .i64 0), (.int .i64 0), (.int .i64 0), (.int .i64 0), (.int .i64 0), (.int .i64 0), (.int .i64 0), (.int .i64 0)] [(0, 3, (.t 8)), (3, 3, (.t 11)), (6, 3, (.t 14)), (9, 3, (.t 17)), (12, 3, (.t 23))]⟩,
    ⟨(some 3), none, .al 126 [(.int .i64 0), (.int .i64 0), (.int .i64 0), (.int .i64 0), (.int .i64 0), (.int .i64 0), (.int .i64 0), (.int .i64 0), (.int .i64 0), (.int .i64 0), (.int .i64 0), (.int .i64 0), (.int .i64 0), (.int .i64 0), (.int .i64 0)]⟩,
    ⟨none, none, .st (.t 3) (.t 24) 15⟩])
  (.sq (.rg [⟨(some 4), none, .mv (.c (.int .i64 3))⟩])
  (.sq (.sq (.rg [⟨(some 25), none, .mv (.c (.int .i64 0))⟩])
  (.bl 0
  (.lp
  (.sq (.rg [⟨(some 26), none, .ib .lss (.t 25) (.c (.int .i64 5))⟩])
  (.sq (.cd (.t 26)
  .sk
  (.ex 0))
  (.sq (.bl 1
  (.sq (.rg [⟨(some 27), none, .mv (.t 25)⟩,
    ⟨(some 5), none, .mv (.t 27)⟩])
  (.sq (.rg [⟨(some 28), none, .mv (.t 5)⟩,
    ⟨(some 29), none, .mv (.t 4)⟩,
    ⟨(some 30), none, .iaa (.t 3) (.t 28) 5 3⟩,
    ⟨(some 31), none, .fa (.t 30) 1⟩,
    ⟨none, none, .st (.t 31) (.t 29) 1⟩])
  (.rg [⟨(some 32), none, .mv (.t 4)⟩,
    ⟨(some 33), none, .mv (.t 5)⟩,
    ⟨(some 34), none, .iaa (.t 3) (.t 33) 5 3⟩,
    ⟨(some 35), none, .fa (.t 34) 2⟩,
    ⟨(some 36), none, .ld (.t 35) 1 false⟩,
    ⟨(some 37), none, .ib .add (.t 32) (.t 36)⟩,
    ⟨(some 4), none, .mv (.t 37)⟩]))))
  (.rg [⟨(some 38), none, .ib .add (.t 25) (.c (.int .i64 1))⟩,
    ⟨(some 25), none, .mv (.t 38)⟩])))))))
  (.sq (.rg [⟨(some 39), none, .ld (.t 3) 15 true⟩,
    ⟨none, none, .st (.t 2) (.t 39) 15⟩])
  .rt)))))⟩
theorem k57 : cF Tryz.prog Tryz.f57 = some c57 := by kernel_rfl
/-- (*rundale/cells.Cells).Len -/
def c58 : Fu := ⟨8, [.t 2],
  (.sq (.rg [⟨(some 2), none, .mv (.c (.int .i64 0))⟩])
  (.sq (.rg [⟨(some 3), none, .mv (.t 0)⟩,
    ⟨(some 4), none, .nc (.t 3)⟩,
    ⟨(some 5), none, .fa (.t 4) 0⟩,
    ⟨(some 6), none, .ld (.t 5) 1 false⟩,
    ⟨(some 7), none, .len (.t 6)⟩,
    ⟨(some 2), none, .mv (.t 7)⟩])
  .rt))⟩
theorem k58 : cF Tryz.prog Tryz.f58 = some c58 := by kernel_rfl
/-- rundale/epoch.New -/
def c59 : Fu := ⟨57, [.t 8, .t 9],
  (.sq (.rg [⟨(some 4), none, .bx 26 (.t 0)⟩,
    ⟨(some 8), none, .mv (.c (.pointer none))⟩,
    ⟨(some 9), none, .mv (.c (.int .i64 0))⟩])
  (.sq (.rg [⟨(some 11), none, .mf (.func 118) [] [(.t 4)]⟩,
    ⟨(some 10), none, .mv (.t 11)⟩])
  (.sq (.sq (.rg [⟨(some 12), none, .mv (.t 3)⟩,
    ⟨(some 13), none, .ib .lss (.t 12) (.c (.int .i64 1))⟩,
    ⟨(some 14), none, .mv (.t 13)⟩,
    ⟨(some 15), (some (14, false)), .mv (.t 3)⟩,
    ⟨(some 16), (some (14, false)), .ib .gtr (.t 15) (.c (.int .i64 64))⟩,
    ⟨(some 17), none, .pk (.t 14) (.c (.bool true)) (.t 16)⟩,
    ⟨(some 18), none, .mv (.t 17)⟩,
    ⟨(some 19), (some (18, false)), .mv (.t 10)⟩,
    ⟨(some 20), (some (18, false)), .mv (.t 1)⟩,
    ⟨(some 21), (some (18, false)), .cl (.t 19) [(.t 20)]⟩,
    ⟨(some 22), (some (18, false)), .nt (.t 21)⟩,
    ⟨(some 23), none, .pk (.t 18) (.c (.bool true)) (.t 22)⟩,
    ⟨(some 24), none, .mv (.t 23)⟩,
    ⟨(some 25), (some (24, false)), .mv (.t 10)⟩,
    ⟨(some 26), (some (24, false)), .mv (.t 2)⟩,
    ⟨(some 27), (some (24, false)), .cl (.t 25) [(.t 26)]⟩,
    ⟨(some 28), (some (24, false)), .nt (.t 27)⟩,
    ⟨(some 29), none, .pk (.t 24) (.c (.bool true)) (.t 28)⟩,
    ⟨(some 30), none, .mv (.t 29)⟩,
    ⟨(some 31), (some (30, false)), .mv (.t 10)⟩,
    ⟨(some 32), (some (30, false)), .mv (.t 2)⟩,
    ⟨(some 33), (some (30, false)), .mv (.t 3)⟩,
    ⟨(some 34), (some (30, false)), .ib .add (.t 32) (.t 33)⟩,
    ⟨(some 35), (some (30, false)), .ib .sub (.t 34) (.c (.int .i64 1))⟩,
    ⟨(some 36), (some (30, false)), .cl (.t 31) [(.t 35)]⟩,
    ⟨(some 37), (some (30, false)), .nt (.t 36)⟩,
    ⟨(some 38), none, .pk (.t 30) (.c (.bool true)) (.t 37)⟩,
    ⟨(some 39), none, .mv (.t 38)⟩,
    ⟨(some 40), (some (39, false)), .mv (.t 1)⟩,
    ⟨(some 41), (some (39, false)), .mv (.t 2)⟩,
    ⟨(some 42), (some (39, false)), .ib .geq (.t 40) (.t 41)⟩,
    ⟨(some 43), (some (39, false)), .mv (.t 42)⟩,
    ⟨(some 44), (some (43, true)), .mv (.t 1)⟩,
    ⟨(some 45), (some (43, true)), .mv (.t 2)⟩,
    ⟨(some 46), (some (43, true)), .mv (.t 3)⟩,
    ⟨(some 47), (some (43, true)), .ib .add (.t 45) (.t 46)⟩,
    ⟨(some 48), (some (43, true)), .ib .lss (.t 44) (.t 47)⟩,
    ⟨(some 49), (some (39, false)), .pk (.t 43) (.t 48) (.c (.bool false))⟩,
    ⟨(some 50), none, .pk (.t 39) (.c (.bool true)) (.t 49)⟩])
  (.cd (.t 50)
  (.sq (.rg [⟨(some 8), none, .mv (.c (.pointer none))⟩,
    ⟨(some 9), none, .mv (.c (.int .i64 1))⟩])
  .rt)
  .sk))
  (.sq (.rg [⟨(some 51), none, .ld (.t 4) 1 false⟩,
    ⟨(some 52), none, .mv (.t 1)⟩,
    ⟨(some 53), none, .mv (.t 2)⟩,
    ⟨(some 54), none, .mv (.t 3)⟩,
    ⟨(some 55), none, .bd [(.pointer none), (.int .i64 0), (.int .i64 0), (.int .i64 0)] [(0, 1, (.t 51)), (1, 1, (.t 52)), (2, 1, (.t 53)), (3, 1, (.t 54))]⟩,
    ⟨(some 56), none, .bx 161 (.t 55)⟩,
    ⟨(some 8), none, .mv (.t 56)⟩,
    ⟨(some 9), none, .mv (.c (.int .i64 0))⟩])
  .rt))))⟩
theorem k59 : cF Tryz.prog Tryz.f59 = some c59 := by kernel_rfl
/-- rundale/supply.New -/
def c60 : Fu := ⟨27, [.t 4, .t 5],
  (.sq (.rg [⟨(some 3), none, .bx 24 (.t 1)⟩,
    ⟨(some 4), none, .mv (.c (.pointer none))⟩,
    ⟨(some 5), none, .mv (.c (.int .i64 0))⟩])
  (.sq (.rg [⟨(some 9), none, .mv (.t 0)⟩,
    ⟨(some 10), none, .ld (.t 3) 6 true⟩,
    ⟨(some 11), none, .ca 66 [(.t 9), (.t 10)]⟩,
    ⟨(some 8), none, .mv (.t 11)⟩,
    ⟨(some 12), none, .ex (.t 8) 0⟩,
    ⟨(some 13), none, .ex (.t 8) 1⟩,
    ⟨(some 6), none, .mv (.t 12)⟩,
    ⟨(some 7), none, .mv (.t 13)⟩])
  (.sq (.sq (.rg [⟨(some 14), none, .mv (.t 7)⟩,
    ⟨(some 15), none, .ib .neq (.t 14) (.c (.int .i64 0))⟩])
  (.cd (.t 15)
  (.sq (.rg [⟨(some 16), none, .mv (.t 7)⟩,
    ⟨(some 4), none, .mv (.c (.pointer none))⟩,
    ⟨(some 5), none, .mv (.t 16)⟩])
  .rt)
  .sk))
  (.sq (.rd [⟨0, 0, [0], ⟨(some 17), none, .mv (.t 0)⟩⟩,
    ⟨1, 0, [3], ⟨(some 18), none, .ld (.t 3) 6 true⟩⟩,
    ⟨2, 0, [6], ⟨(some 19), none, .mv (.t 6)⟩⟩,
    ⟨3, 4, [19], ⟨(some 20), none, .ca 67 [(.t 19)]⟩⟩,
    ⟨4, 0, [3], ⟨(some 21), none, .fa (.t 3) 4⟩⟩,
    ⟨5, 16, [21], ⟨(some 22), none, .ld (.t 21) 1 false⟩⟩,
    ⟨6, 60, [22], ⟨(some 23), none, .ca 119 [(.t 22)]⟩⟩,
    ⟨7, 124, [], ⟨(some 24), none, .ca 120 []⟩⟩,
    ⟨8, 255, [17, 18, 20, 23, 24], ⟨(some 25), none, .bd [(.pointer none), (.int .i64 0), (.int .i64 0), (.int .i64 0), (.int .i64 0), (.int .i64 0), (.int .i64 0), (.pointer none), (.pointer none), (.pointer none)] [(0, 1, (.t 17)), (1, 6, (.t 18)), (7, 1, (.t 20)), (8, 1, (.t 23)), (9, 1, (.t 24))]⟩⟩,
    ⟨9, 511, [25], ⟨(some 26), none, .bx 145 (.t 25)⟩⟩,
    ⟨10, 1023, [26], ⟨(some 4), none, .mv (.t 26)⟩⟩,
    ⟨11, 2047, [], ⟨(some 5), none, .mv (.c (.int .i64 0))⟩⟩])
  .rt))))⟩
theorem k60 : cF Tryz.prog Tryz.f60 = some c60 := by kernel_rfl
/-- (*rundale/supply.Supply).Take -/
def c61 : Fu := ⟨26, [.t 2],
  (.sq (.rg [⟨(some 2), none, .mv (.c (.pointer none))⟩])
  (.sq (.rg [⟨(some 4), none, .mv (.t 0)⟩,
    ⟨(some 5), none, .bd [.nilFunc, .nilFunc, .nilFunc, .nilFunc, (.int .i64 0), (.pointer none), (.pointer none), (.int .i64 0), (.int .i64 0), (.bool false)] [(5, 1, (.t 4)), (8, 1, (.c (.int .i64 (-1))))]⟩,
    ⟨(some 6), none, .bx 194 (.t 5)⟩,
    ⟨(some 3), none, .mv (.t 6)⟩])
  (.sq (.bl 0
  (.sq (.rg [⟨(some 10), none, .mv (.t 3)⟩,
    ⟨(some 11), none, .ca 121 [(.t 10)]⟩,
    ⟨(some 9), none, .mv (.t 11)⟩])
  (.cd (.t 9)
  .sk
  (.sq (.rg [⟨(some 13), none, .mv (.t 0)⟩,
    ⟨(some 14), none, .nc (.t 13)⟩,
    ⟨(some 15), none, .fa (.t 14) 9⟩,
    ⟨(some 16), none, .ld (.t 15) 1 false⟩,
    ⟨(some 17), none, .ca 122 [(.t 16)]⟩,
    ⟨(some 18), none, .ib .gtr (.t 17) (.c (.int .i64 0))⟩,
    ⟨(some 12), none, .mv (.t 18)⟩])
  (.cd (.t 12)
  (.rg [⟨(some 19), none, .mv (.t 3)⟩,
    ⟨(some 20), none, .nc (.t 19)⟩,
    ⟨(some 21), none, .fa (.t 20) 0⟩,
    ⟨(some 22), none, .mv (.t 3)⟩,
    ⟨(some 23), none, .mf (.func 123) [(.t 22)] []⟩,
    ⟨(some 24), none, .ca 114 [(.t 21), (.t 23)]⟩])
  (.rg [⟨(some 7), none, .mv (.t 3)⟩,
    ⟨(some 8), none, .ca 124 [(.t 7)]⟩]))))))
  (.sq (.rg [⟨(some 25), none, .mv (.t 3)⟩,
    ⟨(some 2), none, .mv (.t 25)⟩])
  .rt))))⟩
theorem k61 : cF Tryz.prog Tryz.f61 = some c61 := by kernel_rfl
/-- (*rundale/supply.Take).Done -/
def c62 : Fu := ⟨7, [.t 2],
  (.sq (.rg [⟨(some 2), none, .mv (.c (.bool false))⟩])
  (.sq (.rg [⟨(some 3), none, .mv (.t 0)⟩,
    ⟨(some 4), none, .nc (.t 3)⟩,
    ⟨(some 5), none, .fa (.t 4) 0⟩,
    ⟨(some 6), none, .ca 97 [(.t 5)]⟩,
    ⟨(some 2), none, .mv (.t 6)⟩])
  .rt))⟩
theorem k62 : cF Tryz.prog Tryz.f62 = some c62 := by kernel_rfl
/-- (*rundale/supply.Take).Step -/
def c63 : Fu := ⟨7, [.t 2],
  (.sq (.rg [⟨(some 2), none, .mv (.c (.bool false))⟩])
  (.sq (.rg [⟨(some 3), none, .mv (.t 0)⟩,
    ⟨(some 4), none, .nc (.t 3)⟩,
    ⟨(some 5), none, .fa (.t 4) 0⟩,
    ⟨(some 6), none, .ca 93 [(.t 5)]⟩,
    ⟨(some 2), none, .mv (.t 6)⟩])
  .rt))⟩
theorem k63 : cF Tryz.prog Tryz.f63 = some c63 := by kernel_rfl
/-- (*rundale/supply.Take).Chunk -/
def c64 : Fu := ⟨15, [.t 2, .t 3],
  (.sq (.rg [⟨(some 2), none, .mv (.c (.int .i64 0))⟩,
    ⟨(some 3), none, .mv (.c (.bool false))⟩])
  (.sq (.sq (.rg [⟨(some 4), none, .mv (.t 0)⟩,
    ⟨(some 5), none, .ca 62 [(.t 4)]⟩,
    ⟨(some 6), none, .nt (.t 5)⟩])
  (.cd (.t 6)
  (.sq (.rg [⟨(some 2), none, .mv (.c (.int .i64 0))⟩,
    ⟨(some 3), none, .mv (.c (.bool false))⟩])
  .rt)
  .sk))
  (.sq (.rd [⟨0, 0, [0], ⟨(some 7), none, .mv (.t 0)⟩⟩,
    ⟨1, 1, [7], ⟨(some 8), none, .nc (.t 7)⟩⟩,
    ⟨2, 3, [8], ⟨(some 9), none, .fa (.t 8) 7⟩⟩,
    ⟨3, 7, [9], ⟨(some 10), none, .ld (.t 9) 1 false⟩⟩,
    ⟨4, 0, [0], ⟨(some 11), none, .mv (.t 0)⟩⟩,
    ⟨5, 16, [11], ⟨(some 12), none, .nc (.t 11)⟩⟩,
    ⟨6, 48, [12], ⟨(some 13), none, .fa (.t 12) 9⟩⟩,
    ⟨7, 112, [13], ⟨(some 14), none, .ld (.t 13) 1 false⟩⟩,
    ⟨8, 15, [10], ⟨(some 2), none, .mv (.t 10)⟩⟩,
    ⟨9, 511, [14], ⟨(some 3), none, .mv (.t 14)⟩⟩])
  .rt)))⟩
theorem k64 : cF Tryz.prog Tryz.f64 = some c64 := by kernel_rfl
/-- rundale/chain.New -/
def c66 : Fu := ⟨35, [.t 4, .t 5],
  (.sq (.rg [⟨(some 3), none, .bx 24 (.t 1)⟩,
    ⟨(some 4), none, .mv (.c (.pointer none))⟩,
    ⟨(some 5), none, .mv (.c (.int .i64 0))⟩])
  (.sq (.sq (.rd [⟨0, 0, [3], ⟨(some 8), none, .ld (.t 3) 6 true⟩⟩,
    ⟨1, 1, [8], ⟨(some 9), none, .ca 56 [(.t 8)]⟩⟩,
    ⟨2, 3, [9], ⟨(some 10), none, .nt (.t 9)⟩⟩,
    ⟨3, 7, [10], ⟨(some 11), none, .mv (.t 10)⟩⟩,
    ⟨4, 15, [0, 11], ⟨(some 12), (some (11, false)), .mv (.t 0)⟩⟩,
    ⟨5, 31, [12, 11], ⟨(some 13), (some (11, false)), .ca 58 [(.t 12)]⟩⟩,
    ⟨6, 15, [3, 11], ⟨(some 14), (some (11, false)), .ld (.t 3) 6 true⟩⟩,
    ⟨7, 127, [14, 11], ⟨(some 15), (some (11, false)), .ca 13 [(.t 14)]⟩⟩,
    ⟨8, 255, [13, 15, 11], ⟨(some 16), (some (11, false)), .ib .lss (.t 13) (.t 15)⟩⟩,
    ⟨9, 511, [11, 16], ⟨(some 17), none, .pk (.t 11) (.c (.bool true)) (.t 16)⟩⟩])
  (.cd (.t 17)
  (.sq (.rg [⟨(some 4), none, .mv (.c (.pointer none))⟩,
    ⟨(some 5), none, .mv (.c (.int .i64 1))⟩])
  .rt)
  .sk))
  (.sq (.rd [⟨0, 0, [0], ⟨(some 19), none, .mv (.t 0)⟩⟩,
    ⟨1, 0, [3], ⟨(some 20), none, .ld (.t 3) 6 true⟩⟩,
    ⟨2, 2, [20], ⟨(some 21), none, .ca 126 [(.t 20), (.c (.int .i64 0))]⟩⟩,
    ⟨3, 0, [3], ⟨(some 22), none, .fa (.t 3) 1⟩⟩,
    ⟨4, 8, [22], ⟨(some 23), none, .ld (.t 22) 1 false⟩⟩,
    ⟨5, 31, [19, 21, 23], ⟨(some 24), none, .ca 125 [(.t 19), (.c (.int .i64 0)), (.t 21), (.t 23)]⟩⟩,
    ⟨6, 63, [24], ⟨(some 18), none, .mv (.t 24)⟩⟩,
    ⟨7, 127, [18], ⟨(some 25), none, .ex (.t 18) 0⟩⟩,
    ⟨8, 127, [18], ⟨(some 26), none, .ex (.t 18) 1⟩⟩,
    ⟨9, 255, [25], ⟨(some 6), none, .mv (.t 25)⟩⟩,
    ⟨10, 1023, [26], ⟨(some 7), none, .mv (.t 26)⟩⟩])
  (.sq (.sq (.rg [⟨(some 27), none, .mv (.t 7)⟩,
    ⟨(some 28), none, .ib .neq (.t 27) (.c (.int .i64 0))⟩])
  (.cd (.t 28)
  (.sq (.rg [⟨(some 29), none, .mv (.t 7)⟩,
    ⟨(some 4), none, .mv (.c (.pointer none))⟩,
    ⟨(some 5), none, .mv (.t 29)⟩])
  .rt)
  .sk))
  (.sq (.rg [⟨(some 30), none, .mv (.t 0)⟩,
    ⟨(some 31), none, .ld (.t 3) 6 true⟩,
    ⟨(some 32), none, .mv (.t 6)⟩,
    ⟨(some 33), none, .bd [(.pointer none), (.int .i64 0), (.int .i64 0), (.int .i64 0), (.int .i64 0), (.int .i64 0), (.int .i64 0), (.pointer none)] [(0, 1, (.t 30)), (1, 6, (.t 31)), (7, 1, (.t 32))]⟩,
    ⟨(some 34), none, .bx 198 (.t 33)⟩,
    ⟨(some 4), none, .mv (.t 34)⟩,
    ⟨(some 5), none, .mv (.c (.int .i64 0))⟩])
  .rt)))))⟩
theorem k66 : cF Tryz.prog Tryz.f66 = some c66 := by kernel_rfl
/-- (*rundale/chain.Chains).Pool -/
def c67 : Fu := ⟨7, [.t 2],
  (.sq (.rg [⟨(some 2), none, .mv (.c (.pointer none))⟩])
  (.sq (.rg [⟨(some 3), none, .mv (.t 0)⟩,
    ⟨(some 4), none, .nc (.t 3)⟩,
    ⟨(some 5), none, .fa (.t 4) 7⟩,
    ⟨(some 6), none, .ld (.t 5) 1 false⟩,
    ⟨(some 2), none, .mv (.t 6)⟩])
  .rt))⟩
theorem k67 : cF Tryz.prog Tryz.f67 = some c67 := by kernel_rfl
/-- (*rundale/chain.Chains).Fill -/
def c68 : Fu := ⟨7, [],
  (.rg [⟨(some 2), none, .mv (.t 0)⟩,
    ⟨(some 3), none, .nc (.t 2)⟩,
    ⟨(some 4), none, .fa (.t 3) 7⟩,
    ⟨(some 5), none, .ld (.t 4) 1 false⟩,
    ⟨(some 6), none, .ca 127 [(.t 5)]⟩])⟩
theorem k68 : cF Tryz.prog Tryz.f68 = some c68 := by kernel_rfl
/-- rundale/rundaleref11.New -/
def c69 : Fu := ⟨53, [.t 2],
  (.sq (.rg [⟨(some 1), none, .bx 24 (.t 0)⟩,
    ⟨(some 2), none, .mv (.c (.pointer none))⟩])
  (.sq (.rg [⟨(some 5), none, .ld (.t 1) 6 true⟩,
    ⟨(some 6), none, .ca 129 [(.t 5)]⟩,
    ⟨(some 7), none, .ca 128 [(.t 6)]⟩,
    ⟨(some 3), none, .mv (.t 7)⟩])
  (.sq (.rg [⟨(some 8), none, .ld (.t 1) 6 true⟩,
    ⟨(some 9), none, .mv (.t 3)⟩,
    ⟨(some 10), none, .bd [(.int .i64 0), (.int .i64 0), (.int .i64 0), (.int .i64 0), (.int .i64 0), (.int .i64 0), (.pointer none), (.pointer none), (.pointer none), (.pointer none)] [(0, 6, (.t 8)), (6, 1, (.t 9))]⟩,
    ⟨(some 11), none, .bx 74 (.t 10)⟩,
    ⟨(some 4), none, .mv (.t 11)⟩])
  (.sq (.rd [⟨0, 0, [4], ⟨(some 12), none, .mv (.t 4)⟩⟩,
    ⟨1, 0, [3], ⟨(some 13), none, .mv (.t 3)⟩⟩,
    ⟨2, 0, [1], ⟨(some 14), none, .ld (.t 1) 6 true⟩⟩,
    ⟨3, 4, [14], ⟨(some 15), none, .ca 130 [(.t 14), (.c (.int .i64 0))]⟩⟩,
    ⟨4, 0, [1], ⟨(some 16), none, .fa (.t 1) 1⟩⟩,
    ⟨5, 16, [16], ⟨(some 17), none, .ld (.t 16) 1 false⟩⟩,
    ⟨6, 62, [13, 15, 17], ⟨(some 18), none, .bd [(.pointer none), (.int .i64 0), (.int .i64 0), (.int .i64 0)] [(0, 1, (.t 13)), (1, 1, (.c (.int .i64 0))), (2, 1, (.t 15)), (3, 1, (.t 17))]⟩⟩,
    ⟨7, 126, [18], ⟨(some 19), none, .bx 156 (.t 18)⟩⟩,
    ⟨8, 255, [12], ⟨(some 20), none, .nc (.t 12)⟩⟩,
    ⟨9, 511, [20], ⟨(some 21), none, .fa (.t 20) 7⟩⟩,
    ⟨10, 1023, [21, 19], ⟨none, none, .st (.t 21) (.t 19) 1⟩⟩])
  (.sq (.rd [⟨0, 0, [4], ⟨(some 22), none, .mv (.t 4)⟩⟩,
    ⟨1, 0, [3], ⟨(some 23), none, .mv (.t 3)⟩⟩,
    ⟨2, 0, [1], ⟨(some 24), none, .ld (.t 1) 6 true⟩⟩,
    ⟨3, 4, [24], ⟨(some 25), none, .ca 71 [(.t 24), (.c (.int .i64 0))]⟩⟩,
    ⟨4, 0, [1], ⟨(some 26), none, .fa (.t 1) 3⟩⟩,
    ⟨5, 16, [26], ⟨(some 27), none, .ld (.t 26) 1 false⟩⟩,
    ⟨6, 62, [23, 25, 27], ⟨(some 28), none, .bd [(.pointer none), (.int .i64 0), (.int .i64 0), (.int .i64 0)] [(0, 1, (.t 23)), (1, 1, (.c (.int .i64 1))), (2, 1, (.t 25)), (3, 1, (.t 27))]⟩⟩,
    ⟨7, 126, [28], ⟨(some 29), none, .bx 156 (.t 28)⟩⟩,
    ⟨8, 255, [22], ⟨(some 30), none, .nc (.t 22)⟩⟩,
    ⟨9, 511, [30], ⟨(some 31), none, .fa (.t 30) 8⟩⟩,
    ⟨10, 1023, [31, 29], ⟨none, none, .st (.t 31) (.t 29) 1⟩⟩])
  (.sq (.rd [⟨0, 0, [4], ⟨(some 32), none, .mv (.t 4)⟩⟩,
    ⟨1, 0, [3], ⟨(some 33), none, .mv (.t 3)⟩⟩,
    ⟨2, 0, [1], ⟨(some 34), none, .ld (.t 1) 6 true⟩⟩,
    ⟨3, 4, [34], ⟨(some 35), none, .ca 47 [(.t 34), (.c (.int .i64 0))]⟩⟩,
    ⟨4, 0, [1], ⟨(some 36), none, .fa (.t 1) 0⟩⟩,
    ⟨5, 16, [36], ⟨(some 37), none, .ld (.t 36) 1 false⟩⟩,
    ⟨6, 62, [33, 35, 37], ⟨(some 38), none, .bd [(.pointer none), (.int .i64 0), (.int .i64 0), (.int .i64 0)] [(0, 1, (.t 33)), (1, 1, (.c (.int .i64 2))), (2, 1, (.t 35)), (3, 1, (.t 37))]⟩⟩,
    ⟨7, 126, [38], ⟨(some 39), none, .bx 175 (.t 38)⟩⟩,
    ⟨8, 255, [32], ⟨(some 40), none, .nc (.t 32)⟩⟩,
    ⟨9, 511, [40], ⟨(some 41), none, .fa (.t 40) 9⟩⟩,
    ⟨10, 1023, [41, 39], ⟨none, none, .st (.t 41) (.t 39) 1⟩⟩])
  (.sq (.rg [⟨(some 42), none, .mv (.t 4)⟩,
    ⟨(some 43), none, .nc (.t 42)⟩,
    ⟨(some 44), none, .fa (.t 43) 7⟩,
    ⟨(some 45), none, .ld (.t 44) 1 false⟩,
    ⟨(some 46), none, .ca 131 [(.t 45)]⟩])
  (.sq (.rg [⟨(some 47), none, .mv (.t 4)⟩,
    ⟨(some 48), none, .nc (.t 47)⟩,
    ⟨(some 49), none, .fa (.t 48) 8⟩,
    ⟨(some 50), none, .ld (.t 49) 1 false⟩,
    ⟨(some 51), none, .ca 131 [(.t 50)]⟩])
  (.sq (.rg [⟨(some 52), none, .mv (.t 4)⟩,
    ⟨(some 2), none, .mv (.t 52)⟩])
  .rt)))))))))⟩
theorem k69 : cF Tryz.prog Tryz.f69 = some c69 := by kernel_rfl
/-- (*rundale/rundaleref11.W).Supply -/
def c70 : Fu := ⟨13, [.t 2],
  (.sq (.rg [⟨(some 2), none, .mv (.c (.pointer none))⟩])
  (.sq (.rg [⟨(some 3), none, .mv (.t 0)⟩,
    ⟨(some 4), none, .mv (.t 0)⟩,
    ⟨(some 5), none, .nc (.t 4)⟩,
    ⟨(some 6), none, .fa (.t 5) 0⟩,
    ⟨(some 7), none, .fa (.t 6) 4⟩,
    ⟨(some 8), none, .ld (.t 7) 1 false⟩,
    ⟨(some 9), none, .ca 132 [(.t 8)]⟩,
    ⟨(some 10), none, .ca 133 []⟩,
    ⟨(some 11), none, .bd [(.pointer none), (.pointer none), (.pointer none)] [(0, 1, (.t 3)), (1, 1, (.t 9)), (2, 1, (.t 10))]⟩,
    ⟨(some 12), none, .bx 100 (.t 11)⟩,
    ⟨(some 2), none, .mv (.t 12)⟩])
  .rt))⟩
theorem k70 : cF Tryz.prog Tryz.f70 = some c70 := by kernel_rfl
/-- rundale/rundaleref1.Slot -/
def c71 : Fu := ⟨16, [.t 4],
  (.sq (.rg [⟨(some 2), none, .bx 24 (.t 0)⟩,
    ⟨(some 4), none, .mv (.c (.int .i64 0))⟩])
  (.sq (.rg [⟨(some 5), none, .ld (.t 2) 6 true⟩,
    ⟨(some 6), none, .fa (.t 2) 0⟩,
    ⟨(some 7), none, .ld (.t 6) 1 false⟩,
    ⟨(some 8), none, .ib .add (.c (.int .i64 3)) (.t 7)⟩,
    ⟨(some 9), none, .fa (.t 2) 3⟩,
    ⟨(some 10), none, .ld (.t 9) 1 false⟩,
    ⟨(some 11), none, .ib .add (.t 8) (.t 10)⟩,
    ⟨(some 12), none, .fa (.t 2) 3⟩,
    ⟨(some 13), none, .ld (.t 12) 1 false⟩,
    ⟨(some 14), none, .mv (.t 1)⟩,
    ⟨(some 15), none, .ca 109 [(.t 5), (.t 11), (.t 13), (.t 14)]⟩,
    ⟨(some 4), none, .mv (.t 15)⟩])
  .rt))⟩
theorem k71 : cF Tryz.prog Tryz.f71 = some c71 := by kernel_rfl
/-- (*rundale/stash.Stash).List -/
def c72 : Fu := ⟨8, [.t 2],
  (.sq (.rg [⟨(some 2), none, .mv (.c (.slice none 0 0))⟩])
  (.sq (.rg [⟨(some 3), none, .mv (.t 0)⟩,
    ⟨(some 4), none, .nc (.t 3)⟩,
    ⟨(some 5), none, .fa (.t 4) 1⟩,
    ⟨(some 6), none, .ld (.t 5) 1 false⟩,
    ⟨(some 7), none, .ca 134 [(.t 6)]⟩,
    ⟨(some 2), none, .mv (.t 7)⟩])
  .rt))⟩
theorem k72 : cF Tryz.prog Tryz.f72 = some c72 := by kernel_rfl
/-- (*rundale/stash.Stash).Give -/
def c73 : Fu := ⟨13, [],
  (.rg [⟨(some 4), none, .mv (.t 0)⟩,
    ⟨(some 5), none, .mv (.t 0)⟩,
    ⟨(some 6), none, .nc (.t 5)⟩,
    ⟨(some 7), none, .fa (.t 6) 1⟩,
    ⟨(some 8), none, .ld (.t 7) 1 false⟩,
    ⟨(some 9), none, .mv (.t 1)⟩,
    ⟨(some 10), none, .ap 49 3 1 8 [(.int .i64 0)] (.t 8) (.t 9)⟩,
    ⟨(some 11), none, .nc (.t 4)⟩,
    ⟨(some 12), none, .fa (.t 11) 1⟩,
    ⟨none, none, .st (.t 12) (.t 10) 1⟩])⟩
theorem k73 : cF Tryz.prog Tryz.f73 = some c73 := by kernel_rfl
/-- (*rundale/supply.Give).Step -/
def c74 : Fu := ⟨7, [.t 2],
  (.sq (.rg [⟨(some 2), none, .mv (.c (.bool false))⟩])
  (.sq (.rg [⟨(some 3), none, .mv (.t 0)⟩,
    ⟨(some 4), none, .nc (.t 3)⟩,
    ⟨(some 5), none, .fa (.t 4) 0⟩,
    ⟨(some 6), none, .ca 93 [(.t 5)]⟩,
    ⟨(some 2), none, .mv (.t 6)⟩])
  .rt))⟩
theorem k74 : cF Tryz.prog Tryz.f74 = some c74 := by kernel_rfl
/-- (*rundale/supply.Supply).give -/
def c75 : Fu := ⟨33, [.t 4],
  (.sq (.rg [⟨(some 4), none, .mv (.c (.pointer none))⟩])
  (.sq (.rg [⟨(some 8), none, .mv (.t 1)⟩,
    ⟨(some 9), none, .bd [.nilFunc, .nilFunc, .nilFunc, .nilFunc, (.int .i64 0), (.slice none 0 0)] [(5, 1, (.t 8))]⟩,
    ⟨(some 10), none, .bx 206 (.t 9)⟩,
    ⟨(some 5), none, .mv (.t 10)⟩])
  (.sq (.sq (.rg [⟨(some 12), none, .mv (.t 0)⟩,
    ⟨(some 13), none, .nc (.t 12)⟩,
    ⟨(some 14), none, .fa (.t 13) 7⟩,
    ⟨(some 15), none, .ld (.t 14) 1 false⟩,
    ⟨(some 16), none, .mv (.t 1)⟩,
    ⟨(some 17), none, .ca 135 [(.t 15), (.t 16)]⟩,
    ⟨(some 11), none, .mv (.t 17)⟩,
    ⟨(some 18), none, .ex (.t 11) 0⟩,
    ⟨(some 19), none, .ex (.t 11) 1⟩,
    ⟨(some 6), none, .mv (.t 18)⟩,
    ⟨(some 7), none, .mv (.t 19)⟩])
  (.sq (.rg [⟨(some 20), none, .mv (.t 7)⟩,
    ⟨(some 21), none, .ib .eql (.t 20) (.c (.int .i64 0))⟩])
  (.cd (.t 21)
  (.rg [⟨(some 22), none, .mv (.t 5)⟩,
    ⟨(some 23), none, .nc (.t 22)⟩,
    ⟨(some 24), none, .fa (.t 23) 0⟩,
    ⟨(some 25), none, .mv (.t 6)⟩,
    ⟨(some 26), none, .mf (.func 136) [(.t 25)] []⟩,
    ⟨(some 27), none, .mv (.t 6)⟩,
    ⟨(some 28), none, .mf (.func 137) [(.t 27)] []⟩,
    ⟨(some 29), none, .mv (.t 5)⟩,
    ⟨(some 30), none, .mf (.func 138) [(.t 29)] []⟩,
    ⟨(some 31), none, .ca 102 [(.t 24), (.t 26), (.t 28), (.t 30)]⟩])
  .sk)))
  (.sq (.rg [⟨(some 32), none, .mv (.t 5)⟩,
    ⟨(some 4), none, .mv (.t 32)⟩])
  .rt))))⟩
theorem k75 : cF Tryz.prog Tryz.f75 = some c75 := by kernel_rfl
/-- (*rundale/stack.Stack).top -/
def c77 : Fu := ⟨17, [.t 4],
  (.sq (.rg [⟨(some 4), none, .mv (.c (.int .i64 0))⟩])
  (.sq (.sq (.rg [⟨(some 6), none, .mv (.t 1)⟩,
    ⟨(some 7), none, .ca 140 [(.t 6)]⟩,
    ⟨(some 5), none, .al 212 [(.int .i64 0), (.int .i64 0)]⟩,
    ⟨none, none, .st (.t 5) (.t 7) 2⟩])
  (.sq (.rd [⟨0, 0, [5], ⟨(some 8), none, .fa (.t 5) 0⟩⟩,
    ⟨1, 1, [8], ⟨(some 9), none, .ld (.t 8) 1 false⟩⟩,
    ⟨2, 0, [0], ⟨(some 10), none, .mv (.t 0)⟩⟩,
    ⟨3, 4, [10], ⟨(some 11), none, .nc (.t 10)⟩⟩,
    ⟨4, 12, [11], ⟨(some 12), none, .fa (.t 11) 3⟩⟩,
    ⟨5, 28, [12], ⟨(some 13), none, .ld (.t 12) 1 false⟩⟩,
    ⟨6, 63, [9, 13], ⟨(some 14), none, .ib .lss (.t 9) (.t 13)⟩⟩])
  (.cd (.t 14)
  (.sq (.rg [⟨(some 15), none, .fa (.t 5) 0⟩,
    ⟨(some 16), none, .ld (.t 15) 1 false⟩,
    ⟨(some 4), none, .mv (.t 16)⟩])
  .rt)
  .sk)))
  (.sq (.rg [⟨(some 4), none, .mv (.c (.int .i64 (-1)))⟩])
  .rt)))⟩
theorem k77 : cF Tryz.prog Tryz.f77 = some c77 := by kernel_rfl
/-- (*rundale/cells.Cells).Peek -/
def c78 : Fu := ⟨16, [.t 4],
  (.sq (.rg [⟨(some 4), none, .mv (.c (.int .u64 0))⟩])
  (.sq (.sq (.rg [⟨(some 5), none, .mv (.t 0)⟩,
    ⟨(some 6), none, .mv (.t 1)⟩,
    ⟨(some 7), none, .ca 110 [(.t 5), (.t 6)]⟩,
    ⟨(some 8), none, .nt (.t 7)⟩])
  (.cd (.t 8)
  (.sq (.rg [⟨(some 4), none, .mv (.c (.int .u64 0))⟩])
  .rt)
  .sk))
  (.sq (.rg [⟨(some 9), none, .mv (.t 0)⟩,
    ⟨(some 10), none, .nc (.t 9)⟩,
    ⟨(some 11), none, .fa (.t 10) 0⟩,
    ⟨(some 12), none, .ld (.t 11) 1 false⟩,
    ⟨(some 13), none, .mv (.t 1)⟩,
    ⟨(some 14), none, .ia (.t 12) (.t 13) 1⟩,
    ⟨(some 15), none, .ld (.t 14) 1 false⟩,
    ⟨(some 4), none, .mv (.t 15)⟩])
  .rt)))⟩
theorem k78 : cF Tryz.prog Tryz.f78 = some c78 := by kernel_rfl
/-- (*rundale/stack.Stack).below -/
def c79 : Fu := ⟨15, [.t 4],
  (.sq (.rg [⟨(some 4), none, .mv (.c (.int .i64 0))⟩])
  (.sq (.sq (.rg [⟨(some 5), none, .mv (.t 1)⟩,
    ⟨(some 6), none, .mv (.t 0)⟩,
    ⟨(some 7), none, .nc (.t 6)⟩,
    ⟨(some 8), none, .fa (.t 7) 3⟩,
    ⟨(some 9), none, .ld (.t 8) 1 false⟩,
    ⟨(some 10), none, .cv .u64 (.t 9)⟩,
    ⟨(some 11), none, .ib .gtr (.t 5) (.t 10)⟩])
  (.cd (.t 11)
  (.sq (.rg [⟨(some 4), none, .mv (.c (.int .i64 (-1)))⟩])
  .rt)
  .sk))
  (.sq (.rg [⟨(some 12), none, .mv (.t 1)⟩,
    ⟨(some 13), none, .cv .i64 (.t 12)⟩,
    ⟨(some 14), none, .ib .sub (.t 13) (.c (.int .i64 1))⟩,
    ⟨(some 4), none, .mv (.t 14)⟩])
  .rt)))⟩
theorem k79 : cF Tryz.prog Tryz.f79 = some c79 := by kernel_rfl
/-- (*rundale/stash.Stash).All -/
def c80 : Fu := ⟨10, [.t 2],
  (.sq (.rg [⟨(some 2), none, .mv (.c (.slice none 0 0))⟩])
  (.sq (.rg [⟨(some 3), none, .mv (.t 0)⟩,
    ⟨(some 4), none, .mv (.t 0)⟩,
    ⟨(some 5), none, .nc (.t 4)⟩,
    ⟨(some 6), none, .fa (.t 5) 1⟩,
    ⟨(some 7), none, .ld (.t 6) 1 false⟩,
    ⟨(some 8), none, .len (.t 7)⟩,
    ⟨(some 9), none, .ca 139 [(.t 3), (.t 8)]⟩,
    ⟨(some 2), none, .mv (.t 9)⟩])
  .rt))⟩
theorem k80 : cF Tryz.prog Tryz.f80 = some c80 := by kernel_rfl
/-- (*rundale/rundaleref11.Take).Step -/
def c81 : Fu := ⟨86, [.t 2],
  (.sq (.rg [⟨(some 2), none, .mv (.c (.bool false))⟩])
  (.sq (.sq (.rg [⟨(some 4), none, .mv (.t 0)⟩,
    ⟨(some 5), none, .nc (.t 4)⟩,
    ⟨(some 6), none, .fa (.t 5) 5⟩,
    ⟨(some 7), none, .ld (.t 6) 1 false⟩])
  (.cd (.t 7)
  (.sq (.rg [⟨(some 2), none, .mv (.c (.bool false))⟩])
  .rt)
  .sk))
  (.sq (.sq (.rg [⟨(some 8), none, .mv (.t 0)⟩,
    ⟨(some 9), none, .nc (.t 8)⟩,
    ⟨(some 10), none, .fa (.t 9) 1⟩,
    ⟨(some 11), none, .ld (.t 10) 1 false⟩,
    ⟨(some 12), none, .ib .eql (.t 11) (.c (.int .i64 0))⟩])
  (.cd (.t 12)
  (.sq (.rg [⟨(some 13), none, .mv (.t 0)⟩,
    ⟨(some 14), none, .mv (.t 0)⟩,
    ⟨(some 15), none, .nc (.t 14)⟩,
    ⟨(some 16), none, .fa (.t 15) 0⟩,
    ⟨(some 17), none, .ld (.t 16) 1 false⟩,
    ⟨(some 18), none, .nc (.t 17)⟩,
    ⟨(some 19), none, .fa (.t 18) 0⟩,
    ⟨(some 20), none, .ld (.t 19) 1 false⟩,
    ⟨(some 21), none, .nc (.t 20)⟩,
    ⟨(some 22), none, .fa (.t 21) 6⟩,
    ⟨(some 23), none, .ld (.t 22) 1 false⟩,
    ⟨(some 24), none, .ca 96 [(.t 23), (.c (.int .i64 2))]⟩,
    ⟨(some 25), none, .ca 95 [(.t 24)]⟩,
    ⟨(some 26), none, .nc (.t 13)⟩,
    ⟨(some 27), none, .fa (.t 26) 3⟩,
    ⟨none, none, .st (.t 27) (.t 25) 1⟩])
  (.sq (.rd [⟨0, 0, [0], ⟨(some 28), none, .mv (.t 0)⟩⟩,
    ⟨1, 1, [28], ⟨(some 29), none, .nc (.t 28)⟩⟩,
    ⟨2, 3, [29], ⟨(some 30), none, .fa (.t 29) 0⟩⟩,
    ⟨3, 7, [30], ⟨(some 31), none, .ld (.t 30) 1 false⟩⟩,
    ⟨4, 0, [0], ⟨(some 32), none, .mv (.t 0)⟩⟩,
    ⟨5, 16, [32], ⟨(some 33), none, .nc (.t 32)⟩⟩,
    ⟨6, 48, [33], ⟨(some 34), none, .fa (.t 33) 3⟩⟩,
    ⟨7, 112, [34], ⟨(some 35), none, .ld (.t 34) 1 false⟩⟩,
    ⟨8, 255, [31, 35], ⟨(some 36), none, .ca 89 [(.t 31), (.t 35)]⟩⟩])
  (.sq (.rg [⟨(some 37), none, .mv (.t 0)⟩,
    ⟨(some 38), none, .ca 141 [(.t 37)]⟩])
  (.sq (.sq (.rg [⟨(some 39), none, .mv (.t 0)⟩,
    ⟨(some 40), none, .nc (.t 39)⟩,
    ⟨(some 41), none, .fa (.t 40) 5⟩,
    ⟨(some 42), none, .ld (.t 41) 1 false⟩,
    ⟨(some 43), none, .nt (.t 42)⟩])
  (.cd (.t 43)
  (.rg [⟨(some 44), none, .mv (.t 0)⟩,
    ⟨(some 45), none, .ca 142 [(.t 44)]⟩])
  .sk))
  (.sq (.rg [⟨(some 2), none, .mv (.c (.bool true))⟩])
  .rt)))))
  .sk))
  (.sq (.rg [⟨(some 46), none, .mv (.t 0)⟩,
    ⟨(some 47), none, .nc (.t 46)⟩,
    ⟨(some 48), none, .fa (.t 47) 4⟩,
    ⟨(some 49), none, .ld (.t 48) 1 false⟩,
    ⟨(some 50), none, .ca 143 [(.t 49)]⟩])
  (.sq (.sq (.rg [⟨(some 51), none, .mv (.t 0)⟩,
    ⟨(some 52), none, .nc (.t 51)⟩,
    ⟨(some 53), none, .fa (.t 52) 4⟩,
    ⟨(some 54), none, .ld (.t 53) 1 false⟩,
    ⟨(some 55), none, .nc (.t 54)⟩,
    ⟨(some 56), none, .fa (.t 55) 6⟩,
    ⟨(some 57), none, .ld (.t 56) 1 false⟩,
    ⟨(some 58), none, .nt (.t 57)⟩])
  (.cd (.t 58)
  (.sq (.rg [⟨(some 2), none, .mv (.c (.bool true))⟩])
  .rt)
  .sk))
  (.sq (.rg [⟨(some 59), none, .mv (.t 0)⟩,
    ⟨(some 60), none, .nc (.t 59)⟩,
    ⟨(some 61), none, .fa (.t 60) 4⟩,
    ⟨(some 62), none, .ld (.t 61) 1 false⟩,
    ⟨(some 63), none, .ca 144 [(.t 62)]⟩,
    ⟨(some 3), none, .mv (.t 63)⟩])
  (.sq (.sq (.rg [⟨(some 64), none, .mv (.t 3)⟩,
    ⟨(some 65), none, .len (.t 64)⟩,
    ⟨(some 66), none, .ib .gtr (.t 65) (.c (.int .i64 0))⟩])
  (.cd (.t 66)
  (.sq (.rg [⟨(some 67), none, .mv (.t 0)⟩,
    ⟨(some 68), none, .mv (.t 3)⟩,
    ⟨(some 69), none, .ia (.t 68) (.c (.int .i64 0)) 1⟩,
    ⟨(some 70), none, .ld (.t 69) 1 false⟩,
    ⟨(some 71), none, .nc (.t 67)⟩,
    ⟨(some 72), none, .fa (.t 71) 2⟩,
    ⟨none, none, .st (.t 72) (.t 70) 1⟩])
  (.rd [⟨0, 0, [0], ⟨(some 73), none, .mv (.t 0)⟩⟩,
    ⟨1, 1, [73], ⟨(some 74), none, .nc (.t 73)⟩⟩,
    ⟨2, 3, [74], ⟨(some 75), none, .fa (.t 74) 0⟩⟩,
    ⟨3, 7, [75], ⟨(some 76), none, .ld (.t 75) 1 false⟩⟩,
    ⟨4, 15, [76], ⟨(some 77), none, .nc (.t 76)⟩⟩,
    ⟨5, 31, [77], ⟨(some 78), none, .fa (.t 77) 1⟩⟩,
    ⟨6, 63, [78], ⟨(some 79), none, .ld (.t 78) 1 false⟩⟩,
    ⟨7, 0, [3], ⟨(some 80), none, .mv (.t 3)⟩⟩,
    ⟨8, 128, [80], ⟨(some 81), none, .sl 1 (.t 80) (some (.c (.int .i64 1))) none none⟩⟩,
    ⟨9, 511, [79, 81], ⟨(some 82), none, .ca 45 [(.t 79), (.t 81)]⟩⟩]))
  .sk))
  (.sq (.rg [⟨(some 83), none, .mv (.t 0)⟩,
    ⟨(some 84), none, .nc (.t 83)⟩,
    ⟨(some 85), none, .fa (.t 84) 5⟩,
    ⟨none, none, .st (.t 85) (.c (.bool true)) 1⟩])
  (.sq (.rg [⟨(some 2), none, .mv (.c (.bool true))⟩])
  .rt)))))))))⟩
theorem k81 : cF Tryz.prog Tryz.f81 = some c81 := by kernel_rfl
/-- (*rundale/rundaleref11.Supply).Take -/
def c85 : Fu := ⟨25, [.t 2],
  (.sq (.rg [⟨(some 2), none, .mv (.c (.pointer none))⟩])
  (.sq (.rg [⟨(some 4), none, .mv (.t 0)⟩,
    ⟨(some 5), none, .bd [(.pointer none), (.int .i64 0), (.int .i64 0), (.int .i64 0), (.pointer none), (.bool false)] [(0, 1, (.t 4)), (2, 1, (.c (.int .i64 (-1)))), (3, 1, (.c (.int .i64 (-1))))]⟩,
    ⟨(some 6), none, .bx 159 (.t 5)⟩,
    ⟨(some 3), none, .mv (.t 6)⟩])
  (.sq (.rg [⟨(some 7), none, .mv (.t 3)⟩,
    ⟨(some 8), none, .ca 141 [(.t 7)]⟩])
  (.sq (.sq (.rg [⟨(some 9), none, .mv (.t 3)⟩,
    ⟨(some 10), none, .nc (.t 9)⟩,
    ⟨(some 11), none, .fa (.t 10) 5⟩,
    ⟨(some 12), none, .ld (.t 11) 1 false⟩,
    ⟨(some 13), none, .nt (.t 12)⟩,
    ⟨(some 14), none, .mv (.t 13)⟩,
    ⟨(some 15), (some (14, true)), .mv (.t 0)⟩,
    ⟨(some 16), (some (14, true)), .nc (.t 15)⟩,
    ⟨(some 17), (some (14, true)), .fa (.t 16) 2⟩,
    ⟨(some 18), (some (14, true)), .ld (.t 17) 1 false⟩,
    ⟨(some 19), (some (14, true)), .ca 147 [(.t 18)]⟩,
    ⟨(some 20), (some (14, true)), .ib .eql (.t 19) (.c (.int .i64 0))⟩,
    ⟨(some 21), none, .pk (.t 14) (.t 20) (.c (.bool false))⟩])
  (.cd (.t 21)
  (.rg [⟨(some 22), none, .mv (.t 3)⟩,
    ⟨(some 23), none, .ca 142 [(.t 22)]⟩])
  .sk))
  (.sq (.rg [⟨(some 24), none, .mv (.t 3)⟩,
    ⟨(some 2), none, .mv (.t 24)⟩])
  .rt)))))⟩
theorem k85 : cF Tryz.prog Tryz.f85 = some c85 := by kernel_rfl
/-- (*rundale/supply.Supply).Ready -/
def c88 : Fu := ⟨20, [.t 4],
  (.sq (.rg [⟨(some 4), none, .mv (.c (.int .i64 0))⟩])
  (.sq (.rg [⟨(some 6), none, .mv (.t 0)⟩,
    ⟨(some 7), none, .nc (.t 6)⟩,
    ⟨(some 8), none, .fa (.t 7) 9⟩,
    ⟨(some 9), none, .ld (.t 8) 1 false⟩,
    ⟨(some 10), none, .mv (.t 1)⟩,
    ⟨(some 11), none, .ca 151 [(.t 9), (.t 10)]⟩,
    ⟨(some 5), none, .mv (.t 11)⟩])
  (.sq (.rg [⟨(some 12), none, .mv (.t 0)⟩,
    ⟨(some 13), none, .nc (.t 12)⟩,
    ⟨(some 14), none, .fa (.t 13) 8⟩,
    ⟨(some 15), none, .ld (.t 14) 1 false⟩,
    ⟨(some 16), none, .mv (.t 5)⟩,
    ⟨(some 17), none, .ca 73 [(.t 15), (.t 16)]⟩])
  (.sq (.rg [⟨(some 18), none, .mv (.t 5)⟩,
    ⟨(some 19), none, .len (.t 18)⟩,
    ⟨(some 4), none, .mv (.t 19)⟩])
  .rt))))⟩
theorem k88 : cF Tryz.prog Tryz.f88 = some c88 := by kernel_rfl
/-- (*rundale/rundaleref11.Supply).Ready -/
def c89 : Fu := ⟨20, [.t 4],
  (.sq (.rg [⟨(some 4), none, .mv (.c (.int .i64 0))⟩])
  (.sq (.rg [⟨(some 6), none, .mv (.t 0)⟩,
    ⟨(some 7), none, .nc (.t 6)⟩,
    ⟨(some 8), none, .fa (.t 7) 2⟩,
    ⟨(some 9), none, .ld (.t 8) 1 false⟩,
    ⟨(some 10), none, .mv (.t 1)⟩,
    ⟨(some 11), none, .ca 152 [(.t 9), (.t 10)]⟩,
    ⟨(some 5), none, .mv (.t 11)⟩])
  (.sq (.rg [⟨(some 12), none, .mv (.t 0)⟩,
    ⟨(some 13), none, .nc (.t 12)⟩,
    ⟨(some 14), none, .fa (.t 13) 1⟩,
    ⟨(some 15), none, .ld (.t 14) 1 false⟩,
    ⟨(some 16), none, .mv (.t 5)⟩,
    ⟨(some 17), none, .ca 45 [(.t 15), (.t 16)]⟩])
  (.sq (.rg [⟨(some 18), none, .mv (.t 5)⟩,
    ⟨(some 19), none, .len (.t 18)⟩,
    ⟨(some 4), none, .mv (.t 19)⟩])
  .rt))))⟩
theorem k89 : cF Tryz.prog Tryz.f89 = some c89 := by kernel_rfl
/-- (*rundale/rundaleref5.Stack).Top -/
def c90 : Fu := ⟨16, [.t 4],
  (.sq (.rg [⟨(some 4), none, .mv (.c (.int .i64 0))⟩])
  (.sq (.rg [⟨(some 6), none, .mv (.t 1)⟩,
    ⟨(some 7), none, .ca 153 [(.t 6)]⟩,
    ⟨(some 8), none, .fv (.t 7) 0 1 false⟩,
    ⟨(some 5), none, .mv (.t 8)⟩])
  (.sq (.sq (.rg [⟨(some 9), none, .mv (.t 5)⟩,
    ⟨(some 10), none, .mv (.t 0)⟩,
    ⟨(some 11), none, .nc (.t 10)⟩,
    ⟨(some 12), none, .fa (.t 11) 3⟩,
    ⟨(some 13), none, .ld (.t 12) 1 false⟩,
    ⟨(some 14), none, .ib .geq (.t 9) (.t 13)⟩])
  (.cd (.t 14)
  (.sq (.rg [⟨(some 4), none, .mv (.c (.int .i64 (-1)))⟩])
  .rt)
  .sk))
  (.sq (.rg [⟨(some 15), none, .mv (.t 5)⟩,
    ⟨(some 4), none, .mv (.t 15)⟩])
  .rt))))⟩
theorem k90 : cF Tryz.prog Tryz.f90 = some c90 := by kernel_rfl
/-- (*rundale/rundaleref5.Stack).Below -/
def c91 : Fu := ⟨15, [.t 4],
  (.sq (.rg [⟨(some 4), none, .mv (.c (.int .i64 0))⟩])
  (.sq (.sq (.rg [⟨(some 5), none, .mv (.t 1)⟩,
    ⟨(some 6), none, .mv (.t 0)⟩,
    ⟨(some 7), none, .nc (.t 6)⟩,
    ⟨(some 8), none, .fa (.t 7) 3⟩,
    ⟨(some 9), none, .ld (.t 8) 1 false⟩,
    ⟨(some 10), none, .cv .u64 (.t 9)⟩,
    ⟨(some 11), none, .ib .gtr (.t 5) (.t 10)⟩])
  (.cd (.t 11)
  (.sq (.rg [⟨(some 4), none, .mv (.c (.int .i64 (-1)))⟩])
  .rt)
  .sk))
  (.sq (.rg [⟨(some 12), none, .mv (.t 1)⟩,
    ⟨(some 13), none, .cv .i64 (.t 12)⟩,
    ⟨(some 14), none, .ib .sub (.t 13) (.c (.int .i64 1))⟩,
    ⟨(some 4), none, .mv (.t 14)⟩])
  .rt)))⟩
theorem k91 : cF Tryz.prog Tryz.f91 = some c91 := by kernel_rfl
/-- rundale/epoch.Cut -/
def c92 : Fu := ⟨6, [.t 2],
  (.sq (.rg [⟨(some 2), none, .mv (.c (.int .i64 0))⟩])
  (.sq (.rg [⟨(some 3), none, .mv (.t 0)⟩,
    ⟨(some 4), none, .mm false (.t 3) (.c (.int .u64 4611686018427387903))⟩,
    ⟨(some 5), none, .cv .i64 (.t 4)⟩,
    ⟨(some 2), none, .mv (.t 5)⟩])
  .rt))⟩
theorem k92 : cF Tryz.prog Tryz.f92 = some c92 := by kernel_rfl
/-- (*rundale/run.Machine).Step -/
def c93 : Fu := ⟨25, [.t 2],
  (.sq (.rg [⟨(some 2), none, .mv (.c (.bool false))⟩])
  (.sq (.sq (.rg [⟨(some 4), none, .mv (.t 0)⟩,
    ⟨(some 5), none, .nc (.t 4)⟩,
    ⟨(some 6), none, .fa (.t 5) 0⟩,
    ⟨(some 7), none, .ld (.t 6) 1 false⟩,
    ⟨(some 8), none, .en 2 false (.t 7) (.c .nilFunc)⟩])
  (.cd (.t 8)
  (.sq (.rg [⟨(some 2), none, .mv (.c (.bool false))⟩])
  .rt)
  .sk))
  (.sq (.rg [⟨(some 9), none, .mv (.t 0)⟩,
    ⟨(some 10), none, .nc (.t 9)⟩,
    ⟨(some 11), none, .fa (.t 10) 0⟩,
    ⟨(some 12), none, .ld (.t 11) 1 false⟩,
    ⟨(some 3), none, .mv (.t 12)⟩])
  (.sq (.rg [⟨(some 13), none, .mv (.t 0)⟩,
    ⟨(some 14), none, .nc (.t 13)⟩,
    ⟨(some 15), none, .fa (.t 14) 0⟩,
    ⟨none, none, .st (.t 15) (.c .nilFunc) 1⟩])
  (.sq (.rg [⟨(some 16), none, .mv (.t 0)⟩,
    ⟨(some 17), none, .nc (.t 16)⟩,
    ⟨(some 18), none, .fa (.t 17) 4⟩,
    ⟨(some 19), none, .ld (.t 18) 1 false⟩,
    ⟨(some 20), none, .ib .add (.t 19) (.c (.int .i64 1))⟩,
    ⟨(some 21), none, .nc (.t 16)⟩,
    ⟨(some 22), none, .fa (.t 21) 4⟩,
    ⟨none, none, .st (.t 22) (.t 20) 1⟩])
  (.sq (.rg [⟨(some 23), none, .mv (.t 3)⟩,
    ⟨(some 24), none, .cl (.t 23) []⟩])
  (.sq (.rg [⟨(some 2), none, .mv (.c (.bool true))⟩])
  .rt)))))))⟩
theorem k93 : cF Tryz.prog Tryz.f93 = some c93 := by kernel_rfl
/-- rundale/rundaleref5.Cut -/
def c95 : Fu := ⟨7, [.t 2],
  (.sq (.rg [⟨(some 2), none, .mv (.c (.int .i64 0))⟩])
  (.sq (.sq (.rg [⟨(some 3), none, .mv (.t 0)⟩,
    ⟨(some 4), none, .ib .gtr (.t 3) (.c (.int .u64 4611686018427387903))⟩])
  (.cd (.t 4)
  (.sq (.rg [⟨(some 2), none, .mv (.c (.int .i64 4611686018427387903))⟩])
  .rt)
  .sk))
  (.sq (.rg [⟨(some 5), none, .mv (.t 0)⟩,
    ⟨(some 6), none, .cv .i64 (.t 5)⟩,
    ⟨(some 2), none, .mv (.t 6)⟩])
  .rt)))⟩
theorem k95 : cF Tryz.prog Tryz.f95 = some c95 := by kernel_rfl
/-- (*rundale/rundaleref5.M).Load -/
def c96 : Fu := ⟨19, [.t 4],
  (.sq (.rg [⟨(some 4), none, .mv (.c (.int .u64 0))⟩])
  (.sq (.rg [⟨(some 5), none, .mv (.t 0)⟩,
    ⟨(some 6), none, .nc (.t 5)⟩,
    ⟨(some 7), none, .fa (.t 6) 1⟩,
    ⟨(some 8), none, .ld (.t 7) 1 false⟩,
    ⟨(some 9), none, .ib .add (.t 8) (.c (.int .i64 1))⟩,
    ⟨(some 10), none, .nc (.t 5)⟩,
    ⟨(some 11), none, .fa (.t 10) 1⟩,
    ⟨none, none, .st (.t 11) (.t 9) 1⟩])
  (.sq (.rg [⟨(some 12), none, .mv (.t 0)⟩,
    ⟨(some 13), none, .nc (.t 12)⟩,
    ⟨(some 14), none, .fa (.t 13) 0⟩,
    ⟨(some 15), none, .ld (.t 14) 1 false⟩,
    ⟨(some 16), none, .mv (.t 1)⟩,
    ⟨(some 17), none, .ia (.t 15) (.t 16) 1⟩,
    ⟨(some 18), none, .ld (.t 17) 1 false⟩,
    ⟨(some 4), none, .mv (.t 18)⟩])
  .rt)))⟩
theorem k96 : cF Tryz.prog Tryz.f96 = some c96 := by kernel_rfl
/-- (*rundale/run.Machine).Done -/
def c97 : Fu := ⟨8, [.t 2],
  (.sq (.rg [⟨(some 2), none, .mv (.c (.bool false))⟩])
  (.sq (.rg [⟨(some 3), none, .mv (.t 0)⟩,
    ⟨(some 4), none, .nc (.t 3)⟩,
    ⟨(some 5), none, .fa (.t 4) 0⟩,
    ⟨(some 6), none, .ld (.t 5) 1 false⟩,
    ⟨(some 7), none, .en 2 false (.t 6) (.c .nilFunc)⟩,
    ⟨(some 2), none, .mv (.t 7)⟩])
  .rt))⟩
theorem k97 : cF Tryz.prog Tryz.f97 = some c97 := by kernel_rfl
/-- (*rundale/epoch.Advance).Won -/
def c98 : Fu := ⟨7, [.t 2],
  (.sq (.rg [⟨(some 2), none, .mv (.c (.bool false))⟩])
  (.sq (.rg [⟨(some 3), none, .mv (.t 0)⟩,
    ⟨(some 4), none, .nc (.t 3)⟩,
    ⟨(some 5), none, .fa (.t 4) 8⟩,
    ⟨(some 6), none, .ld (.t 5) 1 false⟩,
    ⟨(some 2), none, .mv (.t 6)⟩])
  .rt))⟩
theorem k98 : cF Tryz.prog Tryz.f98 = some c98 := by kernel_rfl
/-- (*rundale/supply.Give).Hand -/
def c99 : Fu := ⟨10, [.t 2],
  (.sq (.rg [⟨(some 2), none, .mv (.c (.slice none 0 0))⟩])
  (.sq (.sq (.rg [⟨(some 3), none, .mv (.t 0)⟩,
    ⟨(some 4), none, .ca 146 [(.t 3)]⟩])
  (.cd (.t 4)
  (.sq (.rg [⟨(some 2), none, .mv (.c (.slice none 0 0))⟩])
  .rt)
  .sk))
  (.sq (.rg [⟨(some 5), none, .mv (.t 0)⟩,
    ⟨(some 6), none, .nc (.t 5)⟩,
    ⟨(some 7), none, .fa (.t 6) 5⟩,
    ⟨(some 8), none, .ld (.t 7) 1 false⟩,
    ⟨(some 9), none, .ca 134 [(.t 8)]⟩,
    ⟨(some 2), none, .mv (.t 9)⟩])
  .rt)))⟩
theorem k99 : cF Tryz.prog Tryz.f99 = some c99 := by kernel_rfl
/-- (*rundale/epoch.Epoch).Advance -/
def c101 : Fu := ⟨14, [.t 2],
  (.sq (.rg [⟨(some 2), none, .mv (.c (.pointer none))⟩])
  (.sq (.rg [⟨(some 4), none, .mv (.t 0)⟩,
    ⟨(some 5), none, .bd [.nilFunc, .nilFunc, .nilFunc, .nilFunc, (.int .i64 0), (.pointer none), (.int .u64 0), (.int .i64 0), (.bool false)] [(5, 1, (.t 4))]⟩,
    ⟨(some 6), none, .bx 225 (.t 5)⟩,
    ⟨(some 3), none, .mv (.t 6)⟩])
  (.sq (.rg [⟨(some 7), none, .mv (.t 3)⟩,
    ⟨(some 8), none, .nc (.t 7)⟩,
    ⟨(some 9), none, .fa (.t 8) 0⟩,
    ⟨(some 10), none, .mv (.t 3)⟩,
    ⟨(some 11), none, .mf (.func 156) [(.t 10)] []⟩,
    ⟨(some 12), none, .ca 114 [(.t 9), (.t 11)]⟩])
  (.sq (.rg [⟨(some 13), none, .mv (.t 3)⟩,
    ⟨(some 2), none, .mv (.t 13)⟩])
  .rt))))⟩
theorem k101 : cF Tryz.prog Tryz.f101 = some c101 := by kernel_rfl
/-- (*rundale/run.Machine).Through -/
def c102 : Fu := ⟨22, [],
  (.sq (.rg [⟨(some 8), none, .mv (.t 0)⟩,
    ⟨(some 9), none, .mv (.t 0)⟩,
    ⟨(some 10), none, .mv (.t 0)⟩,
    ⟨(some 11), none, .mv (.t 1)⟩,
    ⟨(some 12), none, .mv (.t 2)⟩,
    ⟨(some 13), none, .mv (.t 3)⟩,
    ⟨(some 14), none, .nc (.t 8)⟩,
    ⟨(some 15), none, .fa (.t 14) 1⟩,
    ⟨none, none, .st (.t 15) (.t 11) 1⟩,
    ⟨(some 16), none, .nc (.t 9)⟩,
    ⟨(some 17), none, .fa (.t 16) 2⟩,
    ⟨none, none, .st (.t 17) (.t 12) 1⟩,
    ⟨(some 18), none, .nc (.t 10)⟩,
    ⟨(some 19), none, .fa (.t 18) 3⟩,
    ⟨none, none, .st (.t 19) (.t 13) 1⟩])
  (.rg [⟨(some 20), none, .mv (.t 0)⟩,
    ⟨(some 21), none, .ca 157 [(.t 20)]⟩]))⟩
theorem k102 : cF Tryz.prog Tryz.f102 = some c102 := by kernel_rfl
/-- (*rundale/epoch.Advance).Step -/
def c103 : Fu := ⟨7, [.t 2],
  (.sq (.rg [⟨(some 2), none, .mv (.c (.bool false))⟩])
  (.sq (.rg [⟨(some 3), none, .mv (.t 0)⟩,
    ⟨(some 4), none, .nc (.t 3)⟩,
    ⟨(some 5), none, .fa (.t 4) 0⟩,
    ⟨(some 6), none, .ca 93 [(.t 5)]⟩,
    ⟨(some 2), none, .mv (.t 6)⟩])
  .rt))⟩
theorem k103 : cF Tryz.prog Tryz.f103 = some c103 := by kernel_rfl
/-- (*rundale/epoch.Advance).Done -/
def c104 : Fu := ⟨7, [.t 2],
  (.sq (.rg [⟨(some 2), none, .mv (.c (.bool false))⟩])
  (.sq (.rg [⟨(some 3), none, .mv (.t 0)⟩,
    ⟨(some 4), none, .nc (.t 3)⟩,
    ⟨(some 5), none, .fa (.t 4) 0⟩,
    ⟨(some 6), none, .ca 97 [(.t 5)]⟩,
    ⟨(some 2), none, .mv (.t 6)⟩])
  .rt))⟩
theorem k104 : cF Tryz.prog Tryz.f104 = some c104 := by kernel_rfl
/-- (*rundale/gather.Collect).advanced -/
def c105 : Fu := ⟨8, [],
  (.rg [⟨(some 2), none, .mv (.t 0)⟩,
    ⟨(some 3), none, .nc (.t 2)⟩,
    ⟨(some 4), none, .fa (.t 3) 0⟩,
    ⟨(some 5), none, .mv (.t 0)⟩,
    ⟨(some 6), none, .mf (.func 158) [(.t 5)] []⟩,
    ⟨(some 7), none, .ca 114 [(.t 4), (.t 6)]⟩])⟩
theorem k105 : cF Tryz.prog Tryz.f105 = some c105 := by kernel_rfl
/-- (*rundale/limbo.Limbo).Retire -/
def c106 : Fu := ⟨66, [.t 6, .t 7],
  (.sq (.rg [⟨(some 6), none, .mv (.c (.slice none 0 0))⟩,
    ⟨(some 7), none, .mv (.c (.int .i64 0))⟩])
  (.sq (.sq (.rg [⟨(some 10), none, .mv (.t 2)⟩,
    ⟨(some 11), none, .len (.t 10)⟩,
    ⟨(some 12), none, .ib .eql (.t 11) (.c (.int .i64 0))⟩,
    ⟨(some 13), none, .mv (.t 12)⟩,
    ⟨(some 14), (some (13, false)), .mv (.t 1)⟩,
    ⟨(some 15), (some (13, false)), .ib .lss (.t 14) (.c (.int .i64 0))⟩,
    ⟨(some 16), none, .pk (.t 13) (.c (.bool true)) (.t 15)⟩,
    ⟨(some 17), none, .mv (.t 16)⟩,
    ⟨(some 18), (some (17, false)), .mv (.t 1)⟩,
    ⟨(some 19), (some (17, false)), .ib .gtr (.t 18) (.c (.int .i64 4611686018427387903))⟩,
    ⟨(some 20), none, .pk (.t 17) (.c (.bool true)) (.t 19)⟩,
    ⟨(some 21), none, .mv (.t 20)⟩,
    ⟨(some 22), (some (21, false)), .mv (.t 1)⟩,
    ⟨(some 23), (some (21, false)), .mv (.t 0)⟩,
    ⟨(some 24), (some (21, false)), .nc (.t 23)⟩,
    ⟨(some 25), (some (21, false)), .fa (.t 24) 6⟩,
    ⟨(some 26), (some (21, false)), .ld (.t 25) 1 false⟩,
    ⟨(some 27), (some (21, false)), .ib .lss (.t 22) (.t 26)⟩,
    ⟨(some 28), none, .pk (.t 21) (.c (.bool true)) (.t 27)⟩])
  (.cd (.t 28)
  (.sq (.rg [⟨(some 6), none, .mv (.c (.slice none 0 0))⟩,
    ⟨(some 7), none, .mv (.c (.int .i64 1))⟩])
  .rt)
  .sk))
  (.sq (.rg [⟨(some 29), none, .mv (.t 0)⟩,
    ⟨(some 30), none, .mv (.t 1)⟩,
    ⟨(some 31), none, .nc (.t 29)⟩,
    ⟨(some 32), none, .fa (.t 31) 6⟩,
    ⟨none, none, .st (.t 32) (.t 30) 1⟩])
  (.sq (.rg [⟨(some 33), none, .mv (.t 0)⟩,
    ⟨(some 34), none, .mv (.t 1)⟩,
    ⟨(some 35), none, .ib .rem (.t 34) (.c (.int .i64 3))⟩,
    ⟨(some 36), none, .nc (.t 33)⟩,
    ⟨(some 37), none, .fa (.t 36) 0⟩,
    ⟨(some 38), none, .iaa (.t 37) (.t 35) 3 2⟩,
    ⟨(some 8), none, .mv (.t 38)⟩])
  (.sq (.rg [⟨(some 9), none, .mv (.c (.slice none 0 0))⟩])
  (.sq (.sq (.rg [⟨(some 39), none, .mv (.t 8)⟩,
    ⟨(some 40), none, .nc (.t 39)⟩,
    ⟨(some 41), none, .fa (.t 40) 0⟩,
    ⟨(some 42), none, .ld (.t 41) 1 false⟩,
    ⟨(some 43), none, .mv (.t 1)⟩,
    ⟨(some 44), none, .ib .lss (.t 42) (.t 43)⟩])
  (.cd (.t 44)
  (.sq (.rg [⟨(some 45), none, .mv (.t 8)⟩,
    ⟨(some 46), none, .nc (.t 45)⟩,
    ⟨(some 47), none, .fa (.t 46) 1⟩,
    ⟨(some 48), none, .ld (.t 47) 1 false⟩,
    ⟨(some 9), none, .mv (.t 48)⟩])
  (.rg [⟨(some 49), none, .mv (.t 8)⟩,
    ⟨(some 50), none, .nc (.t 49)⟩,
    ⟨(some 51), none, .fa (.t 50) 1⟩,
    ⟨none, none, .st (.t 51) (.c (.slice none 0 0)) 1⟩]))
  .sk))
  (.sq (.rg [⟨(some 52), none, .mv (.t 8)⟩,
    ⟨(some 53), none, .mv (.t 1)⟩,
    ⟨(some 54), none, .nc (.t 52)⟩,
    ⟨(some 55), none, .fa (.t 54) 0⟩,
    ⟨none, none, .st (.t 55) (.t 53) 1⟩])
  (.sq (.rg [⟨(some 56), none, .mv (.t 8)⟩,
    ⟨(some 57), none, .mv (.t 8)⟩,
    ⟨(some 58), none, .nc (.t 57)⟩,
    ⟨(some 59), none, .fa (.t 58) 1⟩,
    ⟨(some 60), none, .ld (.t 59) 1 false⟩,
    ⟨(some 61), none, .mv (.t 2)⟩,
    ⟨(some 62), none, .ap 49 3 1 8 [(.int .i64 0)] (.t 60) (.t 61)⟩,
    ⟨(some 63), none, .nc (.t 56)⟩,
    ⟨(some 64), none, .fa (.t 63) 1⟩,
    ⟨none, none, .st (.t 64) (.t 62) 1⟩])
  (.sq (.rg [⟨(some 65), none, .mv (.t 9)⟩,
    ⟨(some 6), none, .mv (.t 65)⟩,
    ⟨(some 7), none, .mv (.c (.int .i64 0))⟩])
  .rt)))))))))⟩
theorem k106 : cF Tryz.prog Tryz.f106 = some c106 := by kernel_rfl
/-- rundale/rundaleref1.in -/
def c108 : Fu := ⟨15, [.t 6],
  (.sq (.rg [⟨(some 6), none, .mv (.c (.bool false))⟩])
  (.sq (.rg [⟨(some 7), none, .mv (.t 0)⟩,
    ⟨(some 8), none, .mv (.t 1)⟩,
    ⟨(some 9), none, .ib .geq (.t 7) (.t 8)⟩,
    ⟨(some 10), none, .mv (.t 9)⟩,
    ⟨(some 11), (some (10, true)), .mv (.t 0)⟩,
    ⟨(some 12), (some (10, true)), .mv (.t 2)⟩,
    ⟨(some 13), (some (10, true)), .ib .leq (.t 11) (.t 12)⟩,
    ⟨(some 14), none, .pk (.t 10) (.t 13) (.c (.bool false))⟩,
    ⟨(some 6), none, .mv (.t 14)⟩])
  .rt))⟩
theorem k108 : cF Tryz.prog Tryz.f108 = some c108 := by kernel_rfl
/-- rundale/rundaleref1.at -/
def c109 : Fu := ⟨24, [.t 8],
  (.sq (.rg [⟨(some 4), none, .bx 24 (.t 0)⟩,
    ⟨(some 8), none, .mv (.c (.int .i64 0))⟩])
  (.sq (.sq (.rg [⟨(some 9), none, .ld (.t 4) 6 true⟩,
    ⟨(some 10), none, .ca 159 [(.t 9)]⟩,
    ⟨(some 11), none, .nt (.t 10)⟩,
    ⟨(some 12), none, .mv (.t 11)⟩,
    ⟨(some 13), (some (12, false)), .mv (.t 3)⟩,
    ⟨(some 14), (some (12, false)), .ib .lss (.t 13) (.c (.int .i64 0))⟩,
    ⟨(some 15), none, .pk (.t 12) (.c (.bool true)) (.t 14)⟩,
    ⟨(some 16), none, .mv (.t 15)⟩,
    ⟨(some 17), (some (16, false)), .mv (.t 3)⟩,
    ⟨(some 18), (some (16, false)), .mv (.t 2)⟩,
    ⟨(some 19), (some (16, false)), .ib .geq (.t 17) (.t 18)⟩,
    ⟨(some 20), none, .pk (.t 16) (.c (.bool true)) (.t 19)⟩])
  (.cd (.t 20)
  (.sq (.rg [⟨(some 8), none, .mv (.c (.int .i64 (-1)))⟩])
  .rt)
  .sk))
  (.sq (.rg [⟨(some 21), none, .mv (.t 1)⟩,
    ⟨(some 22), none, .mv (.t 3)⟩,
    ⟨(some 23), none, .ib .add (.t 21) (.t 22)⟩,
    ⟨(some 8), none, .mv (.t 23)⟩])
  .rt)))⟩
theorem k109 : cF Tryz.prog Tryz.f109 = some c109 := by kernel_rfl
/-- (*rundale/cells.Cells).is -/
def c110 : Fu := ⟨16, [.t 4],
  (.sq (.rg [⟨(some 4), none, .mv (.c (.bool false))⟩])
  (.sq (.rg [⟨(some 5), none, .mv (.t 1)⟩,
    ⟨(some 6), none, .ib .geq (.t 5) (.c (.int .i64 0))⟩,
    ⟨(some 7), none, .mv (.t 6)⟩,
    ⟨(some 8), (some (7, true)), .mv (.t 1)⟩,
    ⟨(some 9), (some (7, true)), .mv (.t 0)⟩,
    ⟨(some 10), (some (7, true)), .nc (.t 9)⟩,
    ⟨(some 11), (some (7, true)), .fa (.t 10) 0⟩,
    ⟨(some 12), (some (7, true)), .ld (.t 11) 1 false⟩,
    ⟨(some 13), (some (7, true)), .len (.t 12)⟩,
    ⟨(some 14), (some (7, true)), .ib .lss (.t 8) (.t 13)⟩,
    ⟨(some 15), none, .pk (.t 7) (.t 14) (.c (.bool false))⟩,
    ⟨(some 4), none, .mv (.t 15)⟩])
  .rt))⟩
theorem k110 : cF Tryz.prog Tryz.f110 = some c110 := by kernel_rfl
/-- rundale/lay.cell -/
def c111 : Fu := ⟨33, [.t 6],
  (.sq (.rg [⟨(some 3), none, .bx 24 (.t 0)⟩,
    ⟨(some 6), none, .mv (.c (.int .i64 0))⟩])
  (.sq (.sq (.rg [⟨(some 9), none, .ld (.t 3) 6 true⟩,
    ⟨(some 10), none, .ca 56 [(.t 9)]⟩,
    ⟨(some 11), none, .nt (.t 10)⟩])
  (.cd (.t 11)
  (.sq (.rg [⟨(some 6), none, .mv (.c (.int .i64 (-1)))⟩])
  .rt)
  .sk))
  (.sq (.sq (.rg [⟨(some 12), none, .ld (.t 3) 6 true⟩,
    ⟨(some 13), none, .ca 57 [(.t 12)]⟩,
    ⟨(some 14), none, .mv (.c (.int .i64 0))⟩])
  (.bl 0
  (.lp
  (.sq (.rg [⟨(some 15), none, .ib .lss (.t 14) (.c (.int .i64 5))⟩])
  (.sq (.cd (.t 15)
  .sk
  (.ex 0))
  (.sq (.bl 1
  (.sq (.rg [⟨(some 16), none, .iv (.t 13) (.t 14) 5 3 true⟩,
    ⟨(some 8), none, .al 125 [(.int .i64 0), (.int .i64 0), (.int .i64 0)]⟩,
    ⟨none, none, .st (.t 8) (.t 16) 3⟩])
  (.sq (.rg [⟨(some 17), none, .fa (.t 8) 0⟩,
    ⟨(some 18), none, .ld (.t 17) 1 false⟩,
    ⟨(some 19), none, .mv (.t 1)⟩,
    ⟨(some 20), none, .ib .eql (.t 18) (.t 19)⟩,
    ⟨(some 21), none, .mv (.t 20)⟩,
    ⟨(some 22), (some (21, true)), .mv (.t 2)⟩,
    ⟨(some 23), (some (21, true)), .fa (.t 8) 2⟩,
    ⟨(some 24), (some (21, true)), .ld (.t 23) 1 false⟩,
    ⟨(some 25), (some (21, true)), .ib .sub (.t 24) (.c (.int .i64 1))⟩,
    ⟨(some 26), (some (21, true)), .ca 117 [(.t 22), (.c (.int .i64 0)), (.t 25)]⟩,
    ⟨(some 27), none, .pk (.t 21) (.t 26) (.c (.bool false))⟩])
  (.cd (.t 27)
  (.sq (.rg [⟨(some 28), none, .fa (.t 8) 1⟩,
    ⟨(some 29), none, .ld (.t 28) 1 false⟩,
    ⟨(some 30), none, .mv (.t 2)⟩,
    ⟨(some 31), none, .ib .add (.t 29) (.t 30)⟩,
    ⟨(some 6), none, .mv (.t 31)⟩])
  .rt)
  .sk))))
  (.rg [⟨(some 32), none, .ib .add (.t 14) (.c (.int .i64 1))⟩,
    ⟨(some 14), none, .mv (.t 32)⟩])))))))
  (.sq (.rg [⟨(some 6), none, .mv (.c (.int .i64 (-1)))⟩])
  .rt))))⟩
theorem k111 : cF Tryz.prog Tryz.f111 = some c111 := by kernel_rfl
/-- (*rundale/epoch.Epoch).is -/
def c113 : Fu := ⟨15, [.t 4],
  (.sq (.rg [⟨(some 4), none, .mv (.c (.bool false))⟩])
  (.sq (.rg [⟨(some 5), none, .mv (.t 1)⟩,
    ⟨(some 6), none, .ib .geq (.t 5) (.c (.int .i64 0))⟩,
    ⟨(some 7), none, .mv (.t 6)⟩,
    ⟨(some 8), (some (7, true)), .mv (.t 1)⟩,
    ⟨(some 9), (some (7, true)), .mv (.t 0)⟩,
    ⟨(some 10), (some (7, true)), .nc (.t 9)⟩,
    ⟨(some 11), (some (7, true)), .fa (.t 10) 3⟩,
    ⟨(some 12), (some (7, true)), .ld (.t 11) 1 false⟩,
    ⟨(some 13), (some (7, true)), .ib .lss (.t 8) (.t 12)⟩,
    ⟨(some 14), none, .pk (.t 7) (.t 13) (.c (.bool false))⟩,
    ⟨(some 4), none, .mv (.t 14)⟩])
  .rt))⟩
theorem k113 : cF Tryz.prog Tryz.f113 = some c113 := by kernel_rfl
/-- (*rundale/run.Machine).Go -/
def c114 : Fu := ⟨8, [],
  (.rg [⟨(some 4), none, .mv (.t 0)⟩,
    ⟨(some 5), none, .mv (.t 1)⟩,
    ⟨(some 6), none, .nc (.t 4)⟩,
    ⟨(some 7), none, .fa (.t 6) 0⟩,
    ⟨none, none, .st (.t 7) (.t 5) 1⟩])⟩
theorem k114 : cF Tryz.prog Tryz.f114 = some c114 := by kernel_rfl
/-- (*rundale/epoch.Enter).load -/
def c115 : Fu := ⟨33, [],
  (.sq (.rd [⟨0, 0, [0], ⟨(some 5), none, .mv (.t 0)⟩⟩,
    ⟨1, 1, [5], ⟨(some 6), none, .nc (.t 5)⟩⟩,
    ⟨2, 3, [6], ⟨(some 7), none, .fa (.t 6) 5⟩⟩,
    ⟨3, 7, [7], ⟨(some 8), none, .ld (.t 7) 1 false⟩⟩,
    ⟨4, 15, [8], ⟨(some 9), none, .nc (.t 8)⟩⟩,
    ⟨5, 31, [9], ⟨(some 10), none, .fa (.t 9) 0⟩⟩,
    ⟨6, 63, [10], ⟨(some 11), none, .ld (.t 10) 1 false⟩⟩,
    ⟨7, 0, [0], ⟨(some 12), none, .mv (.t 0)⟩⟩,
    ⟨8, 128, [12], ⟨(some 13), none, .nc (.t 12)⟩⟩,
    ⟨9, 384, [13], ⟨(some 14), none, .fa (.t 13) 5⟩⟩,
    ⟨10, 896, [14], ⟨(some 15), none, .ld (.t 14) 1 false⟩⟩,
    ⟨11, 1920, [15], ⟨(some 16), none, .nc (.t 15)⟩⟩,
    ⟨12, 3968, [16], ⟨(some 17), none, .fa (.t 16) 1⟩⟩,
    ⟨13, 8064, [17], ⟨(some 18), none, .ld (.t 17) 1 false⟩⟩,
    ⟨14, 16383, [11, 18], ⟨(some 19), none, .ca 160 [(.t 11), (.t 18)]⟩⟩,
    ⟨15, 32767, [19], ⟨(some 4), none, .mv (.t 19)⟩⟩,
    ⟨16, 65535, [4], ⟨(some 20), none, .ex (.t 4) 0⟩⟩,
    ⟨17, 65535, [4], ⟨(some 21), none, .ex (.t 4) 1⟩⟩,
    ⟨18, 131071, [20], ⟨(some 2), none, .mv (.t 20)⟩⟩,
    ⟨19, 524287, [21], ⟨(some 3), none, .mv (.t 21)⟩⟩])
  (.sq (.rg [⟨(some 22), none, .mv (.t 0)⟩,
    ⟨(some 23), none, .mv (.t 2)⟩,
    ⟨(some 24), none, .ca 92 [(.t 23)]⟩,
    ⟨(some 25), none, .nc (.t 22)⟩,
    ⟨(some 26), none, .fa (.t 25) 7⟩,
    ⟨none, none, .st (.t 26) (.t 24) 1⟩])
  (.rg [⟨(some 27), none, .mv (.t 0)⟩,
    ⟨(some 28), none, .nc (.t 27)⟩,
    ⟨(some 29), none, .fa (.t 28) 0⟩,
    ⟨(some 30), none, .mv (.t 0)⟩,
    ⟨(some 31), none, .mf (.func 161) [(.t 30)] []⟩,
    ⟨(some 32), none, .ca 114 [(.t 29), (.t 31)]⟩])))⟩
theorem k115 : cF Tryz.prog Tryz.f115 = some c115 := by kernel_rfl
/-- (*rundale/limbo.Limbo).Bucket -/
def c116 : Fu := ⟨38, [.t 4, .t 5],
  (.sq (.rg [⟨(some 4), none, .mv (.c (.int .i64 0))⟩,
    ⟨(some 5), none, .mv (.c (.slice none 0 0))⟩])
  (.sq (.sq (.rg [⟨(some 6), none, .mv (.t 1)⟩,
    ⟨(some 7), none, .ib .lss (.t 6) (.c (.int .i64 0))⟩,
    ⟨(some 8), none, .mv (.t 7)⟩,
    ⟨(some 9), (some (8, false)), .mv (.t 1)⟩,
    ⟨(some 10), (some (8, false)), .ib .geq (.t 9) (.c (.int .i64 3))⟩,
    ⟨(some 11), none, .pk (.t 8) (.c (.bool true)) (.t 10)⟩,
    ⟨(some 12), none, .mv (.t 11)⟩,
    ⟨(some 13), (some (12, false)), .mv (.t 0)⟩,
    ⟨(some 14), (some (12, false)), .mv (.t 1)⟩,
    ⟨(some 15), (some (12, false)), .nc (.t 13)⟩,
    ⟨(some 16), (some (12, false)), .fa (.t 15) 0⟩,
    ⟨(some 17), (some (12, false)), .iaa (.t 16) (.t 14) 3 2⟩,
    ⟨(some 18), (some (12, false)), .fa (.t 17) 1⟩,
    ⟨(some 19), (some (12, false)), .ld (.t 18) 1 false⟩,
    ⟨(some 20), (some (12, false)), .len (.t 19)⟩,
    ⟨(some 21), (some (12, false)), .ib .eql (.t 20) (.c (.int .i64 0))⟩,
    ⟨(some 22), none, .pk (.t 12) (.c (.bool true)) (.t 21)⟩])
  (.cd (.t 22)
  (.sq (.rg [⟨(some 4), none, .mv (.c (.int .i64 0))⟩,
    ⟨(some 5), none, .mv (.c (.slice none 0 0))⟩])
  .rt)
  .sk))
  (.sq (.rd [⟨0, 0, [0], ⟨(some 23), none, .mv (.t 0)⟩⟩,
    ⟨1, 0, [1], ⟨(some 24), none, .mv (.t 1)⟩⟩,
    ⟨2, 1, [23], ⟨(some 25), none, .nc (.t 23)⟩⟩,
    ⟨3, 5, [25], ⟨(some 26), none, .fa (.t 25) 0⟩⟩,
    ⟨4, 15, [26, 24], ⟨(some 27), none, .iaa (.t 26) (.t 24) 3 2⟩⟩,
    ⟨5, 31, [27], ⟨(some 28), none, .fa (.t 27) 0⟩⟩,
    ⟨6, 63, [28], ⟨(some 29), none, .ld (.t 28) 1 false⟩⟩,
    ⟨7, 0, [0], ⟨(some 30), none, .mv (.t 0)⟩⟩,
    ⟨8, 0, [1], ⟨(some 31), none, .mv (.t 1)⟩⟩,
    ⟨9, 128, [30], ⟨(some 32), none, .nc (.t 30)⟩⟩,
    ⟨10, 640, [32], ⟨(some 33), none, .fa (.t 32) 0⟩⟩,
    ⟨11, 1920, [33, 31], ⟨(some 34), none, .iaa (.t 33) (.t 31) 3 2⟩⟩,
    ⟨12, 3968, [34], ⟨(some 35), none, .fa (.t 34) 1⟩⟩,
    ⟨13, 8064, [35], ⟨(some 36), none, .ld (.t 35) 1 false⟩⟩,
    ⟨14, 16256, [36], ⟨(some 37), none, .ca 134 [(.t 36)]⟩⟩,
    ⟨15, 32767, [29], ⟨(some 4), none, .mv (.t 29)⟩⟩,
    ⟨16, 65535, [37], ⟨(some 5), none, .mv (.t 37)⟩⟩])
  .rt)))⟩
theorem k116 : cF Tryz.prog Tryz.f116 = some c116 := by kernel_rfl
/-- rundale/lay.within -/
def c117 : Fu := ⟨15, [.t 6],
  (.sq (.rg [⟨(some 6), none, .mv (.c (.bool false))⟩])
  (.sq (.rg [⟨(some 7), none, .mv (.t 0)⟩,
    ⟨(some 8), none, .mv (.t 1)⟩,
    ⟨(some 9), none, .ib .geq (.t 7) (.t 8)⟩,
    ⟨(some 10), none, .mv (.t 9)⟩,
    ⟨(some 11), (some (10, true)), .mv (.t 0)⟩,
    ⟨(some 12), (some (10, true)), .mv (.t 2)⟩,
    ⟨(some 13), (some (10, true)), .ib .leq (.t 11) (.t 12)⟩,
    ⟨(some 14), none, .pk (.t 10) (.t 13) (.c (.bool false))⟩,
    ⟨(some 6), none, .mv (.t 14)⟩])
  .rt))⟩
theorem k117 : cF Tryz.prog Tryz.f117 = some c117 := by kernel_rfl
/-- rundale/epoch.New$1 -/
def c118 : Fu := ⟨12, [.t 3],
  (.sq (.rg [⟨(some 3), none, .mv (.c (.bool false))⟩])
  (.sq (.rg [⟨(some 4), none, .mv (.t 0)⟩,
    ⟨(some 5), none, .ib .geq (.t 4) (.c (.int .i64 0))⟩,
    ⟨(some 6), none, .mv (.t 5)⟩,
    ⟨(some 7), (some (6, true)), .mv (.t 0)⟩,
    ⟨(some 8), (some (6, true)), .ld (.t 1) 1 false⟩,
    ⟨(some 9), (some (6, true)), .ca 58 [(.t 8)]⟩,
    ⟨(some 10), (some (6, true)), .ib .lss (.t 7) (.t 9)⟩,
    ⟨(some 11), none, .pk (.t 6) (.t 10) (.c (.bool false))⟩,
    ⟨(some 3), none, .mv (.t 11)⟩])
  .rt))⟩
theorem k118 : cF Tryz.prog Tryz.f118 = some c118 := by kernel_rfl
/-- rundale/stash.New -/
def c119 : Fu := ⟨8, [.t 2],
  (.sq (.rg [⟨(some 2), none, .mv (.c (.pointer none))⟩])
  (.sq (.rg [⟨(some 3), none, .mv (.t 0)⟩,
    ⟨(some 4), none, .mm true (.t 3) (.c (.int .i64 0))⟩,
    ⟨(some 5), none, .mm false (.t 4) (.c (.int .i64 64))⟩,
    ⟨(some 6), none, .bd [(.int .i64 0), (.slice none 0 0)] [(0, 1, (.t 5))]⟩,
    ⟨(some 7), none, .bx 204 (.t 6)⟩,
    ⟨(some 2), none, .mv (.t 7)⟩])
  .rt))⟩
theorem k119 : cF Tryz.prog Tryz.f119 = some c119 := by kernel_rfl
/-- rundale/limbo.New -/
def c120 : Fu := ⟨3, [.t 0],
  (.sq (.rg [⟨(some 0), none, .mv (.c (.pointer none))⟩])
  (.sq (.rg [⟨(some 1), none, .bd [(.int .i64 0), (.slice none 0 0), (.int .i64 0), (.slice none 0 0), (.int .i64 0), (.slice none 0 0), (.int .i64 0)] []⟩,
    ⟨(some 2), none, .bx 230 (.t 1)⟩,
    ⟨(some 0), none, .mv (.t 2)⟩])
  .rt))⟩
theorem k120 : cF Tryz.prog Tryz.f120 = some c120 := by kernel_rfl
/-- (*rundale/supply.Take).kept -/
def c121 : Fu := ⟨24, [.t 2],
  (.sq (.rg [⟨(some 2), none, .mv (.c (.bool false))⟩])
  (.sq (.rg [⟨(some 4), none, .mv (.t 0)⟩,
    ⟨(some 5), none, .mv (.t 0)⟩,
    ⟨(some 6), none, .mv (.t 0)⟩,
    ⟨(some 7), none, .nc (.t 6)⟩,
    ⟨(some 8), none, .fa (.t 7) 5⟩,
    ⟨(some 9), none, .ld (.t 8) 1 false⟩,
    ⟨(some 10), none, .nc (.t 9)⟩,
    ⟨(some 11), none, .fa (.t 10) 8⟩,
    ⟨(some 12), none, .ld (.t 11) 1 false⟩,
    ⟨(some 13), none, .ca 162 [(.t 12)]⟩,
    ⟨(some 3), none, .mv (.t 13)⟩,
    ⟨(some 14), none, .ex (.t 3) 0⟩,
    ⟨(some 15), none, .ex (.t 3) 1⟩,
    ⟨(some 16), none, .nc (.t 4)⟩,
    ⟨(some 17), none, .fa (.t 16) 7⟩,
    ⟨none, none, .st (.t 17) (.t 14) 1⟩,
    ⟨(some 18), none, .nc (.t 5)⟩,
    ⟨(some 19), none, .fa (.t 18) 9⟩,
    ⟨none, none, .st (.t 19) (.t 15) 1⟩])
  (.sq (.rg [⟨(some 20), none, .mv (.t 0)⟩,
    ⟨(some 21), none, .nc (.t 20)⟩,
    ⟨(some 22), none, .fa (.t 21) 9⟩,
    ⟨(some 23), none, .ld (.t 22) 1 false⟩,
    ⟨(some 2), none, .mv (.t 23)⟩])
  .rt)))⟩
theorem k121 : cF Tryz.prog Tryz.f121 = some c121 := by kernel_rfl
/-- (*rundale/limbo.Limbo).Len -/
def c122 : Fu := ⟨20, [.t 2],
  (.sq (.rg [⟨(some 2), none, .mv (.c (.int .i64 0))⟩])
  (.sq (.rg [⟨(some 3), none, .mv (.c (.int .i64 0))⟩])
  (.sq (.sq (.rg [⟨(some 6), none, .mv (.t 0)⟩,
    ⟨(some 7), none, .nc (.t 6)⟩,
    ⟨(some 8), none, .fa (.t 7) 0⟩,
    ⟨(some 9), none, .ld (.t 8) 6 true⟩,
    ⟨(some 10), none, .mv (.c (.int .i64 0))⟩])
  (.bl 0
  (.lp
  (.sq (.rg [⟨(some 11), none, .ib .lss (.t 10) (.c (.int .i64 3))⟩])
  (.sq (.cd (.t 11)
  .sk
  (.ex 0))
  (.sq (.bl 1
  (.sq (.rg [⟨(some 12), none, .iv (.t 9) (.t 10) 3 2 true⟩,
    ⟨(some 5), none, .al 227 [(.int .i64 0), (.slice none 0 0)]⟩,
    ⟨none, none, .st (.t 5) (.t 12) 2⟩])
  (.rg [⟨(some 13), none, .mv (.t 3)⟩,
    ⟨(some 14), none, .fa (.t 5) 1⟩,
    ⟨(some 15), none, .ld (.t 14) 1 false⟩,
    ⟨(some 16), none, .len (.t 15)⟩,
    ⟨(some 17), none, .ib .add (.t 13) (.t 16)⟩,
    ⟨(some 3), none, .mv (.t 17)⟩])))
  (.rg [⟨(some 18), none, .ib .add (.t 10) (.c (.int .i64 1))⟩,
    ⟨(some 10), none, .mv (.t 18)⟩])))))))
  (.sq (.rg [⟨(some 19), none, .mv (.t 3)⟩,
    ⟨(some 2), none, .mv (.t 19)⟩])
  .rt))))⟩
theorem k122 : cF Tryz.prog Tryz.f122 = some c122 := by kernel_rfl
end Go.Proofs.YtnbkjcmmjgkdaaaGreat
