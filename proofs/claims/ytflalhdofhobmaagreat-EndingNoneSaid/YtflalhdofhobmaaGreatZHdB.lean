/-
  Parts of the proof, merged: what the statement leans on.
-/
import Derived.Test.YtflalhdofhobmaaGreatProg
import Derived.KernelRfl
import Derived.Test.YtflalhdofhobmaaGreatZHdA
/-
  Regions that draw their order, in which operations turn the memory: where whatever looks at the memory is held apart from whatever turns it, one order will do.
-/
set_option linter.unusedVariables false
set_option linter.unusedSimpArgs false
namespace Go.Proofs.YtflalhdofhobmaaGreat
open Go
section
variable {P : Program} {N : Nat} {L F : St}
/-- One operation, whatever it does to what is known of the memory. -/
def Se (P : Program) (N : Nat) (g : G) (e : En) (L : St) (R : Value → St → Prop) : Prop := ∀ K : En → St → Prop, (∀ v L', R v L' → K (e.put g.d v) L') → Sx P N [g] e K L
/-- An order, told. ms: what has looked at the memory, and of which memories what it came to holds. -/
inductive Ev (P : Program) (N : Nat) (Kf : En → St → Prop) : List It → List (Nat × (St → Prop)) → En → St → Prop
  | nil {ms : List (Nat × (St → Prop))} {e : En} {L : St} (h : Kf e L) : Ev P N Kf [] ms e L
  | free {rem : List It} {ms : List (Nat × (St → Prop))} {e : En} {L : St} (x : It) (hx : x ∈ rem) (v : Value) (h : ∀ L e', sub (e.only x.rs) e' → Sc P N x.g e' v L) (k : Ev P N Kf (without rem x.i) ms (e.put x.g.d v) L) : Ev P N Kf rem ms e L
  | looks {rem : List It} {ms : List (Nat × (St → Prop))} {e : En} {L : St} (x : It) (hx : x ∈ rem) (v : Value) (Φ : St → Prop) (hΦ : Φ L) (h : ∀ M, Φ M → ∀ e', sub (e.only x.rs) e' → Sc P N x.g e' v M) (k : Ev P N Kf (without rem x.i) ((x.i, Φ) :: ms) (e.put x.g.d v) L) : Ev P N Kf rem ms e L
  | turns {rem : List It} {ms : List (Nat × (St → Prop))} {e : En} {L : St} (x : It) (hx : x ∈ rem) (R : Value → St → Prop) (h1 : (without rem x.i).all (fun y => bit y.ds x.i) = true) (h2 : ∀ q ∈ ms, bit x.ds q.1 = true ∨ ∀ v L', R v L' → q.2 L')
      (h : ∀ e', sub (e.only x.rs) e' → Se P N x.g e' L R) (k : ∀ v L', R v L' → Ev P N Kf (without rem x.i) ms (e.put x.g.d v) L') : Ev P N Kf rem ms e L
/-- What has been told ahead of its time. -/
structure Told (P : Program) (N : Nat) (ms : List (Nat × (St → Prop))) (e : En) (L : St) (p : It × Value) : Prop where
  hv : ∀ d, p.1.g.d = some d → e.get d = some p.2
  hs : (∀ L e', (∀ t ∈ p.1.rs, ∀ u, e.get t = some u → e'.get t = some u) → Sc P N p.1.g e' p.2 L) ∨
    ∃ Φ, (p.1.i, Φ) ∈ ms ∧ Φ L ∧ ∀ M, Φ M → ∀ e', (∀ t ∈ p.1.rs, ∀ u, e.get t = some u → e'.get t = some u) → Sc P N p.1.g e' p.2 M
def okN : List It → Bool
  | [] => true
  | x :: r => r.all (fun y => dOK y.g.d (match x.g.d with | some d => [d] | none => [])) && okN r
theorem okN_iff : ∀ {l : List It}, okN l = true → ∀ x ∈ l, ∀ y ∈ l, ∀ d, x.g.d = some d → y.g.d = some d → x = y
  | [], _, x, hx => by cases hx
  | a :: r, h, x, hx => by
    simp only [okN, Bool.and_eq_true, List.all_eq_true] at h
    intro y hy d hdx hdy
    rcases List.mem_cons.1 hx with rfl | hxr <;> rcases List.mem_cons.1 hy with rfl | hyr
    · rfl
    · have := dOK_iff (h.1 y hyr) d hdy
      rw [hdx] at this; simp at this
    · have := dOK_iff (h.1 x hxr) d hdx
      rw [hdy] at this; simp at this
    · exact okN_iff h.2 x hxr y hyr d hdx hdy
theorem without_app (U tl : List It) (i : Nat) (h : ∀ y ∈ tl, y.i ≠ i) : without (U ++ tl) i = without U i ++ tl := by
  unfold without
  rw [List.filter_append]
  congr 1
  rw [List.filter_eq_self]
  intro y hy
  have := h y hy
  cases hb : Nat.beq y.i i with
  | true => exact absurd (Nat.eq_of_beq_eq_true hb) this
  | false => rfl
theorem split_ready {all tl U : List It} {x : It} (htl : ∀ y ∈ tl, ∀ x ∈ all, bit y.ds x.i = true ∧ y.i ≠ x.i) (hUa : ∀ x ∈ U, x ∈ all) (hU : U ≠ []) (hx : x ∈ readies (U ++ tl)) : x ∈ U ∧ ready x U = true ∧ without (U ++ tl) x.i = without U x.i ++ tl := by
  have h1 : x ∈ U ++ tl ∧ ready x (U ++ tl) = true := by simpa only [readies, List.mem_filter] using hx
  have h2 : ∀ z ∈ U ++ tl, bit x.ds z.i = false := by
    have := h1.2
    simp only [ready, List.all_eq_true] at this
    exact fun z hz => by simpa using this z hz
  have hxU : x ∈ U := by
    rcases List.mem_append.1 h1.1 with h | h
    · exact h
    · obtain ⟨z, hz⟩ := List.exists_mem_of_ne_nil U hU
      have h3 := (htl x h z (hUa z hz)).1
      rw [h2 z (by simp [hz])] at h3; cases h3
  refine ⟨hxU, ?_, without_app U tl x.i fun y hy => (htl y hy x (hUa x hxU)).2⟩
  simp only [ready, List.all_eq_true]
  exact fun z hz => by rw [h2 z (by simp [hz])]; rfl
theorem ev_runT {all tl : List It} {Kf Kt : En → St → Prop} (hi : okI 0 all = true) (hd : okD all = true) (hn : okN all = true) (htl : ∀ y ∈ tl, ∀ x ∈ all, bit y.ds x.i = true ∧ y.i ≠ x.i) (hK : ∀ e e' L, sub e e' → Kf e L → Rx P N tl [] (fun _ => True) e' Kt L) :
    ∀ (n : Nat) (rem : List It) (ms : List (Nat × (St → Prop))) (e : En) (L : St), Ev P N Kf rem ms e L → ∀ (T : List (It × Value)) (U : List It) (e' : En), U.length = n → (∀ x ∈ U, x ∈ all) → (∀ x, x ∈ U ↔ (∃ v, (x, v) ∈ T) ∨ x ∈ rem) →
      (∀ p ∈ T, p.1 ∉ rem) → (∀ p ∈ T, Told P N ms e L p) → (∀ y ∈ rem, ∀ d, y.g.d = some d → e.get d = none) →
      (∀ t u, e.get t = some u → (∀ p ∈ T, p.1.g.d ≠ some t) → e'.get t = some u) → Rx P N (U ++ tl) [] (fun _ => True) e' Kt L := by
  intro n
  induction n using Nat.strongRecOn with
  | _ n ihn =>
    have inj : ∀ x ∈ all, ∀ y ∈ all, x.i = y.i → x = y := fun x hx y hy h => (okI_inj hi x hx).2 y hy h
    -- one of those that were told comes
    have come : ∀ (rem : List It) (ms : List (Nat × (St → Prop))) (e : En) (L : St), Ev P N Kf rem ms e L → ∀ (T : List (It × Value)) (U : List It) (e' : En), U.length = n → (∀ x ∈ U, x ∈ all) → (∀ x, x ∈ U ↔ (∃ v, (x, v) ∈ T) ∨ x ∈ rem) →
        (∀ p ∈ T, p.1 ∉ rem) → (∀ p ∈ T, Told P N ms e L p) → (∀ y ∈ rem, ∀ d, y.g.d = some d → e.get d = none) → (∀ t u, e.get t = some u → (∀ p ∈ T, p.1.g.d ≠ some t) → e'.get t = some u) →
        ∀ x v, (x, v) ∈ T → ready x U = true → Sx P N [x.g] e' (fun e' L' => True ∧ Rx P N (without U x.i ++ tl) [] (fun _ => True) e' Kt L') L := by
      intro rem ms e L hev T U e' hU hUa hUm hTr hT hfr he x v hxv hrd
      have hxU : x ∈ U := (hUm x).2 (.inl ⟨v, hxv⟩)
      have hrd' : ∀ y ∈ U, bit x.ds y.i = false := by simpa [ready] using hrd
      have hto := hT _ hxv
      have hfacts : ∀ t ∈ x.rs, ∀ u, e.get t = some u → e'.get t = some u := by
        intro t ht u hu
        refine he t u hu fun p hp hpd => ?_
        have hpU : p.1 ∈ U := (hUm p.1).2 (.inl ⟨p.2, hp⟩)
        simp only [okD, List.all_eq_true, Bool.or_eq_true] at hd
        rcases hd x (hUa x hxU) p.1 (hUa _ hpU) with h | h
        · exact dOK_iff h t hpd ht
        · rw [hrd' _ hpU] at h; cases h
      have hS : Sc P N x.g e' v L := by
        rcases hto.hs with h | ⟨Φ, _, hΦ, h⟩
        · exact h L e' hfacts
        · exact h L hΦ e' hfacts
      refine hS _ ⟨trivial, ?_⟩
      have hlt := without_lt hxU
      refine ihn (without U x.i).length (by omega) rem ms e L hev (T.filter fun p => !(Nat.beq p.1.i x.i)) (without U x.i) _ rfl (fun y hy => hUa y (mem_without.1 hy).1) (fun y => ?_) (fun p hp => hTr p ((List.mem_filter.1 hp).1)) (fun p hp => hT p ((List.mem_filter.1 hp).1)) hfr fun t u ht hw => ?_
      · rw [mem_without, hUm]
        constructor
        · rintro ⟨⟨w, hw⟩ | h, hne⟩
          · refine .inl ⟨w, List.mem_filter.2 ⟨hw, ?_⟩⟩
            cases hb : Nat.beq y.i x.i with
            | false => rfl
            | true => exact absurd (Nat.eq_of_beq_eq_true hb) hne
          · exact .inr h
        · rintro (⟨w, hw⟩ | h)
          · obtain ⟨h1, h2⟩ := List.mem_filter.1 hw
            exact ⟨.inl ⟨w, h1⟩, fun hh => by simp [hh] at h2⟩
          · refine ⟨.inr h, fun hh => ?_⟩
            have hyx := inj y (hUa y ((hUm y).2 (.inr h))) x (hUa x hxU) hh
            subst hyx
            exact hTr _ hxv h
      · by_cases hxt : x.g.d = some t
        · have h1 := hto.hv t hxt
          rw [ht] at h1
          rw [hxt, put_eq]; exact h1.symm
        · rw [put_ne hxt]
          refine he t u ht fun p hp hpd => ?_
          by_cases hpx : p.1.i = x.i
          · have := inj p.1 (hUa _ ((hUm p.1).2 (.inl ⟨p.2, hp⟩))) x (hUa x hxU) hpx
            rw [this] at hpd; exact hxt hpd
          · refine hw p (List.mem_filter.2 ⟨hp, ?_⟩) hpd
            cases hb : Nat.beq p.1.i x.i with
            | false => rfl
            | true => exact absurd (Nat.eq_of_beq_eq_true hb) hpx
    -- telling one more
    have tell : ∀ {rem : List It} {ms ms' : List (Nat × (St → Prop))} {e : En} {L : St} {x : It} {v : Value} {T : List (It × Value)} {U : List It} {e' : En}, x ∈ rem → (∀ x ∈ U, x ∈ all) → (∀ x, x ∈ U ↔ (∃ v, (x, v) ∈ T) ∨ x ∈ rem) → (∀ p ∈ T, p.1 ∉ rem) →
        (∀ p ∈ T, Told P N ms e L p) → (∀ y ∈ rem, ∀ d, y.g.d = some d → e.get d = none) → (∀ q ∈ ms, q ∈ ms') →
        (∀ p ∈ T, Told P N ms' (e.put x.g.d v) L p) ∧ (∀ y ∈ without rem x.i, ∀ d, y.g.d = some d → (e.put x.g.d v).get d = none) := by
      intro rem ms ms' e L x v T U e' hx hUa hUm hTr hT hfr hms
      have hxa := hUa x ((hUm x).2 (.inr hx))
      refine ⟨fun p hp => ?_, fun y hy d hyd => ?_⟩
      · have hpa := hUa p.1 ((hUm p.1).2 (.inl ⟨p.2, hp⟩))
        have hpx : p.1 ≠ x := fun h => hTr p hp (by rw [h]; exact hx)
        have hto := hT p hp
        have hst : ∀ e' : En, (∀ t ∈ p.1.rs, ∀ u, (e.put x.g.d v).get t = some u → e'.get t = some u) → ∀ t ∈ p.1.rs, ∀ u, e.get t = some u → e'.get t = some u := by
          intro e' h t ht u hu
          refine h t ht u ?_
          rw [put_ne (fun hxt => by rw [hfr x hx t hxt] at hu; cases hu)]
          exact hu
        refine ⟨fun d hpd => ?_, ?_⟩
        · rw [put_ne (fun hxd => hpx (okN_iff hn p.1 hpa x hxa d hpd hxd))]
          exact hto.hv d hpd
        · rcases hto.hs with h | ⟨Φ, h1, hΦ, h⟩
          · exact .inl fun L e' he => h L e' (hst e' he)
          · exact .inr ⟨Φ, hms _ h1, hΦ, fun M hM e' he => h M hM e' (hst e' he)⟩
      · obtain ⟨hy1, hy2⟩ := mem_without.1 hy
        rw [put_ne (fun hxd => hy2 (by rw [okN_iff hn y (hUa y ((hUm y).2 (.inr hy1))) x hxa d hyd hxd]))]
        exact hfr y hy1 d hyd
    intro rem ms e L hev
    induction hev with
    | @nil ms e L hk =>
      intro T U e' hU hUa hUm hTr hT hfr he
      by_cases hU0 : U = []
      · subst hU0
        refine hK e e' L (fun t u ht => he t u ht fun p hp => ?_) hk
        have : p.1 ∈ ([] : List It) := (hUm p.1).2 (.inl ⟨p.2, hp⟩)
        cases this
      · refine Rx.all (fun h0 => absurd (List.append_eq_nil_iff.1 h0).1 hU0) fun x hx => ⟨by simp, ?_⟩
        obtain ⟨hx1, hx2, hx3⟩ := split_ready htl hUa hU0 hx
        rw [hx3]
        rcases (hUm x).1 hx1 with ⟨v, hv⟩ | h
        · exact come [] ms e L (.nil hk) T U e' hU hUa hUm hTr hT hfr he x v hv hx2
        · cases h
    | @free rem ms e L x hx v h k ih =>
      intro T U e' hU hUa hUm hTr hT hfr he
      obtain ⟨t1, t2⟩ := tell (v := v) (e' := e') hx hUa hUm hTr hT hfr (fun _ h => h)
      refine ih ((x, v) :: T) U e' hU hUa (fun y => ?_) (fun p hp => ?_) (fun p hp => ?_) t2 fun t u ht hw => ?_
      · rw [hUm]
        constructor
        · rintro (⟨w, hw⟩ | hy)
          · exact .inl ⟨w, List.mem_cons_of_mem _ hw⟩
          · by_cases hyx : y = x
            · exact .inl ⟨v, by rw [hyx]; simp⟩
            · exact .inr (mem_without.2 ⟨hy, fun hh => hyx (inj y (hUa y ((hUm y).2 (.inr hy))) x (hUa x ((hUm x).2 (.inr hx))) hh)⟩)
        · rintro (⟨w, hw⟩ | hy)
          · rcases List.mem_cons.1 hw with h1 | h1
            · cases h1; exact .inr hx
            · exact .inl ⟨w, h1⟩
          · exact .inr (mem_without.1 hy).1
      · rcases List.mem_cons.1 hp with rfl | h1
        · exact fun hh => (mem_without.1 hh).2 rfl
        · exact fun hh => hTr p h1 (mem_without.1 hh).1
      · rcases List.mem_cons.1 hp with rfl | h1
        · refine ⟨fun d hd => by rw [show x.g.d = some d from hd]; exact put_eq, .inl fun L e2 h2 => h L e2 fun t u ht => ?_⟩
          obtain ⟨htr, hu⟩ := only_get ht
          refine h2 t htr u ?_
          rw [put_ne (fun hxt => by rw [hfr x hx t hxt] at hu; cases hu)]
          exact hu
        · exact t1 p h1
      · have hxt : x.g.d ≠ some t := hw (x, v) (by simp)
        rw [put_ne hxt] at ht
        exact he t u ht fun p hp => hw p (List.mem_cons_of_mem _ hp)
    | @looks rem ms e L x hx v Φ hΦ h k ih =>
      intro T U e' hU hUa hUm hTr hT hfr he
      obtain ⟨t1, t2⟩ := tell (v := v) (e' := e') hx hUa hUm hTr hT hfr (fun _ h => List.mem_cons_of_mem (x.i, Φ) h)
      refine ih ((x, v) :: T) U e' hU hUa (fun y => ?_) (fun p hp => ?_) (fun p hp => ?_) t2 fun t u ht hw => ?_
      · rw [hUm]
        constructor
        · rintro (⟨w, hw⟩ | hy)
          · exact .inl ⟨w, List.mem_cons_of_mem _ hw⟩
          · by_cases hyx : y = x
            · exact .inl ⟨v, by rw [hyx]; simp⟩
            · exact .inr (mem_without.2 ⟨hy, fun hh => hyx (inj y (hUa y ((hUm y).2 (.inr hy))) x (hUa x ((hUm x).2 (.inr hx))) hh)⟩)
        · rintro (⟨w, hw⟩ | hy)
          · rcases List.mem_cons.1 hw with h1 | h1
            · cases h1; exact .inr hx
            · exact .inl ⟨w, h1⟩
          · exact .inr (mem_without.1 hy).1
      · rcases List.mem_cons.1 hp with rfl | h1
        · exact fun hh => (mem_without.1 hh).2 rfl
        · exact fun hh => hTr p h1 (mem_without.1 hh).1
      · rcases List.mem_cons.1 hp with rfl | h1
        · refine ⟨fun d hd => by rw [show x.g.d = some d from hd]; exact put_eq, .inr ⟨Φ, by simp, hΦ, fun M hM e2 h2 => h M hM e2 fun t u ht => ?_⟩⟩
          obtain ⟨htr, hu⟩ := only_get ht
          refine h2 t htr u ?_
          rw [put_ne (fun hxt => by rw [hfr x hx t hxt] at hu; cases hu)]
          exact hu
        · exact t1 p h1
      · have hxt : x.g.d ≠ some t := hw (x, v) (by simp)
        rw [put_ne hxt] at ht
        exact he t u ht fun p hp => hw p (List.mem_cons_of_mem _ hp)
    | @turns rem ms e L x hx R h1 h2 h k ih =>
      intro T U e' hU hUa hUm hTr hT hfr he
      have hxU : x ∈ U := (hUm x).2 (.inr hx)
      have hU0 : U ≠ [] := fun h0 => by rw [h0] at hxU; cases hxU
      refine Rx.all (fun h0 => absurd (List.append_eq_nil_iff.1 h0).1 hU0) fun y hy => ⟨by simp, ?_⟩
      obtain ⟨hyA, hyB, hyC⟩ := split_ready htl hUa hU0 hy
      rw [hyC]
      have hy1 : y ∈ U ∧ ready y U = true := ⟨hyA, hyB⟩
      have hrd : ∀ z ∈ U, bit y.ds z.i = false := by simpa [ready] using hy1.2
      rcases (hUm y).1 hy1.1 with ⟨v, hv⟩ | hyr
      · exact come rem ms e L (.turns x hx R h1 h2 h k) T U e' hU hUa hUm hTr hT hfr he y v hv hy1.2
      · by_cases hyx : y = x
        · subst hyx
          have hpure : ∀ p ∈ T, ∀ Φ, (p.1.i, Φ) ∈ ms → ∀ v L', R v L' → Φ L' := by
            intro p hp Φ hm
            rcases h2 _ hm with hb | hb
            · have hpU : p.1 ∈ U := (hUm p.1).2 (.inl ⟨p.2, hp⟩)
              rw [hrd _ hpU] at hb; cases hb
            · exact hb
          have hsub : sub (e.only y.rs) e' := by
            intro t u ht
            obtain ⟨htr, hu⟩ := only_get ht
            refine he t u hu fun p hp hpd => ?_
            have hpU : p.1 ∈ U := (hUm p.1).2 (.inl ⟨p.2, hp⟩)
            simp only [okD, List.all_eq_true, Bool.or_eq_true] at hd
            rcases hd y (hUa y hxU) p.1 (hUa _ hpU) with hh | hh
            · exact dOK_iff hh t hpd htr
            · rw [hrd _ hpU] at hh; cases hh
          refine h e' hsub _ fun v L' hR => ⟨trivial, ?_⟩
          have hlt := without_lt hxU
          obtain ⟨t1, t2⟩ := tell (v := v) (e' := e') hx hUa hUm hTr hT hfr (fun _ h => h)
          refine ihn (without U y.i).length (by omega) (without rem y.i) ms _ L' (k v L' hR) T (without U y.i) _ rfl (fun z hz => hUa z (mem_without.1 hz).1) (fun z => ?_) (fun p hp hh => hTr p hp (mem_without.1 hh).1) (fun p hp => ?_) t2 fun t u ht hw => ?_
          · rw [mem_without, mem_without, hUm]
            constructor
            · rintro ⟨⟨w, hw⟩ | hz, hne⟩
              · exact .inl ⟨w, hw⟩
              · exact .inr ⟨hz, hne⟩
            · rintro (⟨w, hw⟩ | ⟨hz, hne⟩)
              · refine ⟨.inl ⟨w, hw⟩, fun hh => ?_⟩
                have := inj z (hUa z ((hUm z).2 (.inl ⟨w, hw⟩))) y (hUa y hxU) hh
                subst this
                exact hTr _ hw hx
              · exact ⟨.inr hz, hne⟩
          · have hto := t1 p hp
            refine ⟨hto.hv, ?_⟩
            rcases hto.hs with hh | ⟨Φ, hm, _, hh⟩
            · exact .inl hh
            · exact .inr ⟨Φ, hm, hpure p hp Φ hm v L' hR, hh⟩
          · by_cases hyt : y.g.d = some t
            · rw [hyt] at ht ⊢
              rw [put_eq] at ht ⊢; exact ht
            · rw [put_ne hyt] at ht ⊢
              exact he t u ht hw
        · have hb := List.all_eq_true.1 h1 y (mem_without.2 ⟨hyr, fun hh => hyx (inj y (hUa y hy1.1) x (hUa x hxU) hh)⟩)
          rw [hrd x hxU] at hb; cases hb
theorem ev_run {all : List It} {Kf : En → St → Prop} (hi : okI 0 all = true) (hd : okD all = true) (hn : okN all = true) (hK : ∀ e e' L, sub e e' → Kf e L → Kf e' L) :
    ∀ (n : Nat) (rem : List It) (ms : List (Nat × (St → Prop))) (e : En) (L : St), Ev P N Kf rem ms e L → ∀ (T : List (It × Value)) (U : List It) (e' : En), U.length = n → (∀ x ∈ U, x ∈ all) → (∀ x, x ∈ U ↔ (∃ v, (x, v) ∈ T) ∨ x ∈ rem) →
      (∀ p ∈ T, p.1 ∉ rem) → (∀ p ∈ T, Told P N ms e L p) → (∀ y ∈ rem, ∀ d, y.g.d = some d → e.get d = none) →
      (∀ t u, e.get t = some u → (∀ p ∈ T, p.1.g.d ≠ some t) → e'.get t = some u) → Rx P N U [] (fun _ => True) e' Kf L := by
  intro n rem ms e L h T U e' h1 h2 h3 h4 h5 h6 h7
  have := ev_runT (tl := []) (Kt := Kf) hi hd hn (fun y hy => by cases hy) (fun e e' L hs hk => Rx.all (fun _ => hK e e' L hs hk) fun x hx => by simp [readies] at hx) n rem ms e L h T U e' h1 h2 h3 h4 h5 h6 h7
  rwa [List.append_nil] at this
/-- What is known, but for what is to be written. -/
def En.clear (e : En) (l : List It) : En := e.filter fun p => l.all fun y => match y.g.d with | some d => !(Nat.beq d p.1) | none => true
theorem clear_get {l : List It} : ∀ {e : En} {t : Nat} {u : Value}, (e.clear l).get t = some u → (∀ y ∈ l, y.g.d ≠ some t) ∧ (e.get t = some u ∨ ∃ w, e.get t = some w)
  | [], t, u, h => by simp [En.clear, En.get] at h
  | (i, v) :: e, t, u, h => by
    unfold En.clear at h
    rw [List.filter_cons] at h
    split at h
    · rename_i hk
      simp only [En.get] at h ⊢
      cases hb : Nat.beq i t with
      | true =>
        rw [hb, cond_true] at h
        have hit := Nat.eq_of_beq_eq_true hb
        subst hit
        refine ⟨fun y hy hyd => ?_, .inl h⟩
        have := List.all_eq_true.1 hk y hy
        rw [hyd] at this
        simp at this
      | false =>
        rw [hb, cond_false] at h
        simpa using clear_get (e := e) h
    · simp only [En.get]
      have h1 := clear_get (e := e) h
      refine ⟨h1.1, ?_⟩
      cases hb : Nat.beq i t with
      | true => exact .inr ⟨v, rfl⟩
      | false => simpa using h1.2
theorem clear_sub {l : List It} : ∀ {e : En} {t : Nat} {u : Value}, (e.clear l).get t = some u → e.get t = some u
  | [], t, u, h => by simp [En.clear, En.get] at h
  | (i, v) :: e, t, u, h => by
    have hno := (clear_get h).1
    unfold En.clear at h
    rw [List.filter_cons] at h
    split at h
    · simp only [En.get] at h ⊢
      cases hb : Nat.beq i t with
      | true => rw [hb, cond_true] at h; rw [cond_true]; exact h
      | false => rw [hb, cond_false] at h; rw [cond_false]; exact clear_sub (e := e) h
    · rename_i hk
      have h1 := clear_sub (e := e) h
      simp only [En.get]
      cases hb : Nat.beq i t with
      | false => exact h1
      | true =>
        exfalso
        have hit := Nat.eq_of_beq_eq_true hb
        subst hit
        refine hk (List.all_eq_true.2 fun y hy => ?_)
        cases hyd : y.g.d with
        | none => rfl
        | some d =>
          simp only [Bool.not_eq_true']
          cases hb2 : Nat.beq d i with
          | false => rfl
          | true => exact absurd (by rw [hyd, Nat.eq_of_beq_eq_true hb2]) (hno y hy)
def chkO (l : List It) : Bool := okI 0 l && (okD l && okN l)
theorem Cx.ord {l : List It} {e : En} {d : C} {K : Kx} (hc : chkO l = true) (h : Ev P N (fun fin L => Cx P N d fin K L) l [] (e.clear l) L) : Cx P N (.rd l) e (Ksq P N d K) L := by
  simp only [chkO, Bool.and_eq_true] at hc
  refine Cx.rd ?_
  refine ev_run (Kf := Krg (Ksq P N d K)) hc.1 hc.2.1 hc.2.2 (fun e e' L hs hk => Cx.less hs hk) l.length l [] (e.clear l) L h [] l e rfl (fun _ h => h) (fun x => by simp) (fun _ h => by cases h) (fun _ h => by cases h) (fun y hy d hyd => ?_) (fun t u ht _ => clear_sub ht)
  cases hg : (e.clear l).get d with
  | none => rfl
  | some u => exact absurd hyd ((clear_get hg).1 y hy)
section
variable {Kf : En → St → Prop} {e : En} {rem rem' : List It} {ms : List (Nat × (St → Prop))} {i ds : Nat} {rs : List Nat} {d : Option Nat} {g : Option (Nat × Bool)}
theorem Sc_step {x : It} {v : Value} (h : stepM x e = some v) : ∀ L e', sub (e.only x.rs) e' → Sc P N x.g e' v L := by
  intro L e' hs
  obtain ⟨i, ds, rs, d, g, s⟩ := x
  unfold stepM at h
  simp only at h hs
  cases hg : gon (e.only rs) g with
  | true =>
    rw [hg, cond_true] at h
    cases hp : plainP s with
    | false => rw [hp] at h; cases h
    | true =>
      rw [hp, cond_true] at h
      split at h
      · rename_i φ u hu
        cases h
        exact .gon hg hs (.pv hu (plainP_pv hp hu) hs)
      · cases h
  | false =>
    rw [hg, cond_false] at h
    split at h
    · rename_i t b
      cases hb : offs (e.only rs) t b with
      | true =>
        rw [hb, cond_true] at h; cases h
        refine fun K k => Sx.off (t := t) (b := b) ?_ (Sx.nil k)
        unfold offs at hb ⊢
        cases h1 : (e.only rs).get t with
        | none => rw [h1] at hb; simp at hb
        | some u => rw [hs _ _ h1]; rw [h1] at hb; exact hb
      | false => rw [hb] at h; cases h
    · cases h
theorem Ev.done {c : C} {K : Kx} (h : Cx P N c e K L) : Ev P N (fun fin L => Cx P N c fin K L) [] ms e L := .nil h
/-- One plain operation. -/
theorem Ev.stp {x : It} {v : Value} (hx : x ∈ rem) (h : stepM x e = some v) (k : Ev P N Kf (without rem x.i) ms (e.put x.g.d v) L) : Ev P N Kf rem ms e L := .free x hx v (Sc_step h) k
/-- Looking through the list from place j on, so often. -/
def scanE : Nat → Nat → List It → En → Option (List It × En)
  | 0, _, _, _ => none
  | n + 1, j, rem, e => match rem[j]? with
    | some x => match stepM x e with
      | some v => match scanE n j (without rem x.i) (e.put x.g.d v) with
        | some q => some q
        | none => some (without rem x.i, e.put x.g.d v)
      | none => scanE n (j + 1) rem e
    | none => none
theorem Ev.pvs : ∀ {n j : Nat} {rem rem' : List It} {e e' : En}, scanE n j rem e = some (rem', e') → Ev P N Kf rem' ms e' L → Ev P N Kf rem ms e L
  | 0, _, _, _, _, _, h, _ => by cases h
  | n + 1, j, rem, rem', e, e', h, k => by
    simp only [scanE] at h
    split at h
    · rename_i x hx
      split at h
      · rename_i v hv
        split at h
        · rename_i q hq
          cases h
          exact Ev.stp (List.mem_of_getElem? hx) hv (Ev.pvs hq k)
        · cases h
          exact Ev.stp (List.mem_of_getElem? hx) hv k
      · exact Ev.pvs h k
    · cases h
end
end
end Go.Proofs.YtflalhdofhobmaaGreat

/-
  The functions' small code, as a program printed it off the translation; each held against the model's own code by the kernel.
-/
namespace Go.Proofs.YtflalhdofhobmaaGreat
open Go
set_option maxRecDepth 100000
/-- rundale/rundalelaw14.GrantArgs -/
def c3 : Fu := ⟨206, [.t 6],
  (.sq (.rg [⟨(some 6), none, .mv (.c (.bool false))⟩])
  (.sq (.rg [⟨(some 26), none, .ca 12 []⟩,
    ⟨(some 7), none, .mv (.t 26)⟩])
  (.sq (.sq (.rg [⟨(some 27), none, .mv (.t 7)⟩,
    ⟨(some 28), none, .nt (.t 27)⟩])
  (.cd (.t 28)
  (.sq (.rg [⟨(some 6), none, .mv (.c (.bool false))⟩])
  .rt)
  .sk))
  (.sq (.rg [⟨(some 29), none, .mv (.t 0)⟩,
    ⟨(some 30), none, .ca 13 [(.t 29)]⟩,
    ⟨(some 8), none, .al 24 [(.int .i64 0), (.int .i64 0), (.int .i64 0), (.int .i64 0), (.int .i64 0), (.int .i64 0)]⟩,
    ⟨none, none, .st (.t 8) (.t 30) 6⟩])
  (.sq (.rg [⟨(some 31), none, .ld (.t 8) 6 true⟩,
    ⟨(some 32), none, .ca 14 [(.t 31)]⟩,
    ⟨(some 9), none, .mv (.t 32)⟩])
  (.sq (.rg [⟨(some 34), none, .mv (.t 2)⟩,
    ⟨(some 35), none, .ld (.t 8) 6 true⟩,
    ⟨(some 36), none, .ca 17 [(.t 35)]⟩,
    ⟨(some 37), none, .ib .sub (.t 36) (.c (.int .i64 1))⟩,
    ⟨(some 38), none, .ca 16 [(.t 34), (.t 37)]⟩,
    ⟨(some 39), none, .ib .add (.c (.int .i64 1)) (.t 38)⟩,
    ⟨(some 40), none, .ca 15 [(.t 39)]⟩,
    ⟨(some 33), none, .mv (.t 40)⟩,
    ⟨(some 41), none, .ex (.t 33) 0⟩,
    ⟨(some 42), none, .ex (.t 33) 1⟩,
    ⟨(some 10), none, .mv (.t 41)⟩,
    ⟨(some 11), none, .mv (.t 42)⟩])
  (.sq (.sq (.rg [⟨(some 43), none, .mv (.t 9)⟩,
    ⟨(some 44), none, .en 0 false (.t 43) (.c (.pointer none))⟩,
    ⟨(some 45), none, .mv (.t 44)⟩,
    ⟨(some 46), (some (45, false)), .mv (.t 10)⟩,
    ⟨(some 47), (some (45, false)), .en 0 false (.t 46) (.c (.pointer none))⟩,
    ⟨(some 48), none, .pk (.t 45) (.c (.bool true)) (.t 47)⟩,
    ⟨(some 49), none, .mv (.t 48)⟩,
    ⟨(some 50), (some (49, false)), .mv (.t 11)⟩,
    ⟨(some 51), (some (49, false)), .ib .neq (.t 50) (.c (.int .i64 0))⟩,
    ⟨(some 52), none, .pk (.t 49) (.c (.bool true)) (.t 51)⟩])
  (.cd (.t 52)
  (.sq (.rg [⟨(some 6), none, .mv (.c (.bool false))⟩])
  .rt)
  .sk))
  (.sq (.rg [⟨(some 54), none, .mv (.t 10)⟩,
    ⟨(some 55), none, .ld (.t 8) 6 true⟩,
    ⟨(some 56), none, .ca 18 [(.t 54), (.t 55)]⟩,
    ⟨(some 53), none, .mv (.t 56)⟩,
    ⟨(some 57), none, .ex (.t 53) 0⟩,
    ⟨(some 58), none, .ex (.t 53) 1⟩,
    ⟨(some 12), none, .mv (.t 57)⟩,
    ⟨(some 13), none, .mv (.t 58)⟩])
  (.sq (.rd [⟨0, 0, [8], ⟨(some 59), none, .fa (.t 8) 3⟩⟩,
    ⟨1, 1, [59], ⟨(some 60), none, .ld (.t 59) 1 false⟩⟩,
    ⟨2, 0, [1], ⟨(some 61), none, .mv (.t 1)⟩⟩,
    ⟨3, 4, [61], ⟨(some 62), none, .ca 16 [(.t 61), (.c (.int .i64 1000))]⟩⟩,
    ⟨4, 15, [60, 62], ⟨(some 63), none, .ib .add (.t 60) (.t 62)⟩⟩,
    ⟨5, 31, [63], ⟨(some 14), none, .mv (.t 63)⟩⟩])
  (.sq (.sq (.rg [⟨(some 64), none, .mv (.t 1)⟩,
    ⟨(some 65), none, .ca 16 [(.t 64), (.c (.int .i64 2))]⟩,
    ⟨(some 66), none, .ib .eql (.t 65) (.c (.int .i64 1))⟩])
  (.cd (.t 66)
  (.rg [⟨(some 67), none, .mv (.t 1)⟩,
    ⟨(some 68), none, .ca 16 [(.t 67), (.c (.int .i64 1000))]⟩,
    ⟨(some 69), none, .ib .sub (.c (.int .i64 (-1))) (.t 68)⟩,
    ⟨(some 14), none, .mv (.t 69)⟩])
  .sk))
  (.sq (.rd [⟨0, 0, [8], ⟨(some 70), none, .fa (.t 8) 2⟩⟩,
    ⟨1, 1, [70], ⟨(some 71), none, .ld (.t 70) 1 false⟩⟩,
    ⟨2, 3, [71], ⟨(some 72), none, .ib .add (.t 71) (.c (.int .i64 1))⟩⟩,
    ⟨3, 0, [2], ⟨(some 73), none, .mv (.t 2)⟩⟩,
    ⟨4, 8, [73], ⟨(some 74), none, .ca 16 [(.t 73), (.c (.int .i64 1000))]⟩⟩,
    ⟨5, 31, [72, 74], ⟨(some 75), none, .ib .add (.t 72) (.t 74)⟩⟩,
    ⟨6, 63, [75], ⟨(some 15), none, .mv (.t 75)⟩⟩])
  (.sq (.rd [⟨0, 0, [9], ⟨(some 77), none, .mv (.t 9)⟩⟩,
    ⟨1, 1, [77], ⟨(some 78), none, .nc (.t 77)⟩⟩,
    ⟨2, 3, [78], ⟨(some 79), none, .fa (.t 78) 8⟩⟩,
    ⟨3, 7, [79], ⟨(some 80), none, .ld (.t 79) 1 false⟩⟩,
    ⟨4, 0, [9], ⟨(some 81), none, .mv (.t 9)⟩⟩,
    ⟨5, 16, [81], ⟨(some 82), none, .nc (.t 81)⟩⟩,
    ⟨6, 48, [82], ⟨(some 83), none, .fa (.t 82) 10⟩⟩,
    ⟨7, 112, [83], ⟨(some 84), none, .ld (.t 83) 1 false⟩⟩,
    ⟨8, 240, [84], ⟨(some 85), none, .ia (.t 84) (.c (.int .i64 0)) 1⟩⟩,
    ⟨9, 496, [85], ⟨(some 86), none, .ld (.t 85) 1 false⟩⟩,
    ⟨10, 0, [14], ⟨(some 87), none, .mv (.t 14)⟩⟩,
    ⟨11, 2047, [80, 86, 87], ⟨(some 88), none, .ca 19 [(.t 80), (.t 86), (.t 87), (.c (.int .i64 1)), (.c (.int .i64 1))]⟩⟩,
    ⟨12, 4095, [88], ⟨(some 76), none, .mv (.t 88)⟩⟩,
    ⟨13, 8191, [76], ⟨(some 89), none, .ex (.t 76) 0⟩⟩,
    ⟨14, 8191, [76], ⟨(some 90), none, .ex (.t 76) 1⟩⟩,
    ⟨15, 16383, [89], ⟨(some 16), none, .mv (.t 89)⟩⟩,
    ⟨16, 65535, [90], ⟨(some 17), none, .mv (.t 90)⟩⟩])
  (.sq (.rd [⟨0, 0, [9], ⟨(some 92), none, .mv (.t 9)⟩⟩,
    ⟨1, 1, [92], ⟨(some 93), none, .nc (.t 92)⟩⟩,
    ⟨2, 3, [93], ⟨(some 94), none, .fa (.t 93) 8⟩⟩,
    ⟨3, 7, [94], ⟨(some 95), none, .ld (.t 94) 1 false⟩⟩,
    ⟨4, 0, [9], ⟨(some 96), none, .mv (.t 9)⟩⟩,
    ⟨5, 16, [96], ⟨(some 97), none, .nc (.t 96)⟩⟩,
    ⟨6, 48, [97], ⟨(some 98), none, .fa (.t 97) 10⟩⟩,
    ⟨7, 112, [98], ⟨(some 99), none, .ld (.t 98) 1 false⟩⟩,
    ⟨8, 240, [99], ⟨(some 100), none, .ia (.t 99) (.c (.int .i64 0)) 1⟩⟩,
    ⟨9, 496, [100], ⟨(some 101), none, .ld (.t 100) 1 false⟩⟩,
    ⟨10, 0, [15], ⟨(some 102), none, .mv (.t 15)⟩⟩,
    ⟨11, 2047, [95, 101, 102], ⟨(some 103), none, .ca 19 [(.t 95), (.t 101), (.c (.int .i64 0)), (.c (.int .i64 1)), (.t 102)]⟩⟩,
    ⟨12, 4095, [103], ⟨(some 91), none, .mv (.t 103)⟩⟩,
    ⟨13, 8191, [91], ⟨(some 104), none, .ex (.t 91) 0⟩⟩,
    ⟨14, 8191, [91], ⟨(some 105), none, .ex (.t 91) 1⟩⟩,
    ⟨15, 16383, [104], ⟨(some 18), none, .mv (.t 104)⟩⟩,
    ⟨16, 65535, [105], ⟨(some 19), none, .mv (.t 105)⟩⟩])
  (.sq (.rd [⟨0, 0, [9], ⟨(some 107), none, .mv (.t 9)⟩⟩,
    ⟨1, 1, [107], ⟨(some 108), none, .nc (.t 107)⟩⟩,
    ⟨2, 3, [108], ⟨(some 109), none, .fa (.t 108) 8⟩⟩,
    ⟨3, 7, [109], ⟨(some 110), none, .ld (.t 109) 1 false⟩⟩,
    ⟨4, 0, [9], ⟨(some 111), none, .mv (.t 9)⟩⟩,
    ⟨5, 16, [111], ⟨(some 112), none, .nc (.t 111)⟩⟩,
    ⟨6, 48, [112], ⟨(some 113), none, .fa (.t 112) 10⟩⟩,
    ⟨7, 112, [113], ⟨(some 114), none, .ld (.t 113) 1 false⟩⟩,
    ⟨8, 240, [114], ⟨(some 115), none, .ia (.t 114) (.c (.int .i64 0)) 1⟩⟩,
    ⟨9, 496, [115], ⟨(some 116), none, .ld (.t 115) 1 false⟩⟩,
    ⟨10, 0, [2], ⟨(some 117), none, .mv (.t 2)⟩⟩,
    ⟨11, 1024, [117], ⟨(some 118), none, .ca 16 [(.t 117), (.c (.int .i64 1000))]⟩⟩,
    ⟨12, 3072, [118], ⟨(some 119), none, .ng (.t 118)⟩⟩,
    ⟨13, 8191, [110, 116, 119], ⟨(some 120), none, .ca 19 [(.t 110), (.t 116), (.c (.int .i64 0)), (.c (.int .i64 1)), (.t 119)]⟩⟩,
    ⟨14, 16383, [120], ⟨(some 106), none, .mv (.t 120)⟩⟩,
    ⟨15, 32767, [106], ⟨(some 121), none, .ex (.t 106) 0⟩⟩,
    ⟨16, 32767, [106], ⟨(some 122), none, .ex (.t 106) 1⟩⟩,
    ⟨17, 65535, [121], ⟨(some 20), none, .mv (.t 121)⟩⟩,
    ⟨18, 262143, [122], ⟨(some 21), none, .mv (.t 122)⟩⟩])
  (.sq (.rd [⟨0, 0, [9], ⟨(some 124), none, .mv (.t 9)⟩⟩,
    ⟨1, 1, [124], ⟨(some 125), none, .nc (.t 124)⟩⟩,
    ⟨2, 3, [125], ⟨(some 126), none, .fa (.t 125) 8⟩⟩,
    ⟨3, 7, [126], ⟨(some 127), none, .ld (.t 126) 1 false⟩⟩,
    ⟨4, 0, [9], ⟨(some 128), none, .mv (.t 9)⟩⟩,
    ⟨5, 16, [128], ⟨(some 129), none, .nc (.t 128)⟩⟩,
    ⟨6, 48, [129], ⟨(some 130), none, .fa (.t 129) 10⟩⟩,
    ⟨7, 112, [130], ⟨(some 131), none, .ld (.t 130) 1 false⟩⟩,
    ⟨8, 240, [131], ⟨(some 132), none, .ia (.t 131) (.c (.int .i64 0)) 1⟩⟩,
    ⟨9, 496, [132], ⟨(some 133), none, .ld (.t 132) 1 false⟩⟩,
    ⟨10, 0, [14], ⟨(some 134), none, .mv (.t 14)⟩⟩,
    ⟨11, 0, [15], ⟨(some 135), none, .mv (.t 15)⟩⟩,
    ⟨12, 4095, [127, 133, 134, 135], ⟨(some 136), none, .ca 19 [(.t 127), (.t 133), (.t 134), (.c (.int .i64 1)), (.t 135)]⟩⟩,
    ⟨13, 8191, [136], ⟨(some 123), none, .mv (.t 136)⟩⟩,
    ⟨14, 16383, [123], ⟨(some 137), none, .ex (.t 123) 0⟩⟩,
    ⟨15, 16383, [123], ⟨(some 138), none, .ex (.t 123) 1⟩⟩,
    ⟨16, 32767, [137], ⟨(some 22), none, .mv (.t 137)⟩⟩,
    ⟨17, 131071, [138], ⟨(some 23), none, .mv (.t 138)⟩⟩])
  (.sq (.rg [⟨(some 140), none, .mv (.t 9)⟩,
    ⟨(some 141), none, .mv (.t 1)⟩,
    ⟨(some 142), none, .ca 16 [(.t 141), (.c (.int .i64 1000))]⟩,
    ⟨(some 143), none, .ib .add (.c (.int .i64 1)) (.t 142)⟩,
    ⟨(some 144), none, .ca 20 [(.t 140), (.c (.int .i64 0)), (.c (.int .i64 0)), (.t 143), (.c (.int .i64 1))]⟩,
    ⟨(some 139), none, .mv (.t 144)⟩,
    ⟨(some 145), none, .ex (.t 139) 0⟩,
    ⟨(some 146), none, .ex (.t 139) 1⟩,
    ⟨(some 24), none, .mv (.t 145)⟩,
    ⟨(some 25), none, .mv (.t 146)⟩])
  (.sq (.rg [⟨(some 147), none, .mv (.t 7)⟩,
    ⟨(some 148), none, .mv (.t 147)⟩,
    ⟨(some 149), (some (148, true)), .mv (.t 12)⟩,
    ⟨(some 150), (some (148, true)), .en 0 false (.t 149) (.c (.pointer none))⟩,
    ⟨(some 151), none, .pk (.t 148) (.t 150) (.c (.bool false))⟩,
    ⟨(some 152), none, .mv (.t 151)⟩,
    ⟨(some 153), (some (152, true)), .mv (.t 13)⟩,
    ⟨(some 154), (some (152, true)), .ib .eql (.t 153) (.c (.int .i64 1))⟩,
    ⟨(some 155), none, .pk (.t 152) (.t 154) (.c (.bool false))⟩,
    ⟨(some 156), none, .mv (.t 155)⟩,
    ⟨(some 157), (some (156, true)), .mv (.t 16)⟩,
    ⟨(some 158), (some (156, true)), .en 0 false (.t 157) (.c (.pointer none))⟩,
    ⟨(some 159), none, .pk (.t 156) (.t 158) (.c (.bool false))⟩,
    ⟨(some 160), none, .mv (.t 159)⟩,
    ⟨(some 161), (some (160, true)), .mv (.t 17)⟩,
    ⟨(some 162), (some (160, true)), .ib .eql (.t 161) (.c (.int .i64 1))⟩,
    ⟨(some 163), none, .pk (.t 160) (.t 162) (.c (.bool false))⟩,
    ⟨(some 164), none, .mv (.t 163)⟩,
    ⟨(some 165), (some (164, true)), .mv (.t 18)⟩,
    ⟨(some 166), (some (164, true)), .en 0 false (.t 165) (.c (.pointer none))⟩,
    ⟨(some 167), none, .pk (.t 164) (.t 166) (.c (.bool false))⟩,
    ⟨(some 168), none, .mv (.t 167)⟩,
    ⟨(some 169), (some (168, true)), .mv (.t 19)⟩,
    ⟨(some 170), (some (168, true)), .ib .eql (.t 169) (.c (.int .i64 5))⟩,
    ⟨(some 171), none, .pk (.t 168) (.t 170) (.c (.bool false))⟩,
    ⟨(some 172), none, .mv (.t 171)⟩,
    ⟨(some 173), (some (172, true)), .mv (.t 20)⟩,
    ⟨(some 174), (some (172, true)), .en 0 false (.t 173) (.c (.pointer none))⟩,
    ⟨(some 175), none, .pk (.t 172) (.t 174) (.c (.bool false))⟩,
    ⟨(some 176), none, .mv (.t 175)⟩,
    ⟨(some 177), (some (176, true)), .mv (.t 21)⟩,
    ⟨(some 178), (some (176, true)), .ib .eql (.t 177) (.c (.int .i64 5))⟩,
    ⟨(some 179), none, .pk (.t 176) (.t 178) (.c (.bool false))⟩,
    ⟨(some 180), none, .mv (.t 179)⟩,
    ⟨(some 181), (some (180, true)), .mv (.t 22)⟩,
    ⟨(some 182), (some (180, true)), .en 0 false (.t 181) (.c (.pointer none))⟩,
    ⟨(some 183), none, .pk (.t 180) (.t 182) (.c (.bool false))⟩,
    ⟨(some 184), none, .mv (.t 183)⟩,
    ⟨(some 185), (some (184, true)), .mv (.t 23)⟩,
    ⟨(some 186), (some (184, true)), .ib .eql (.t 185) (.c (.int .i64 1))⟩,
    ⟨(some 187), none, .pk (.t 184) (.t 186) (.c (.bool false))⟩,
    ⟨(some 188), none, .mv (.t 187)⟩,
    ⟨(some 189), (some (188, true)), .mv (.t 24)⟩,
    ⟨(some 190), (some (188, true)), .en 0 true (.t 189) (.c (.pointer none))⟩,
    ⟨(some 191), none, .pk (.t 188) (.t 190) (.c (.bool false))⟩,
    ⟨(some 192), none, .mv (.t 191)⟩,
    ⟨(some 193), (some (192, true)), .mv (.t 25)⟩,
    ⟨(some 194), (some (192, true)), .ib .eql (.t 193) (.c (.int .i64 1))⟩,
    ⟨(some 195), none, .pk (.t 192) (.t 194) (.c (.bool false))⟩,
    ⟨(some 196), none, .mv (.t 195)⟩,
    ⟨(some 197), (some (196, true)), .mv (.t 24)⟩,
    ⟨(some 198), (some (196, true)), .ca 21 [(.t 197)]⟩,
    ⟨(some 199), (some (196, true)), .ib .eql (.t 198) (.c (.int .i64 3))⟩,
    ⟨(some 200), none, .pk (.t 196) (.t 199) (.c (.bool false))⟩,
    ⟨(some 201), none, .mv (.t 200)⟩,
    ⟨(some 202), (some (201, true)), .mv (.t 24)⟩,
    ⟨(some 203), (some (201, true)), .ca 22 [(.t 202)]⟩,
    ⟨(some 204), (some (201, true)), .ib .eql (.t 203) (.c (.int .i64 1))⟩,
    ⟨(some 205), none, .pk (.t 201) (.t 204) (.c (.bool false))⟩,
    ⟨(some 6), none, .mv (.t 205)⟩])
  .rt)))))))))))))))))⟩
theorem k3 : cF Tryz.prog Tryz.f3 = some c3 := by kernel_rfl
/-- rundale/rundalelaw14.GrantApart -/
def c4 : Fu := ⟨272, [.t 6],
  (.sq (.rg [⟨(some 6), none, .mv (.c (.bool false))⟩])
  (.sq (.rg [⟨(some 26), none, .ca 12 []⟩,
    ⟨(some 7), none, .mv (.t 26)⟩])
  (.sq (.sq (.rg [⟨(some 27), none, .mv (.t 7)⟩,
    ⟨(some 28), none, .nt (.t 27)⟩])
  (.cd (.t 28)
  (.sq (.rg [⟨(some 6), none, .mv (.c (.bool false))⟩])
  .rt)
  .sk))
  (.sq (.sq (.rg [⟨(some 29), none, .mv (.t 2)⟩,
    ⟨(some 30), none, .len (.t 29)⟩,
    ⟨(some 31), none, .ib .gtr (.t 30) (.c (.int .i64 200))⟩])
  (.cd (.t 31)
  (.sq (.rg [⟨(some 32), none, .mv (.t 7)⟩,
    ⟨(some 6), none, .mv (.t 32)⟩])
  .rt)
  .sk))
  (.sq (.rg [⟨(some 33), none, .mv (.t 0)⟩,
    ⟨(some 34), none, .ca 13 [(.t 33)]⟩,
    ⟨(some 8), none, .al 24 [(.int .i64 0), (.int .i64 0), (.int .i64 0), (.int .i64 0), (.int .i64 0), (.int .i64 0)]⟩,
    ⟨none, none, .st (.t 8) (.t 34) 6⟩])
  (.sq (.rg [⟨(some 35), none, .ld (.t 8) 6 true⟩,
    ⟨(some 36), none, .ca 14 [(.t 35)]⟩,
    ⟨(some 9), none, .mv (.t 36)⟩])
  (.sq (.sq (.rg [⟨(some 37), none, .mv (.t 9)⟩,
    ⟨(some 38), none, .en 0 false (.t 37) (.c (.pointer none))⟩])
  (.cd (.t 38)
  (.sq (.rg [⟨(some 6), none, .mv (.c (.bool false))⟩])
  .rt)
  .sk))
  (.sq (.sq (.rg [⟨(some 10), none, .mv (.c (.int .i64 0))⟩])
  (.bl 0
  (.lp
  (.sq (.sq (.rg [⟨(some 39), none, .mv (.t 10)⟩,
    ⟨(some 40), none, .fa (.t 8) 1⟩,
    ⟨(some 41), none, .ld (.t 40) 1 false⟩,
    ⟨(some 42), none, .ib .lss (.t 39) (.t 41)⟩])
  (.cd (.t 42)
  .sk
  (.ex 0)))
  (.sq (.bl 1
  (.sq (.rg [⟨(some 11), none, .mv (.c (.int .i64 0))⟩])
  (.bl 2
  (.lp
  (.sq (.sq (.rg [⟨(some 45), none, .mv (.t 11)⟩,
    ⟨(some 46), none, .fa (.t 8) 2⟩,
    ⟨(some 47), none, .ld (.t 46) 1 false⟩,
    ⟨(some 48), none, .ib .lss (.t 45) (.t 47)⟩])
  (.cd (.t 48)
  .sk
  (.ex 2)))
  (.sq (.bl 3
  (.sq (.rd [⟨0, 0, [9], ⟨(some 51), none, .mv (.t 9)⟩⟩,
    ⟨1, 1, [51], ⟨(some 52), none, .nc (.t 51)⟩⟩,
    ⟨2, 3, [52], ⟨(some 53), none, .fa (.t 52) 6⟩⟩,
    ⟨3, 7, [53], ⟨(some 54), none, .ld (.t 53) 1 false⟩⟩,
    ⟨4, 0, [8], ⟨(some 55), none, .ld (.t 8) 6 true⟩⟩,
    ⟨5, 0, [10], ⟨(some 56), none, .mv (.t 10)⟩⟩,
    ⟨6, 0, [11], ⟨(some 57), none, .mv (.t 11)⟩⟩,
    ⟨7, 112, [55, 56, 57], ⟨(some 58), none, .ca 24 [(.t 55), (.t 56), (.t 57)]⟩⟩,
    ⟨8, 0, [10], ⟨(some 59), none, .mv (.t 10)⟩⟩,
    ⟨9, 256, [59], ⟨(some 60), none, .ib .mul (.c (.int .i64 100)) (.t 59)⟩⟩,
    ⟨10, 0, [11], ⟨(some 61), none, .mv (.t 11)⟩⟩,
    ⟨11, 1792, [60, 61], ⟨(some 62), none, .ib .add (.t 60) (.t 61)⟩⟩,
    ⟨12, 3840, [62], ⟨(some 63), none, .ib .add (.t 62) (.c (.int .i64 1))⟩⟩,
    ⟨13, 7936, [63], ⟨(some 64), none, .cv .u64 (.t 63)⟩⟩,
    ⟨14, 16383, [54, 58, 64], ⟨(some 65), none, .ca 23 [(.t 54), (.t 58), (.t 64)]⟩⟩,
    ⟨15, 32767, [65], ⟨(some 66), none, .ib .neq (.t 65) (.c (.int .i64 0))⟩⟩])
  (.cd (.t 66)
  (.sq (.rg [⟨(some 6), none, .mv (.c (.bool false))⟩])
  .rt)
  .sk)))
  (.rg [⟨(some 49), none, .mv (.t 11)⟩,
    ⟨(some 50), none, .ib .add (.t 49) (.c (.int .i64 1))⟩,
    ⟨(some 11), none, .mv (.t 50)⟩])))))))
  (.rg [⟨(some 43), none, .mv (.t 10)⟩,
    ⟨(some 44), none, .ib .add (.t 43) (.c (.int .i64 1))⟩,
    ⟨(some 10), none, .mv (.t 44)⟩]))))))
  (.sq (.rg [⟨(some 67), none, .mv (.t 1)⟩,
    ⟨(some 68), none, .ca 16 [(.t 67), (.c (.int .i64 4))]⟩,
    ⟨(some 12), none, .mv (.t 68)⟩])
  (.sq (.rg [⟨(some 70), none, .mv (.t 9)⟩,
    ⟨(some 71), none, .mv (.t 12)⟩,
    ⟨(some 72), none, .ca 25 [(.t 70), (.t 71)]⟩,
    ⟨(some 69), none, .mv (.t 72)⟩,
    ⟨(some 73), none, .ex (.t 69) 0⟩,
    ⟨(some 74), none, .ex (.t 69) 1⟩,
    ⟨(some 75), none, .ex (.t 69) 2⟩,
    ⟨(some 13), none, .mv (.t 73)⟩,
    ⟨(some 14), none, .mv (.t 74)⟩,
    ⟨(some 15), none, .mv (.t 75)⟩])
  (.sq (.sq (.rg [⟨(some 76), none, .mv (.t 15)⟩,
    ⟨(some 77), none, .nt (.t 76)⟩])
  (.cd (.t 77)
  (.sq (.rg [⟨(some 6), none, .mv (.c (.bool false))⟩])
  .rt)
  .sk))
  (.sq (.rg [⟨(some 16), none, .al 59 [(.pointer none), (.pointer none), (.pointer none)]⟩])
  (.sq (.rg [⟨(some 17), none, .mv (.c (.slice none 0 0))⟩])
  (.sq (.sq (.rg [⟨(some 18), none, .mv (.c (.int .i64 0))⟩])
  (.bl 4
  (.lp
  (.sq (.sq (.rg [⟨(some 78), none, .mv (.t 18)⟩,
    ⟨(some 79), none, .mv (.t 2)⟩,
    ⟨(some 80), none, .len (.t 79)⟩,
    ⟨(some 81), none, .ib .lss (.t 78) (.t 80)⟩])
  (.cd (.t 81)
  .sk
  (.ex 4)))
  (.sq (.bl 5
  (.sq (.rg [⟨(some 84), none, .mv (.t 2)⟩,
    ⟨(some 85), none, .mv (.t 18)⟩,
    ⟨(some 86), none, .ia (.t 84) (.t 85) 1⟩,
    ⟨(some 87), none, .ld (.t 86) 1 false⟩,
    ⟨(some 88), none, .ca 16 [(.t 87), (.c (.int .i64 3))]⟩,
    ⟨(some 19), none, .mv (.t 88)⟩])
  (.sq (.sq (.rg [⟨(some 89), none, .mv (.t 19)⟩,
    ⟨(some 90), none, .iaa (.t 16) (.t 89) 3 1⟩,
    ⟨(some 91), none, .ld (.t 90) 1 false⟩,
    ⟨(some 92), none, .en 0 false (.t 91) (.c (.pointer none))⟩])
  (.cd (.t 92)
  (.sq (.rd [⟨0, 0, [9], ⟨(some 94), none, .mv (.t 9)⟩⟩,
    ⟨1, 1, [94], ⟨(some 95), none, .nc (.t 94)⟩⟩,
    ⟨2, 3, [95], ⟨(some 96), none, .fa (.t 95) 8⟩⟩,
    ⟨3, 7, [96], ⟨(some 97), none, .ld (.t 96) 1 false⟩⟩,
    ⟨4, 0, [9], ⟨(some 98), none, .mv (.t 9)⟩⟩,
    ⟨5, 16, [98], ⟨(some 99), none, .nc (.t 98)⟩⟩,
    ⟨6, 48, [99], ⟨(some 100), none, .fa (.t 99) 10⟩⟩,
    ⟨7, 112, [100], ⟨(some 101), none, .ld (.t 100) 1 false⟩⟩,
    ⟨8, 0, [19], ⟨(some 102), none, .mv (.t 19)⟩⟩,
    ⟨9, 496, [101, 102], ⟨(some 103), none, .ia (.t 101) (.t 102) 1⟩⟩,
    ⟨10, 1008, [103], ⟨(some 104), none, .ld (.t 103) 1 false⟩⟩,
    ⟨11, 0, [13], ⟨(some 105), none, .mv (.t 13)⟩⟩,
    ⟨12, 0, [14], ⟨(some 106), none, .mv (.t 14)⟩⟩,
    ⟨13, 0, [2], ⟨(some 107), none, .mv (.t 2)⟩⟩,
    ⟨14, 0, [18], ⟨(some 108), none, .mv (.t 18)⟩⟩,
    ⟨15, 24576, [107, 108], ⟨(some 109), none, .ia (.t 107) (.t 108) 1⟩⟩,
    ⟨16, 57344, [109], ⟨(some 110), none, .ld (.t 109) 1 false⟩⟩,
    ⟨17, 122880, [110], ⟨(some 111), none, .ib .quo (.t 110) (.c (.int .i64 3))⟩⟩,
    ⟨18, 0, [8], ⟨(some 112), none, .fa (.t 8) 2⟩⟩,
    ⟨19, 262144, [112], ⟨(some 113), none, .ld (.t 112) 1 false⟩⟩,
    ⟨20, 1040384, [111, 113], ⟨(some 114), none, .ca 16 [(.t 111), (.t 113)]⟩⟩,
    ⟨21, 2088960, [114], ⟨(some 115), none, .ib .add (.c (.int .i64 1)) (.t 114)⟩⟩,
    ⟨22, 4194303, [97, 104, 105, 106, 115], ⟨(some 116), none, .ca 19 [(.t 97), (.t 104), (.t 105), (.t 106), (.t 115)]⟩⟩,
    ⟨23, 8388607, [116], ⟨(some 93), none, .mv (.t 116)⟩⟩,
    ⟨24, 16777215, [93], ⟨(some 117), none, .ex (.t 93) 0⟩⟩,
    ⟨25, 16777215, [93], ⟨(some 118), none, .ex (.t 93) 1⟩⟩,
    ⟨26, 33554431, [117], ⟨(some 20), none, .mv (.t 117)⟩⟩,
    ⟨27, 134217727, [118], ⟨(some 21), none, .mv (.t 118)⟩⟩])
  (.sq (.sq (.rg [⟨(some 119), none, .mv (.t 20)⟩,
    ⟨(some 120), none, .en 0 false (.t 119) (.c (.pointer none))⟩,
    ⟨(some 121), none, .mv (.t 120)⟩,
    ⟨(some 122), (some (121, false)), .mv (.t 21)⟩,
    ⟨(some 123), (some (121, false)), .ib .neq (.t 122) (.c (.int .i64 0))⟩,
    ⟨(some 124), none, .pk (.t 121) (.c (.bool true)) (.t 123)⟩])
  (.cd (.t 124)
  (.sq (.rg [⟨(some 6), none, .mv (.c (.bool false))⟩])
  .rt)
  .sk))
  (.sq (.rg [⟨(some 125), none, .mv (.t 19)⟩,
    ⟨(some 126), none, .mv (.t 20)⟩,
    ⟨(some 127), none, .iaa (.t 16) (.t 125) 3 1⟩,
    ⟨none, none, .st (.t 127) (.t 126) 1⟩])
  (.ex 5))))
  .sk))
  (.sq (.rg [⟨(some 128), none, .mv (.t 19)⟩,
    ⟨(some 129), none, .iaa (.t 16) (.t 128) 3 1⟩,
    ⟨(some 130), none, .ld (.t 129) 1 false⟩,
    ⟨(some 131), none, .ca 26 [(.t 130)]⟩])
  (.sq (.sq (.rg [⟨(some 132), none, .mv (.t 19)⟩,
    ⟨(some 133), none, .iaa (.t 16) (.t 132) 3 1⟩,
    ⟨(some 134), none, .ld (.t 133) 1 false⟩,
    ⟨(some 135), none, .ca 27 [(.t 134)]⟩,
    ⟨(some 136), none, .nt (.t 135)⟩])
  (.cd (.t 136)
  (.ex 5)
  .sk))
  (.sq (.rg [⟨(some 137), none, .mv (.t 19)⟩,
    ⟨(some 138), none, .iaa (.t 16) (.t 137) 3 1⟩,
    ⟨(some 139), none, .ld (.t 138) 1 false⟩,
    ⟨(some 140), none, .ca 28 [(.t 139)]⟩,
    ⟨(some 22), none, .al 62 [(.int .i64 0), (.int .i64 0), (.int .i64 0), (.int .i64 0), (.int .i64 0)]⟩,
    ⟨none, none, .st (.t 22) (.t 140) 5⟩])
  (.sq (.rg [⟨(some 141), none, .mv (.t 19)⟩,
    ⟨(some 142), none, .iaa (.t 16) (.t 141) 3 1⟩,
    ⟨(some 143), none, .ld (.t 142) 1 false⟩,
    ⟨(some 144), none, .ca 21 [(.t 143)]⟩,
    ⟨(some 23), none, .mv (.t 144)⟩])
  (.sq (.rg [⟨(some 145), none, .mv (.t 19)⟩,
    ⟨(some 146), none, .iaa (.t 16) (.t 145) 3 1⟩,
    ⟨none, none, .st (.t 146) (.c (.pointer none)) 1⟩])
  (.sq (.sq (.rg [⟨(some 147), none, .mv (.t 23)⟩,
    ⟨(some 148), none, .ib .eql (.t 147) (.c (.int .i64 6))⟩])
  (.cd (.t 148)
  (.ex 5)
  .sk))
  (.sq (.sq (.rg [⟨(some 149), none, .mv (.t 23)⟩,
    ⟨(some 150), none, .ib .neq (.t 149) (.c (.int .i64 0))⟩,
    ⟨(some 151), none, .mv (.t 150)⟩,
    ⟨(some 152), (some (151, false)), .fa (.t 22) 0⟩,
    ⟨(some 153), (some (151, false)), .ld (.t 152) 1 false⟩,
    ⟨(some 154), (some (151, false)), .mv (.t 13)⟩,
    ⟨(some 155), (some (151, false)), .ib .neq (.t 153) (.t 154)⟩,
    ⟨(some 156), none, .pk (.t 151) (.c (.bool true)) (.t 155)⟩,
    ⟨(some 157), none, .mv (.t 156)⟩,
    ⟨(some 158), (some (157, false)), .fa (.t 22) 1⟩,
    ⟨(some 159), (some (157, false)), .ld (.t 158) 1 false⟩,
    ⟨(some 160), (some (157, false)), .mv (.t 14)⟩,
    ⟨(some 161), (some (157, false)), .ib .neq (.t 159) (.t 160)⟩,
    ⟨(some 162), none, .pk (.t 157) (.c (.bool true)) (.t 161)⟩,
    ⟨(some 163), none, .mv (.t 162)⟩,
    ⟨(some 164), (some (163, false)), .fa (.t 22) 2⟩,
    ⟨(some 165), (some (163, false)), .ld (.t 164) 1 false⟩,
    ⟨(some 166), (some (163, false)), .ib .lss (.t 165) (.c (.int .i64 0))⟩,
    ⟨(some 167), none, .pk (.t 163) (.c (.bool true)) (.t 166)⟩,
    ⟨(some 168), none, .mv (.t 167)⟩,
    ⟨(some 169), (some (168, false)), .fa (.t 22) 2⟩,
    ⟨(some 170), (some (168, false)), .ld (.t 169) 1 false⟩,
    ⟨(some 171), (some (168, false)), .fa (.t 8) 1⟩,
    ⟨(some 172), (some (168, false)), .ld (.t 171) 1 false⟩,
    ⟨(some 173), (some (168, false)), .ib .geq (.t 170) (.t 172)⟩,
    ⟨(some 174), none, .pk (.t 168) (.c (.bool true)) (.t 173)⟩,
    ⟨(some 175), none, .mv (.t 174)⟩,
    ⟨(some 176), (some (175, false)), .fa (.t 22) 4⟩,
    ⟨(some 177), (some (175, false)), .ld (.t 176) 1 false⟩,
    ⟨(some 178), (some (175, false)), .ib .lss (.t 177) (.c (.int .i64 1))⟩,
    ⟨(some 179), none, .pk (.t 175) (.c (.bool true)) (.t 178)⟩,
    ⟨(some 180), none, .mv (.t 179)⟩,
    ⟨(some 181), (some (180, false)), .fa (.t 22) 3⟩,
    ⟨(some 182), (some (180, false)), .ld (.t 181) 1 false⟩,
    ⟨(some 183), (some (180, false)), .ib .lss (.t 182) (.c (.int .i64 0))⟩,
    ⟨(some 184), none, .pk (.t 180) (.c (.bool true)) (.t 183)⟩,
    ⟨(some 185), none, .mv (.t 184)⟩,
    ⟨(some 186), (some (185, false)), .fa (.t 22) 3⟩,
    ⟨(some 187), (some (185, false)), .ld (.t 186) 1 false⟩,
    ⟨(some 188), (some (185, false)), .fa (.t 8) 2⟩,
    ⟨(some 189), (some (185, false)), .ld (.t 188) 1 false⟩,
    ⟨(some 190), (some (185, false)), .fa (.t 22) 4⟩,
    ⟨(some 191), (some (185, false)), .ld (.t 190) 1 false⟩,
    ⟨(some 192), (some (185, false)), .ib .sub (.t 189) (.t 191)⟩,
    ⟨(some 193), (some (185, false)), .ib .gtr (.t 187) (.t 192)⟩,
    ⟨(some 194), none, .pk (.t 185) (.c (.bool true)) (.t 193)⟩,
    ⟨(some 195), none, .mv (.t 194)⟩,
    ⟨(some 196), (some (195, false)), .fa (.t 22) 3⟩,
    ⟨(some 197), (some (195, false)), .ld (.t 196) 1 false⟩,
    ⟨(some 198), (some (195, false)), .mv (.t 12)⟩,
    ⟨(some 199), (some (195, false)), .cv .u64 (.t 198)⟩,
    ⟨(some 200), (some (195, false)), .ib .shl (.c (.int .i64 1)) (.t 199)⟩,
    ⟨(some 201), (some (195, false)), .ib .rem (.t 197) (.t 200)⟩,
    ⟨(some 202), (some (195, false)), .ib .neq (.t 201) (.c (.int .i64 0))⟩,
    ⟨(some 203), none, .pk (.t 195) (.c (.bool true)) (.t 202)⟩])
  (.cd (.t 203)
  (.sq (.rg [⟨(some 6), none, .mv (.c (.bool false))⟩])
  .rt)
  .sk))
  (.sq (.sq (.rg [⟨(some 24), none, .mv (.c (.int .i64 0))⟩])
  (.bl 6
  (.lp
  (.sq (.sq (.rg [⟨(some 204), none, .mv (.t 24)⟩,
    ⟨(some 205), none, .fa (.t 22) 4⟩,
    ⟨(some 206), none, .ld (.t 205) 1 false⟩,
    ⟨(some 207), none, .ib .lss (.t 204) (.t 206)⟩])
  (.cd (.t 207)
  .sk
  (.ex 6)))
  (.sq (.bl 7
  (.sq (.rd [⟨0, 0, [9], ⟨(some 210), none, .mv (.t 9)⟩⟩,
    ⟨1, 1, [210], ⟨(some 211), none, .nc (.t 210)⟩⟩,
    ⟨2, 3, [211], ⟨(some 212), none, .fa (.t 211) 6⟩⟩,
    ⟨3, 7, [212], ⟨(some 213), none, .ld (.t 212) 1 false⟩⟩,
    ⟨4, 0, [8], ⟨(some 214), none, .ld (.t 8) 6 true⟩⟩,
    ⟨5, 0, [22], ⟨(some 215), none, .fa (.t 22) 2⟩⟩,
    ⟨6, 32, [215], ⟨(some 216), none, .ld (.t 215) 1 false⟩⟩,
    ⟨7, 0, [22], ⟨(some 217), none, .fa (.t 22) 3⟩⟩,
    ⟨8, 128, [217], ⟨(some 218), none, .ld (.t 217) 1 false⟩⟩,
    ⟨9, 0, [24], ⟨(some 219), none, .mv (.t 24)⟩⟩,
    ⟨10, 896, [218, 219], ⟨(some 220), none, .ib .add (.t 218) (.t 219)⟩⟩,
    ⟨11, 2032, [214, 216, 220], ⟨(some 221), none, .ca 24 [(.t 214), (.t 216), (.t 220)]⟩⟩,
    ⟨12, 4095, [213, 221], ⟨(some 222), none, .ca 29 [(.t 213), (.t 221)]⟩⟩,
    ⟨13, 8191, [222], ⟨(some 223), none, .ib .neq (.t 222) (.c (.int .u64 0))⟩⟩])
  (.cd (.t 223)
  (.sq (.rg [⟨(some 6), none, .mv (.c (.bool false))⟩])
  .rt)
  .sk)))
  (.rg [⟨(some 208), none, .mv (.t 24)⟩,
    ⟨(some 209), none, .ib .add (.t 208) (.c (.int .i64 1))⟩,
    ⟨(some 24), none, .mv (.t 209)⟩]))))))
  (.sq (.sq (.rg [⟨(some 25), none, .mv (.c (.int .i64 0))⟩])
  (.bl 8
  (.lp
  (.sq (.sq (.rg [⟨(some 224), none, .mv (.t 25)⟩,
    ⟨(some 225), none, .mv (.t 17)⟩,
    ⟨(some 226), none, .len (.t 225)⟩,
    ⟨(some 227), none, .ib .lss (.t 224) (.t 226)⟩])
  (.cd (.t 227)
  .sk
  (.ex 8)))
  (.sq (.bl 9
  (.sq (.rd [⟨0, 0, [17], ⟨(some 230), none, .mv (.t 17)⟩⟩,
    ⟨1, 0, [25], ⟨(some 231), none, .mv (.t 25)⟩⟩,
    ⟨2, 3, [230, 231], ⟨(some 232), none, .ia (.t 230) (.t 231) 5⟩⟩,
    ⟨3, 7, [232], ⟨(some 233), none, .fa (.t 232) 2⟩⟩,
    ⟨4, 15, [233], ⟨(some 234), none, .ld (.t 233) 1 false⟩⟩,
    ⟨5, 0, [22], ⟨(some 235), none, .fa (.t 22) 2⟩⟩,
    ⟨6, 32, [235], ⟨(some 236), none, .ld (.t 235) 1 false⟩⟩,
    ⟨7, 127, [234, 236], ⟨(some 237), none, .ib .eql (.t 234) (.t 236)⟩⟩,
    ⟨8, 255, [237], ⟨(some 238), none, .mv (.t 237)⟩⟩,
    ⟨9, 511, [17, 238], ⟨(some 239), (some (238, true)), .mv (.t 17)⟩⟩,
    ⟨10, 511, [25, 238], ⟨(some 240), (some (238, true)), .mv (.t 25)⟩⟩,
    ⟨11, 2047, [239, 240, 238], ⟨(some 241), (some (238, true)), .ia (.t 239) (.t 240) 5⟩⟩,
    ⟨12, 4095, [241, 238], ⟨(some 242), (some (238, true)), .fa (.t 241) 3⟩⟩,
    ⟨13, 8191, [242, 238], ⟨(some 243), (some (238, true)), .ld (.t 242) 1 false⟩⟩,
    ⟨14, 511, [22, 238], ⟨(some 244), (some (238, true)), .fa (.t 22) 3⟩⟩,
    ⟨15, 16895, [244, 238], ⟨(some 245), (some (238, true)), .ld (.t 244) 1 false⟩⟩,
    ⟨16, 511, [22, 238], ⟨(some 246), (some (238, true)), .fa (.t 22) 4⟩⟩,
    ⟨17, 66047, [246, 238], ⟨(some 247), (some (238, true)), .ld (.t 246) 1 false⟩⟩,
    ⟨18, 246271, [245, 247, 238], ⟨(some 248), (some (238, true)), .ib .add (.t 245) (.t 247)⟩⟩,
    ⟨19, 524287, [243, 248, 238], ⟨(some 249), (some (238, true)), .ib .lss (.t 243) (.t 248)⟩⟩,
    ⟨20, 1048575, [238, 249], ⟨(some 250), none, .pk (.t 238) (.t 249) (.c (.bool false))⟩⟩,
    ⟨21, 2097151, [250], ⟨(some 251), none, .mv (.t 250)⟩⟩,
    ⟨22, 4194303, [22, 251], ⟨(some 252), (some (251, true)), .fa (.t 22) 3⟩⟩,
    ⟨23, 8388607, [252, 251], ⟨(some 253), (some (251, true)), .ld (.t 252) 1 false⟩⟩,
    ⟨24, 4194303, [17, 251], ⟨(some 254), (some (251, true)), .mv (.t 17)⟩⟩,
    ⟨25, 4194303, [25, 251], ⟨(some 255), (some (251, true)), .mv (.t 25)⟩⟩,
    ⟨26, 54525951, [254, 255, 251], ⟨(some 256), (some (251, true)), .ia (.t 254) (.t 255) 5⟩⟩,
    ⟨27, 121634815, [256, 251], ⟨(some 257), (some (251, true)), .fa (.t 256) 3⟩⟩,
    ⟨28, 255852543, [257, 251], ⟨(some 258), (some (251, true)), .ld (.t 257) 1 false⟩⟩,
    ⟨29, 4194303, [17, 251], ⟨(some 259), (some (251, true)), .mv (.t 17)⟩⟩,
    ⟨30, 4194303, [25, 251], ⟨(some 260), (some (251, true)), .mv (.t 25)⟩⟩,
    ⟨31, 1614807039, [259, 260, 251], ⟨(some 261), (some (251, true)), .ia (.t 259) (.t 260) 5⟩⟩,
    ⟨32, 3762290687, [261, 251], ⟨(some 262), (some (251, true)), .fa (.t 261) 4⟩⟩,
    ⟨33, 8057257983, [262, 251], ⟨(some 263), (some (251, true)), .ld (.t 262) 1 false⟩⟩,
    ⟨34, 17167286271, [258, 263, 251], ⟨(some 264), (some (251, true)), .ib .add (.t 258) (.t 263)⟩⟩,
    ⟨35, 34359738367, [253, 264, 251], ⟨(some 265), (some (251, true)), .ib .lss (.t 253) (.t 264)⟩⟩,
    ⟨36, 68719476735, [251, 265], ⟨(some 266), none, .pk (.t 251) (.t 265) (.c (.bool false))⟩⟩])
  (.cd (.t 266)
  (.sq (.rg [⟨(some 6), none, .mv (.c (.bool false))⟩])
  .rt)
  .sk)))
  (.rg [⟨(some 228), none, .mv (.t 25)⟩,
    ⟨(some 229), none, .ib .add (.t 228) (.c (.int .i64 1))⟩,
    ⟨(some 25), none, .mv (.t 229)⟩]))))))
  (.rg [⟨(some 267), none, .mv (.t 17)⟩,
    ⟨(some 268), none, .ld (.t 22) 5 true⟩,
    ⟨(some 269), none, .bs 62 1 [(.int .i64 0), (.int .i64 0), (.int .i64 0), (.int .i64 0), (.int .i64 0)] [(0, 5, (.t 268))]⟩,
    ⟨(some 270), none, .ap 60 62 5 40 [(.int .i64 0), (.int .i64 0), (.int .i64 0), (.int .i64 0), (.int .i64 0)] (.t 267) (.t 269)⟩,
    ⟨(some 17), none, .mv (.t 270)⟩])))))))))))))
  (.rg [⟨(some 82), none, .mv (.t 18)⟩,
    ⟨(some 83), none, .ib .add (.t 82) (.c (.int .i64 1))⟩,
    ⟨(some 18), none, .mv (.t 83)⟩]))))))
  (.sq (.rg [⟨(some 271), none, .mv (.t 7)⟩,
    ⟨(some 6), none, .mv (.t 271)⟩])
  .rt)))))))))))))))⟩
theorem k4 : cF Tryz.prog Tryz.f4 = some c4 := by kernel_rfl
/-- rundale/rundalelaw14.GrantAlone -/
def c5 : Fu := ⟨256, [.t 6],
  (.sq (.rg [⟨(some 6), none, .mv (.c (.bool false))⟩])
  (.sq (.rg [⟨(some 25), none, .ca 12 []⟩,
    ⟨(some 7), none, .mv (.t 25)⟩])
  (.sq (.sq (.rg [⟨(some 26), none, .mv (.t 7)⟩,
    ⟨(some 27), none, .nt (.t 26)⟩])
  (.cd (.t 27)
  (.sq (.rg [⟨(some 6), none, .mv (.c (.bool false))⟩])
  .rt)
  .sk))
  (.sq (.sq (.rg [⟨(some 28), none, .mv (.t 2)⟩,
    ⟨(some 29), none, .len (.t 28)⟩,
    ⟨(some 30), none, .ib .gtr (.t 29) (.c (.int .i64 40))⟩])
  (.cd (.t 30)
  (.sq (.rg [⟨(some 31), none, .mv (.t 7)⟩,
    ⟨(some 6), none, .mv (.t 31)⟩])
  .rt)
  .sk))
  (.sq (.rg [⟨(some 32), none, .mv (.t 0)⟩,
    ⟨(some 33), none, .ca 13 [(.t 32)]⟩,
    ⟨(some 8), none, .al 24 [(.int .i64 0), (.int .i64 0), (.int .i64 0), (.int .i64 0), (.int .i64 0), (.int .i64 0)]⟩,
    ⟨none, none, .st (.t 8) (.t 33) 6⟩])
  (.sq (.rg [⟨(some 34), none, .fa (.t 8) 5⟩,
    ⟨none, none, .st (.t 34) (.c (.int .i64 1)) 1⟩,
    ⟨(some 35), none, .fa (.t 8) 4⟩,
    ⟨none, none, .st (.t 35) (.c (.int .i64 64)) 1⟩])
  (.sq (.rg [⟨(some 36), none, .ld (.t 8) 6 true⟩,
    ⟨(some 37), none, .ca 14 [(.t 36)]⟩,
    ⟨(some 9), none, .mv (.t 37)⟩])
  (.sq (.sq (.rg [⟨(some 38), none, .mv (.t 9)⟩,
    ⟨(some 39), none, .en 0 false (.t 38) (.c (.pointer none))⟩])
  (.cd (.t 39)
  (.sq (.rg [⟨(some 6), none, .mv (.c (.bool false))⟩])
  .rt)
  .sk))
  (.sq (.rg [⟨(some 40), none, .mv (.t 1)⟩,
    ⟨(some 41), none, .ca 16 [(.t 40), (.c (.int .i64 4))]⟩,
    ⟨(some 10), none, .mv (.t 41)⟩])
  (.sq (.rg [⟨(some 43), none, .mv (.t 9)⟩,
    ⟨(some 44), none, .mv (.t 10)⟩,
    ⟨(some 45), none, .ca 25 [(.t 43), (.t 44)]⟩,
    ⟨(some 42), none, .mv (.t 45)⟩,
    ⟨(some 46), none, .ex (.t 42) 0⟩,
    ⟨(some 47), none, .ex (.t 42) 1⟩,
    ⟨(some 48), none, .ex (.t 42) 2⟩,
    ⟨(some 11), none, .mv (.t 46)⟩,
    ⟨(some 12), none, .mv (.t 47)⟩,
    ⟨(some 13), none, .mv (.t 48)⟩])
  (.sq (.sq (.rg [⟨(some 49), none, .mv (.t 13)⟩,
    ⟨(some 50), none, .nt (.t 49)⟩])
  (.cd (.t 50)
  (.sq (.rg [⟨(some 6), none, .mv (.c (.bool false))⟩])
  .rt)
  .sk))
  (.sq (.rg [⟨(some 14), none, .mv (.c (.int .i64 (-1)))⟩,
    ⟨(some 15), none, .mv (.c (.int .i64 0))⟩,
    ⟨(some 16), none, .mv (.c (.int .i64 0))⟩])
  (.sq (.sq (.rg [⟨(some 17), none, .mv (.c (.int .i64 0))⟩])
  (.bl 0
  (.lp
  (.sq (.sq (.rg [⟨(some 51), none, .mv (.t 17)⟩,
    ⟨(some 52), none, .mv (.t 2)⟩,
    ⟨(some 53), none, .len (.t 52)⟩,
    ⟨(some 54), none, .ib .lss (.t 51) (.t 53)⟩])
  (.cd (.t 54)
  .sk
  (.ex 0)))
  (.sq (.bl 1
  (.sq (.rd [⟨0, 0, [2], ⟨(some 57), none, .mv (.t 2)⟩⟩,
    ⟨1, 0, [17], ⟨(some 58), none, .mv (.t 17)⟩⟩,
    ⟨2, 3, [57, 58], ⟨(some 59), none, .ia (.t 57) (.t 58) 1⟩⟩,
    ⟨3, 7, [59], ⟨(some 60), none, .ld (.t 59) 1 false⟩⟩,
    ⟨4, 0, [8], ⟨(some 61), none, .fa (.t 8) 2⟩⟩,
    ⟨5, 16, [61], ⟨(some 62), none, .ld (.t 61) 1 false⟩⟩,
    ⟨6, 63, [60, 62], ⟨(some 63), none, .ca 16 [(.t 60), (.t 62)]⟩⟩,
    ⟨7, 127, [63], ⟨(some 64), none, .ib .add (.c (.int .i64 1)) (.t 63)⟩⟩,
    ⟨8, 255, [64], ⟨(some 18), none, .mv (.t 64)⟩⟩])
  (.sq (.rg [⟨(some 65), none, .mv (.t 10)⟩,
    ⟨(some 66), none, .cv .u64 (.t 65)⟩,
    ⟨(some 67), none, .ib .shl (.c (.int .i64 1)) (.t 66)⟩,
    ⟨(some 19), none, .mv (.t 67)⟩])
  (.sq (.rg [⟨(some 68), none, .mv (.t 18)⟩,
    ⟨(some 69), none, .mv (.t 19)⟩,
    ⟨(some 70), none, .ib .add (.t 68) (.t 69)⟩,
    ⟨(some 71), none, .ib .sub (.t 70) (.c (.int .i64 1))⟩,
    ⟨(some 72), none, .mv (.t 19)⟩,
    ⟨(some 73), none, .ib .quo (.t 71) (.t 72)⟩,
    ⟨(some 74), none, .mv (.t 19)⟩,
    ⟨(some 75), none, .ib .mul (.t 73) (.t 74)⟩,
    ⟨(some 20), none, .mv (.t 75)⟩])
  (.sq (.rg [⟨(some 77), none, .mv (.t 9)⟩,
    ⟨(some 78), none, .mv (.t 11)⟩,
    ⟨(some 79), none, .mv (.t 12)⟩,
    ⟨(some 80), none, .mv (.t 18)⟩,
    ⟨(some 81), none, .ca 20 [(.t 77), (.c (.int .i64 0)), (.t 78), (.t 79), (.t 80)]⟩,
    ⟨(some 76), none, .mv (.t 81)⟩,
    ⟨(some 82), none, .ex (.t 76) 0⟩,
    ⟨(some 83), none, .ex (.t 76) 1⟩,
    ⟨(some 21), none, .mv (.t 82)⟩,
    ⟨(some 22), none, .mv (.t 83)⟩])
  (.sq (.sq (.rg [⟨(some 84), none, .mv (.t 21)⟩,
    ⟨(some 85), none, .en 0 false (.t 84) (.c (.pointer none))⟩,
    ⟨(some 86), none, .mv (.t 85)⟩,
    ⟨(some 87), (some (86, false)), .mv (.t 21)⟩,
    ⟨(some 88), (some (86, false)), .ca 27 [(.t 87)]⟩,
    ⟨(some 89), (some (86, false)), .nt (.t 88)⟩,
    ⟨(some 90), none, .pk (.t 86) (.c (.bool true)) (.t 89)⟩])
  (.cd (.t 90)
  (.sq (.rg [⟨(some 6), none, .mv (.c (.bool false))⟩])
  .rt)
  .sk))
  (.sq (.bl 2
  (.sq (.rg [⟨(some 139), none, .mv (.t 14)⟩,
    ⟨(some 140), none, .ib .geq (.t 139) (.c (.int .i64 0))⟩,
    ⟨(some 141), none, .mv (.t 140)⟩,
    ⟨(some 142), (some (141, true)), .mv (.t 20)⟩,
    ⟨(some 143), (some (141, true)), .ib .mul (.c (.int .i64 2)) (.t 142)⟩,
    ⟨(some 144), (some (141, true)), .fa (.t 8) 2⟩,
    ⟨(some 145), (some (141, true)), .ld (.t 144) 1 false⟩,
    ⟨(some 146), (some (141, true)), .ib .leq (.t 143) (.t 145)⟩,
    ⟨(some 147), none, .pk (.t 141) (.t 146) (.c (.bool false))⟩,
    ⟨(some 148), none, .mv (.t 147)⟩,
    ⟨(some 149), (some (148, true)), .mv (.t 15)⟩,
    ⟨(some 150), (some (148, true)), .mv (.t 20)⟩,
    ⟨(some 151), (some (148, true)), .ib .add (.t 149) (.t 150)⟩,
    ⟨(some 152), (some (148, true)), .fa (.t 8) 2⟩,
    ⟨(some 153), (some (148, true)), .ld (.t 152) 1 false⟩,
    ⟨(some 154), (some (148, true)), .ib .leq (.t 151) (.t 153)⟩,
    ⟨(some 155), none, .pk (.t 148) (.t 154) (.c (.bool false))⟩,
    ⟨(some 138), none, .mv (.t 155)⟩])
  (.cd (.t 138)
  (.sq (.sq (.rg [⟨(some 156), none, .mv (.t 22)⟩,
    ⟨(some 157), none, .ib .neq (.t 156) (.c (.int .i64 2))⟩,
    ⟨(some 158), none, .mv (.t 157)⟩,
    ⟨(some 159), (some (158, false)), .mv (.t 21)⟩,
    ⟨(some 160), (some (158, false)), .ca 28 [(.t 159)]⟩,
    ⟨(some 161), (some (158, false)), .mv (.t 11)⟩,
    ⟨(some 162), (some (158, false)), .mv (.t 12)⟩,
    ⟨(some 163), (some (158, false)), .mv (.t 14)⟩,
    ⟨(some 164), (some (158, false)), .mv (.t 15)⟩,
    ⟨(some 165), (some (158, false)), .mv (.t 18)⟩,
    ⟨(some 166), (some (158, false)), .bd [(.int .i64 0), (.int .i64 0), (.int .i64 0), (.int .i64 0), (.int .i64 0)] [(0, 1, (.t 161)), (1, 1, (.t 162)), (2, 1, (.t 163)), (3, 1, (.t 164)), (4, 1, (.t 165))]⟩,
    ⟨(some 167), (some (158, false)), .es 5 true (.t 160) (.t 166)⟩,
    ⟨(some 168), none, .pk (.t 158) (.c (.bool true)) (.t 167)⟩,
    ⟨(some 169), none, .mv (.t 168)⟩,
    ⟨(some 170), (some (169, false)), .mv (.t 21)⟩,
    ⟨(some 171), (some (169, false)), .ca 22 [(.t 170)]⟩,
    ⟨(some 172), (some (169, false)), .ib .neq (.t 171) (.c (.int .i64 2))⟩,
    ⟨(some 173), none, .pk (.t 169) (.c (.bool true)) (.t 172)⟩])
  (.cd (.t 173)
  (.sq (.rg [⟨(some 6), none, .mv (.c (.bool false))⟩])
  .rt)
  .sk))
  (.rg [⟨(some 174), none, .mv (.t 15)⟩,
    ⟨(some 175), none, .mv (.t 20)⟩,
    ⟨(some 176), none, .ib .add (.t 174) (.t 175)⟩,
    ⟨(some 15), none, .mv (.t 176)⟩]))
  (.sq (.rg [⟨(some 178), none, .mv (.t 16)⟩,
    ⟨(some 179), none, .fa (.t 8) 1⟩,
    ⟨(some 180), none, .ld (.t 179) 1 false⟩,
    ⟨(some 181), none, .ib .eql (.t 178) (.t 180)⟩,
    ⟨(some 177), none, .mv (.t 181)⟩])
  (.cd (.t 177)
  (.sq (.rg [⟨(some 182), none, .mv (.t 22)⟩,
    ⟨(some 183), none, .ib .neq (.t 182) (.c (.int .i64 3))⟩,
    ⟨(some 184), none, .mv (.t 183)⟩,
    ⟨(some 185), (some (184, false)), .mv (.t 21)⟩,
    ⟨(some 186), (some (184, false)), .ca 21 [(.t 185)]⟩,
    ⟨(some 187), (some (184, false)), .ib .neq (.t 186) (.c (.int .i64 6))⟩,
    ⟨(some 188), none, .pk (.t 184) (.c (.bool true)) (.t 187)⟩,
    ⟨(some 189), none, .mv (.t 188)⟩,
    ⟨(some 190), (some (189, false)), .mv (.t 21)⟩,
    ⟨(some 191), (some (189, false)), .ca 28 [(.t 190)]⟩,
    ⟨(some 192), (some (189, false)), .bd [(.int .i64 0), (.int .i64 0), (.int .i64 0), (.int .i64 0), (.int .i64 0)] []⟩,
    ⟨(some 193), (some (189, false)), .es 5 true (.t 191) (.t 192)⟩,
    ⟨(some 194), none, .pk (.t 189) (.c (.bool true)) (.t 193)⟩,
    ⟨(some 195), none, .mv (.t 194)⟩,
    ⟨(some 196), (some (195, false)), .mv (.t 21)⟩,
    ⟨(some 197), (some (195, false)), .ca 22 [(.t 196)]⟩,
    ⟨(some 198), (some (195, false)), .ib .neq (.t 197) (.c (.int .i64 3))⟩,
    ⟨(some 199), none, .pk (.t 195) (.c (.bool true)) (.t 198)⟩])
  (.cd (.t 199)
  (.sq (.rg [⟨(some 6), none, .mv (.c (.bool false))⟩])
  .rt)
  .sk))
  (.sq (.rg [⟨(some 91), none, .mv (.t 21)⟩,
    ⟨(some 92), none, .ca 28 [(.t 91)]⟩,
    ⟨(some 23), none, .al 62 [(.int .i64 0), (.int .i64 0), (.int .i64 0), (.int .i64 0), (.int .i64 0)]⟩,
    ⟨none, none, .st (.t 23) (.t 92) 5⟩])
  (.sq (.sq (.rg [⟨(some 93), none, .mv (.t 22)⟩,
    ⟨(some 94), none, .fa (.t 8) 2⟩,
    ⟨(some 95), none, .ld (.t 94) 1 false⟩,
    ⟨(some 96), none, .ib .add (.t 95) (.c (.int .i64 6))⟩,
    ⟨(some 97), none, .ib .neq (.t 93) (.t 96)⟩,
    ⟨(some 98), none, .mv (.t 97)⟩,
    ⟨(some 99), (some (98, false)), .mv (.t 21)⟩,
    ⟨(some 100), (some (98, false)), .ca 21 [(.t 99)]⟩,
    ⟨(some 101), (some (98, false)), .ib .neq (.t 100) (.c (.int .i64 0))⟩,
    ⟨(some 102), none, .pk (.t 98) (.c (.bool true)) (.t 101)⟩,
    ⟨(some 103), none, .mv (.t 102)⟩,
    ⟨(some 104), (some (103, false)), .fa (.t 23) 3⟩,
    ⟨(some 105), (some (103, false)), .ld (.t 104) 1 false⟩,
    ⟨(some 106), (some (103, false)), .ib .neq (.t 105) (.c (.int .i64 0))⟩,
    ⟨(some 107), none, .pk (.t 103) (.c (.bool true)) (.t 106)⟩,
    ⟨(some 108), none, .mv (.t 107)⟩,
    ⟨(some 109), (some (108, false)), .fa (.t 23) 4⟩,
    ⟨(some 110), (some (108, false)), .ld (.t 109) 1 false⟩,
    ⟨(some 111), (some (108, false)), .mv (.t 18)⟩,
    ⟨(some 112), (some (108, false)), .ib .neq (.t 110) (.t 111)⟩,
    ⟨(some 113), none, .pk (.t 108) (.c (.bool true)) (.t 112)⟩,
    ⟨(some 114), none, .mv (.t 113)⟩,
    ⟨(some 115), (some (114, false)), .fa (.t 23) 2⟩,
    ⟨(some 116), (some (114, false)), .ld (.t 115) 1 false⟩,
    ⟨(some 117), (some (114, false)), .mv (.t 14)⟩,
    ⟨(some 118), (some (114, false)), .ib .eql (.t 116) (.t 117)⟩,
    ⟨(some 119), none, .pk (.t 114) (.c (.bool true)) (.t 118)⟩,
    ⟨(some 120), none, .mv (.t 119)⟩,
    ⟨(some 121), (some (120, false)), .mv (.t 21)⟩,
    ⟨(some 122), (some (120, false)), .ca 22 [(.t 121)]⟩,
    ⟨(some 123), (some (120, false)), .mv (.t 22)⟩,
    ⟨(some 124), (some (120, false)), .ib .neq (.t 122) (.t 123)⟩,
    ⟨(some 125), none, .pk (.t 120) (.c (.bool true)) (.t 124)⟩])
  (.cd (.t 125)
  (.sq (.rg [⟨(some 6), none, .mv (.c (.bool false))⟩])
  .rt)
  .sk))
  (.sq (.rg [⟨(some 126), none, .fa (.t 23) 2⟩,
    ⟨(some 127), none, .ld (.t 126) 1 false⟩,
    ⟨(some 128), none, .mv (.t 20)⟩,
    ⟨(some 14), none, .mv (.t 127)⟩,
    ⟨(some 15), none, .mv (.t 128)⟩])
  (.sq (.sq (.rg [⟨(some 129), none, .mv (.t 20)⟩,
    ⟨(some 130), none, .ib .mul (.c (.int .i64 2)) (.t 129)⟩,
    ⟨(some 131), none, .fa (.t 8) 2⟩,
    ⟨(some 132), none, .ld (.t 131) 1 false⟩,
    ⟨(some 133), none, .ib .gtr (.t 130) (.t 132)⟩])
  (.cd (.t 133)
  (.rg [⟨(some 134), none, .fa (.t 8) 2⟩,
    ⟨(some 135), none, .ld (.t 134) 1 false⟩,
    ⟨(some 15), none, .mv (.t 135)⟩])
  .sk))
  (.rg [⟨(some 136), none, .mv (.t 16)⟩,
    ⟨(some 137), none, .ib .add (.t 136) (.c (.int .i64 1))⟩,
    ⟨(some 16), none, .mv (.t 137)⟩]))))))))))
  (.sq (.rg [⟨(some 200), none, .mv (.t 9)⟩,
    ⟨(some 201), none, .nc (.t 200)⟩,
    ⟨(some 202), none, .fa (.t 201) 7⟩,
    ⟨(some 203), none, .ld (.t 202) 1 false⟩,
    ⟨(some 204), none, .mv (.t 11)⟩,
    ⟨(some 205), none, .ca 30 [(.t 203), (.t 204)]⟩,
    ⟨(some 24), none, .al 68 [(.int .i64 0), (.int .i64 0), (.int .i64 0), (.int .i64 0)]⟩,
    ⟨none, none, .st (.t 24) (.t 205) 4⟩])
  (.sq (.rg [⟨(some 206), none, .fa (.t 24) 0⟩,
    ⟨(some 207), none, .ld (.t 206) 1 false⟩,
    ⟨(some 208), none, .mv (.t 12)⟩,
    ⟨(some 209), none, .ib .neq (.t 207) (.t 208)⟩,
    ⟨(some 210), none, .mv (.t 209)⟩,
    ⟨(some 211), (some (210, false)), .fa (.t 24) 2⟩,
    ⟨(some 212), (some (210, false)), .ld (.t 211) 1 false⟩,
    ⟨(some 213), (some (210, false)), .mv (.t 10)⟩,
    ⟨(some 214), (some (210, false)), .ib .neq (.t 212) (.t 213)⟩,
    ⟨(some 215), none, .pk (.t 210) (.c (.bool true)) (.t 214)⟩,
    ⟨(some 216), none, .mv (.t 215)⟩,
    ⟨(some 217), (some (216, false)), .mv (.t 14)⟩,
    ⟨(some 218), (some (216, false)), .ib .geq (.t 217) (.c (.int .i64 0))⟩,
    ⟨(some 219), (some (216, false)), .mv (.t 218)⟩,
    ⟨(some 220), (some (219, true)), .fa (.t 24) 1⟩,
    ⟨(some 221), (some (219, true)), .ld (.t 220) 1 false⟩,
    ⟨(some 222), (some (219, true)), .mv (.t 14)⟩,
    ⟨(some 223), (some (219, true)), .ib .add (.t 222) (.c (.int .i64 2))⟩,
    ⟨(some 224), (some (219, true)), .ib .neq (.t 221) (.t 223)⟩,
    ⟨(some 225), (some (219, true)), .mv (.t 224)⟩,
    ⟨(some 226), (some (225, false)), .fa (.t 24) 3⟩,
    ⟨(some 227), (some (225, false)), .ld (.t 226) 1 false⟩,
    ⟨(some 228), (some (225, false)), .mv (.t 15)⟩,
    ⟨(some 229), (some (225, false)), .ib .neq (.t 227) (.t 228)⟩,
    ⟨(some 230), (some (219, true)), .pk (.t 225) (.c (.bool true)) (.t 229)⟩,
    ⟨(some 231), (some (216, false)), .pk (.t 219) (.t 230) (.c (.bool false))⟩,
    ⟨(some 232), none, .pk (.t 216) (.c (.bool true)) (.t 231)⟩,
    ⟨(some 233), none, .mv (.t 232)⟩,
    ⟨(some 234), (some (233, false)), .mv (.t 14)⟩,
    ⟨(some 235), (some (233, false)), .ib .lss (.t 234) (.c (.int .i64 0))⟩,
    ⟨(some 236), (some (233, false)), .mv (.t 235)⟩,
    ⟨(some 237), (some (236, true)), .fa (.t 24) 1⟩,
    ⟨(some 238), (some (236, true)), .ld (.t 237) 1 false⟩,
    ⟨(some 239), (some (236, true)), .ib .neq (.t 238) (.c (.int .i64 1))⟩,
    ⟨(some 240), (some (233, false)), .pk (.t 236) (.t 239) (.c (.bool false))⟩,
    ⟨(some 241), none, .pk (.t 233) (.c (.bool true)) (.t 240)⟩])
  (.cd (.t 241)
  (.sq (.rg [⟨(some 6), none, .mv (.c (.bool false))⟩])
  .rt)
  .sk))))))))))
  (.rg [⟨(some 55), none, .mv (.t 17)⟩,
    ⟨(some 56), none, .ib .add (.t 55) (.c (.int .i64 1))⟩,
    ⟨(some 17), none, .mv (.t 56)⟩]))))))
  (.sq (.rd [⟨0, 0, [7], ⟨(some 242), none, .mv (.t 7)⟩⟩,
    ⟨1, 1, [242], ⟨(some 243), none, .mv (.t 242)⟩⟩,
    ⟨2, 3, [9, 243], ⟨(some 244), (some (243, true)), .mv (.t 9)⟩⟩,
    ⟨3, 7, [244, 243], ⟨(some 245), (some (243, true)), .nc (.t 244)⟩⟩,
    ⟨4, 15, [245, 243], ⟨(some 246), (some (243, true)), .fa (.t 245) 9⟩⟩,
    ⟨5, 31, [246, 243], ⟨(some 247), (some (243, true)), .ld (.t 246) 1 false⟩⟩,
    ⟨6, 63, [247, 243], ⟨(some 248), (some (243, true)), .ca 31 [(.t 247)]⟩⟩,
    ⟨7, 127, [248, 243], ⟨(some 249), (some (243, true)), .len (.t 248)⟩⟩,
    ⟨8, 3, [8, 243], ⟨(some 250), (some (243, true)), .fa (.t 8) 1⟩⟩,
    ⟨9, 259, [250, 243], ⟨(some 251), (some (243, true)), .ld (.t 250) 1 false⟩⟩,
    ⟨10, 3, [16, 243], ⟨(some 252), (some (243, true)), .mv (.t 16)⟩⟩,
    ⟨11, 1795, [251, 252, 243], ⟨(some 253), (some (243, true)), .ib .sub (.t 251) (.t 252)⟩⟩,
    ⟨12, 4095, [249, 253, 243], ⟨(some 254), (some (243, true)), .ib .eql (.t 249) (.t 253)⟩⟩,
    ⟨13, 8191, [243, 254], ⟨(some 255), none, .pk (.t 243) (.t 254) (.c (.bool false))⟩⟩,
    ⟨14, 16383, [255], ⟨(some 6), none, .mv (.t 255)⟩⟩])
  .rt))))))))))))))⟩
theorem k5 : cF Tryz.prog Tryz.f5 = some c5 := by kernel_rfl
/-- rundale/rundalelaw14.GrantPlays -/
def c6 : Fu := ⟨245, [.t 4],
  (.sq (.rg [⟨(some 4), none, .mv (.c (.bool false))⟩])
  (.sq (.rg [⟨(some 26), none, .ca 12 []⟩,
    ⟨(some 5), none, .mv (.t 26)⟩])
  (.sq (.sq (.rg [⟨(some 27), none, .mv (.t 5)⟩,
    ⟨(some 28), none, .nt (.t 27)⟩])
  (.cd (.t 28)
  (.sq (.rg [⟨(some 4), none, .mv (.c (.bool false))⟩])
  .rt)
  .sk))
  (.sq (.sq (.rg [⟨(some 29), none, .mv (.t 1)⟩,
    ⟨(some 30), none, .len (.t 29)⟩,
    ⟨(some 31), none, .ib .gtr (.t 30) (.c (.int .i64 200))⟩])
  (.cd (.t 31)
  (.sq (.rg [⟨(some 32), none, .mv (.t 5)⟩,
    ⟨(some 4), none, .mv (.t 32)⟩])
  .rt)
  .sk))
  (.sq (.rg [⟨(some 33), none, .mv (.t 0)⟩,
    ⟨(some 34), none, .ca 13 [(.t 33)]⟩,
    ⟨(some 6), none, .al 24 [(.int .i64 0), (.int .i64 0), (.int .i64 0), (.int .i64 0), (.int .i64 0), (.int .i64 0)]⟩,
    ⟨none, none, .st (.t 6) (.t 34) 6⟩])
  (.sq (.rg [⟨(some 35), none, .fa (.t 6) 3⟩,
    ⟨none, none, .st (.t 35) (.c (.int .i64 2)) 1⟩])
  (.sq (.rg [⟨(some 36), none, .ld (.t 6) 6 true⟩,
    ⟨(some 37), none, .ca 14 [(.t 36)]⟩,
    ⟨(some 7), none, .mv (.t 37)⟩])
  (.sq (.sq (.rg [⟨(some 38), none, .mv (.t 7)⟩,
    ⟨(some 39), none, .en 0 false (.t 38) (.c (.pointer none))⟩])
  (.cd (.t 39)
  (.sq (.rg [⟨(some 4), none, .mv (.c (.bool false))⟩])
  .rt)
  .sk))
  (.sq (.rg [⟨(some 8), none, .al 71 [(.int .i64 0), (.int .i64 0)]⟩,
    ⟨(some 9), none, .al 71 [(.int .i64 0), (.int .i64 0)]⟩])
  (.sq (.sq (.rg [⟨(some 10), none, .mv (.c (.int .i64 0))⟩])
  (.bl 0
  (.lp
  (.sq (.sq (.rg [⟨(some 40), none, .mv (.t 10)⟩,
    ⟨(some 41), none, .ib .lss (.t 40) (.c (.int .i64 2))⟩])
  (.cd (.t 41)
  .sk
  (.ex 0)))
  (.sq (.bl 1
  (.sq (.rg [⟨(some 45), none, .mv (.t 7)⟩,
    ⟨(some 46), none, .mv (.t 0)⟩,
    ⟨(some 47), none, .ib .quo (.t 46) (.c (.int .i64 7))⟩,
    ⟨(some 48), none, .mv (.t 10)⟩,
    ⟨(some 49), none, .ib .add (.t 47) (.t 48)⟩,
    ⟨(some 50), none, .ca 25 [(.t 45), (.t 49)]⟩,
    ⟨(some 44), none, .mv (.t 50)⟩,
    ⟨(some 51), none, .ex (.t 44) 0⟩,
    ⟨(some 52), none, .ex (.t 44) 1⟩,
    ⟨(some 53), none, .ex (.t 44) 2⟩,
    ⟨(some 11), none, .mv (.t 51)⟩,
    ⟨(some 12), none, .mv (.t 52)⟩,
    ⟨(some 13), none, .mv (.t 53)⟩])
  (.sq (.sq (.rg [⟨(some 54), none, .mv (.t 13)⟩,
    ⟨(some 55), none, .nt (.t 54)⟩])
  (.cd (.t 55)
  (.sq (.rg [⟨(some 4), none, .mv (.c (.bool false))⟩])
  .rt)
  .sk))
  (.rg [⟨(some 56), none, .mv (.t 10)⟩,
    ⟨(some 57), none, .mv (.t 10)⟩,
    ⟨(some 58), none, .mv (.t 11)⟩,
    ⟨(some 59), none, .mv (.t 12)⟩,
    ⟨(some 60), none, .iaa (.t 8) (.t 56) 2 1⟩,
    ⟨none, none, .st (.t 60) (.t 58) 1⟩,
    ⟨(some 61), none, .iaa (.t 9) (.t 57) 2 1⟩,
    ⟨none, none, .st (.t 61) (.t 59) 1⟩]))))
  (.rg [⟨(some 42), none, .mv (.t 10)⟩,
    ⟨(some 43), none, .ib .add (.t 42) (.c (.int .i64 1))⟩,
    ⟨(some 10), none, .mv (.t 43)⟩]))))))
  (.sq (.rg [⟨(some 14), none, .al 59 [(.pointer none), (.pointer none), (.pointer none)]⟩])
  (.sq (.rg [⟨(some 15), none, .al 73 [(.pointer none), (.pointer none), (.pointer none)]⟩])
  (.sq (.rg [⟨(some 16), none, .mv (.c (.pointer none))⟩])
  (.sq (.rg [⟨(some 17), none, .mv (.c (.pointer none))⟩])
  (.sq (.sq (.rg [⟨(some 18), none, .mv (.c (.int .i64 0))⟩])
  (.bl 2
  (.lp
  (.sq (.sq (.rg [⟨(some 62), none, .mv (.t 18)⟩,
    ⟨(some 63), none, .mv (.t 1)⟩,
    ⟨(some 64), none, .len (.t 63)⟩,
    ⟨(some 65), none, .ib .lss (.t 62) (.t 64)⟩])
  (.cd (.t 65)
  .sk
  (.ex 2)))
  (.sq (.bl 3
  (.sq (.rd [⟨0, 0, [1], ⟨(some 68), none, .mv (.t 1)⟩⟩,
    ⟨1, 0, [18], ⟨(some 69), none, .mv (.t 18)⟩⟩,
    ⟨2, 3, [68, 69], ⟨(some 70), none, .ia (.t 68) (.t 69) 1⟩⟩,
    ⟨3, 7, [70], ⟨(some 71), none, .ld (.t 70) 1 false⟩⟩,
    ⟨4, 15, [71], ⟨(some 72), none, .ca 16 [(.t 71), (.c (.int .i64 13))]⟩⟩,
    ⟨5, 31, [72], ⟨(some 73), none, .ib .quo (.t 72) (.c (.int .i64 4))⟩⟩,
    ⟨6, 0, [1], ⟨(some 74), none, .mv (.t 1)⟩⟩,
    ⟨7, 0, [18], ⟨(some 75), none, .mv (.t 18)⟩⟩,
    ⟨8, 192, [74, 75], ⟨(some 76), none, .ia (.t 74) (.t 75) 1⟩⟩,
    ⟨9, 448, [76], ⟨(some 77), none, .ld (.t 76) 1 false⟩⟩,
    ⟨10, 960, [77], ⟨(some 78), none, .ib .quo (.t 77) (.c (.int .i64 13))⟩⟩,
    ⟨11, 2015, [78], ⟨(some 79), none, .ca 16 [(.t 78), (.c (.int .i64 60))]⟩⟩,
    ⟨12, 4095, [73], ⟨(some 19), none, .mv (.t 73)⟩⟩,
    ⟨13, 8191, [79], ⟨(some 20), none, .mv (.t 79)⟩⟩])
  (.sq (.bl 4
  (.sq (.rg [⟨(some 108), none, .mv (.t 19)⟩,
    ⟨(some 109), none, .ib .eql (.t 108) (.c (.int .i64 3))⟩,
    ⟨(some 110), none, .mv (.t 109)⟩,
    ⟨(some 111), (some (110, true)), .mv (.t 16)⟩,
    ⟨(some 112), (some (110, true)), .en 0 true (.t 111) (.c (.pointer none))⟩,
    ⟨(some 113), none, .pk (.t 110) (.t 112) (.c (.bool false))⟩,
    ⟨(some 107), none, .mv (.t 113)⟩])
  (.cd (.t 107)
  (.sq (.rd [⟨0, 0, [16], ⟨(some 114), none, .mv (.t 16)⟩⟩,
    ⟨1, 1, [114], ⟨(some 115), none, .ca 32 [(.t 114)]⟩⟩,
    ⟨2, 0, [17], ⟨(some 116), none, .mv (.t 17)⟩⟩,
    ⟨3, 7, [116], ⟨(some 117), none, .ca 33 [(.t 116)]⟩⟩,
    ⟨4, 15, [115, 117], ⟨(some 118), none, .bb true (.t 115) (.t 117)⟩⟩,
    ⟨5, 31, [118], ⟨(some 119), none, .mv (.t 118)⟩⟩,
    ⟨6, 63, [16, 119], ⟨(some 120), (some (119, false)), .mv (.t 16)⟩⟩,
    ⟨7, 127, [120, 119], ⟨(some 121), (some (119, false)), .ca 34 [(.t 120)]⟩⟩,
    ⟨8, 63, [17, 119], ⟨(some 122), (some (119, false)), .mv (.t 17)⟩⟩,
    ⟨9, 319, [122, 119], ⟨(some 123), (some (119, false)), .nc (.t 122)⟩⟩,
    ⟨10, 831, [123, 119], ⟨(some 124), (some (119, false)), .fa (.t 123) 9⟩⟩,
    ⟨11, 1855, [124, 119], ⟨(some 125), (some (119, false)), .ld (.t 124) 1 false⟩⟩,
    ⟨12, 4095, [121, 125, 119], ⟨(some 126), (some (119, false)), .bb true (.t 121) (.t 125)⟩⟩,
    ⟨13, 8191, [119, 126], ⟨(some 127), none, .pk (.t 119) (.c (.bool true)) (.t 126)⟩⟩])
  (.cd (.t 127)
  (.sq (.rg [⟨(some 4), none, .mv (.c (.bool false))⟩])
  .rt)
  .sk))
  (.sq (.rg [⟨(some 129), none, .mv (.t 19)⟩,
    ⟨(some 130), none, .ib .eql (.t 129) (.c (.int .i64 3))⟩,
    ⟨(some 131), none, .mv (.t 130)⟩,
    ⟨(some 132), (some (131, true)), .mv (.t 20)⟩,
    ⟨(some 133), (some (131, true)), .ib .lss (.t 132) (.c (.int .i64 8))⟩,
    ⟨(some 134), none, .pk (.t 131) (.t 133) (.c (.bool false))⟩,
    ⟨(some 128), none, .mv (.t 134)⟩])
  (.cd (.t 128)
  (.sq (.rd [⟨0, 0, [7], ⟨(some 136), none, .mv (.t 7)⟩⟩,
    ⟨1, 1, [136], ⟨(some 137), none, .nc (.t 136)⟩⟩,
    ⟨2, 3, [137], ⟨(some 138), none, .fa (.t 137) 7⟩⟩,
    ⟨3, 7, [138], ⟨(some 139), none, .ld (.t 138) 1 false⟩⟩,
    ⟨4, 0, [20], ⟨(some 140), none, .mv (.t 20)⟩⟩,
    ⟨5, 16, [140], ⟨(some 141), none, .ib .rem (.t 140) (.c (.int .i64 2))⟩⟩,
    ⟨6, 48, [8, 141], ⟨(some 142), none, .iaa (.t 8) (.t 141) 2 1⟩⟩,
    ⟨7, 112, [142], ⟨(some 143), none, .ld (.t 142) 1 false⟩⟩,
    ⟨8, 0, [20], ⟨(some 144), none, .mv (.t 20)⟩⟩,
    ⟨9, 256, [144], ⟨(some 145), none, .ib .rem (.t 144) (.c (.int .i64 2))⟩⟩,
    ⟨10, 768, [9, 145], ⟨(some 146), none, .iaa (.t 9) (.t 145) 2 1⟩⟩,
    ⟨11, 1792, [146], ⟨(some 147), none, .ld (.t 146) 1 false⟩⟩,
    ⟨12, 4095, [139, 143, 147], ⟨(some 148), none, .ca 35 [(.t 139), (.t 143), (.t 147)]⟩⟩,
    ⟨13, 8191, [148], ⟨(some 135), none, .mv (.t 148)⟩⟩,
    ⟨14, 16383, [135], ⟨(some 149), none, .ex (.t 135) 0⟩⟩,
    ⟨15, 16383, [135], ⟨(some 150), none, .ex (.t 135) 1⟩⟩,
    ⟨16, 32767, [149], ⟨(some 21), none, .mv (.t 149)⟩⟩,
    ⟨17, 131071, [150], ⟨(some 22), none, .mv (.t 150)⟩⟩])
  (.sq (.sq (.rg [⟨(some 151), none, .mv (.t 21)⟩,
    ⟨(some 152), none, .en 0 false (.t 151) (.c (.pointer none))⟩,
    ⟨(some 153), none, .mv (.t 152)⟩,
    ⟨(some 154), (some (153, false)), .mv (.t 22)⟩,
    ⟨(some 155), (some (153, false)), .ib .neq (.t 154) (.c (.int .i64 0))⟩,
    ⟨(some 156), none, .pk (.t 153) (.c (.bool true)) (.t 155)⟩])
  (.cd (.t 156)
  (.sq (.rg [⟨(some 4), none, .mv (.c (.bool false))⟩])
  .rt)
  .sk))
  (.rd [⟨0, 0, [21], ⟨(some 157), none, .mv (.t 21)⟩⟩,
    ⟨1, 0, [7], ⟨(some 158), none, .mv (.t 7)⟩⟩,
    ⟨2, 2, [158], ⟨(some 159), none, .nc (.t 158)⟩⟩,
    ⟨3, 6, [159], ⟨(some 160), none, .fa (.t 159) 11⟩⟩,
    ⟨4, 14, [160], ⟨(some 161), none, .ld (.t 160) 1 false⟩⟩,
    ⟨5, 0, [20], ⟨(some 162), none, .mv (.t 20)⟩⟩,
    ⟨6, 32, [162], ⟨(some 163), none, .ib .rem (.t 162) (.c (.int .i64 2))⟩⟩,
    ⟨7, 96, [8, 163], ⟨(some 164), none, .iaa (.t 8) (.t 163) 2 1⟩⟩,
    ⟨8, 224, [164], ⟨(some 165), none, .ld (.t 164) 1 false⟩⟩,
    ⟨9, 0, [20], ⟨(some 166), none, .mv (.t 20)⟩⟩,
    ⟨10, 512, [166], ⟨(some 167), none, .ib .rem (.t 166) (.c (.int .i64 2))⟩⟩,
    ⟨11, 1536, [9, 167], ⟨(some 168), none, .iaa (.t 9) (.t 167) 2 1⟩⟩,
    ⟨12, 3584, [168], ⟨(some 169), none, .ld (.t 168) 1 false⟩⟩,
    ⟨13, 8190, [161, 165, 169], ⟨(some 170), none, .ca 36 [(.t 161), (.t 165), (.t 169)]⟩⟩,
    ⟨14, 16383, [157], ⟨(some 16), none, .mv (.t 157)⟩⟩,
    ⟨15, 32767, [170], ⟨(some 17), none, .mv (.t 170)⟩⟩])))
  (.sq (.rg [⟨(some 172), none, .mv (.t 19)⟩,
    ⟨(some 173), none, .ib .eql (.t 172) (.c (.int .i64 3))⟩,
    ⟨(some 171), none, .mv (.t 173)⟩])
  (.cd (.t 171)
  (.ex 3)
  (.sq (.rg [⟨(some 175), none, .mv (.t 19)⟩,
    ⟨(some 176), none, .iaa (.t 14) (.t 175) 3 1⟩,
    ⟨(some 177), none, .ld (.t 176) 1 false⟩,
    ⟨(some 178), none, .en 0 false (.t 177) (.c (.pointer none))⟩,
    ⟨(some 174), none, .mv (.t 178)⟩])
  (.cd (.t 174)
  (.sq (.rg [⟨(some 179), none, .mv (.t 20)⟩,
    ⟨(some 180), none, .ib .quo (.t 179) (.c (.int .i64 2))⟩,
    ⟨(some 181), none, .fa (.t 6) 2⟩,
    ⟨(some 182), none, .ld (.t 181) 1 false⟩,
    ⟨(some 183), none, .ib .rem (.t 180) (.t 182)⟩,
    ⟨(some 184), none, .ib .add (.c (.int .i64 1)) (.t 183)⟩,
    ⟨(some 23), none, .mv (.t 184)⟩])
  (.sq (.rd [⟨0, 0, [7], ⟨(some 186), none, .mv (.t 7)⟩⟩,
    ⟨1, 1, [186], ⟨(some 187), none, .nc (.t 186)⟩⟩,
    ⟨2, 3, [187], ⟨(some 188), none, .fa (.t 187) 8⟩⟩,
    ⟨3, 7, [188], ⟨(some 189), none, .ld (.t 188) 1 false⟩⟩,
    ⟨4, 0, [7], ⟨(some 190), none, .mv (.t 7)⟩⟩,
    ⟨5, 16, [190], ⟨(some 191), none, .nc (.t 190)⟩⟩,
    ⟨6, 48, [191], ⟨(some 192), none, .fa (.t 191) 10⟩⟩,
    ⟨7, 112, [192], ⟨(some 193), none, .ld (.t 192) 1 false⟩⟩,
    ⟨8, 0, [19], ⟨(some 194), none, .mv (.t 19)⟩⟩,
    ⟨9, 496, [193, 194], ⟨(some 195), none, .ia (.t 193) (.t 194) 1⟩⟩,
    ⟨10, 1008, [195], ⟨(some 196), none, .ld (.t 195) 1 false⟩⟩,
    ⟨11, 0, [20], ⟨(some 197), none, .mv (.t 20)⟩⟩,
    ⟨12, 2048, [197], ⟨(some 198), none, .ib .rem (.t 197) (.c (.int .i64 2))⟩⟩,
    ⟨13, 6144, [8, 198], ⟨(some 199), none, .iaa (.t 8) (.t 198) 2 1⟩⟩,
    ⟨14, 14336, [199], ⟨(some 200), none, .ld (.t 199) 1 false⟩⟩,
    ⟨15, 0, [20], ⟨(some 201), none, .mv (.t 20)⟩⟩,
    ⟨16, 32768, [201], ⟨(some 202), none, .ib .rem (.t 201) (.c (.int .i64 2))⟩⟩,
    ⟨17, 98304, [9, 202], ⟨(some 203), none, .iaa (.t 9) (.t 202) 2 1⟩⟩,
    ⟨18, 229376, [203], ⟨(some 204), none, .ld (.t 203) 1 false⟩⟩,
    ⟨19, 0, [23], ⟨(some 205), none, .mv (.t 23)⟩⟩,
    ⟨20, 1048575, [189, 196, 200, 204, 205], ⟨(some 206), none, .ca 19 [(.t 189), (.t 196), (.t 200), (.t 204), (.t 205)]⟩⟩,
    ⟨21, 2097151, [206], ⟨(some 185), none, .mv (.t 206)⟩⟩,
    ⟨22, 4194303, [185], ⟨(some 207), none, .ex (.t 185) 0⟩⟩,
    ⟨23, 4194303, [185], ⟨(some 208), none, .ex (.t 185) 1⟩⟩,
    ⟨24, 8388607, [207], ⟨(some 24), none, .mv (.t 207)⟩⟩,
    ⟨25, 33554431, [208], ⟨(some 25), none, .mv (.t 208)⟩⟩])
  (.sq (.sq (.rg [⟨(some 209), none, .mv (.t 24)⟩,
    ⟨(some 210), none, .en 0 false (.t 209) (.c (.pointer none))⟩,
    ⟨(some 211), none, .mv (.t 210)⟩,
    ⟨(some 212), (some (211, false)), .mv (.t 25)⟩,
    ⟨(some 213), (some (211, false)), .ib .neq (.t 212) (.c (.int .i64 0))⟩,
    ⟨(some 214), none, .pk (.t 211) (.c (.bool true)) (.t 213)⟩,
    ⟨(some 215), none, .mv (.t 214)⟩,
    ⟨(some 216), (some (215, false)), .mv (.t 24)⟩,
    ⟨(some 217), (some (215, false)), .ca 27 [(.t 216)]⟩,
    ⟨(some 218), none, .pk (.t 215) (.c (.bool true)) (.t 217)⟩])
  (.cd (.t 218)
  (.sq (.rg [⟨(some 4), none, .mv (.c (.bool false))⟩])
  .rt)
  .sk))
  (.rd [⟨0, 0, [19], ⟨(some 219), none, .mv (.t 19)⟩⟩,
    ⟨1, 0, [19], ⟨(some 220), none, .mv (.t 19)⟩⟩,
    ⟨2, 0, [24], ⟨(some 221), none, .mv (.t 24)⟩⟩,
    ⟨3, 0, [7], ⟨(some 222), none, .mv (.t 7)⟩⟩,
    ⟨4, 8, [222], ⟨(some 223), none, .nc (.t 222)⟩⟩,
    ⟨5, 24, [223], ⟨(some 224), none, .fa (.t 223) 12⟩⟩,
    ⟨6, 56, [224], ⟨(some 225), none, .ld (.t 224) 1 false⟩⟩,
    ⟨7, 0, [19], ⟨(some 226), none, .mv (.t 19)⟩⟩,
    ⟨8, 248, [225, 226], ⟨(some 227), none, .ia (.t 225) (.t 226) 1⟩⟩,
    ⟨9, 504, [227], ⟨(some 228), none, .ld (.t 227) 1 false⟩⟩,
    ⟨10, 0, [20], ⟨(some 229), none, .mv (.t 20)⟩⟩,
    ⟨11, 1024, [229], ⟨(some 230), none, .ib .rem (.t 229) (.c (.int .i64 2))⟩⟩,
    ⟨12, 3072, [8, 230], ⟨(some 231), none, .iaa (.t 8) (.t 230) 2 1⟩⟩,
    ⟨13, 7168, [231], ⟨(some 232), none, .ld (.t 231) 1 false⟩⟩,
    ⟨14, 0, [20], ⟨(some 233), none, .mv (.t 20)⟩⟩,
    ⟨15, 16384, [233], ⟨(some 234), none, .ib .rem (.t 233) (.c (.int .i64 2))⟩⟩,
    ⟨16, 49152, [9, 234], ⟨(some 235), none, .iaa (.t 9) (.t 234) 2 1⟩⟩,
    ⟨17, 114688, [235], ⟨(some 236), none, .ld (.t 235) 1 false⟩⟩,
    ⟨18, 0, [23], ⟨(some 237), none, .mv (.t 23)⟩⟩,
    ⟨19, 524280, [228, 232, 236, 237], ⟨(some 238), none, .ca 37 [(.t 228), (.t 232), (.t 236), (.t 237)]⟩⟩,
    ⟨20, 5, [14, 219], ⟨(some 239), none, .iaa (.t 14) (.t 219) 3 1⟩⟩,
    ⟨21, 2097149, [239, 221], ⟨none, none, .st (.t 239) (.t 221) 1⟩⟩,
    ⟨22, 4194303, [15, 220], ⟨(some 240), none, .iaa (.t 15) (.t 220) 3 1⟩⟩,
    ⟨23, 8388607, [240, 238], ⟨none, none, .st (.t 240) (.t 238) 1⟩⟩]))))
  (.sq (.sq (.rd [⟨0, 0, [19], ⟨(some 80), none, .mv (.t 19)⟩⟩,
    ⟨1, 1, [14, 80], ⟨(some 81), none, .iaa (.t 14) (.t 80) 3 1⟩⟩,
    ⟨2, 3, [81], ⟨(some 82), none, .ld (.t 81) 1 false⟩⟩,
    ⟨3, 7, [82], ⟨(some 83), none, .ca 26 [(.t 82)]⟩⟩,
    ⟨4, 0, [19], ⟨(some 84), none, .mv (.t 19)⟩⟩,
    ⟨5, 16, [15, 84], ⟨(some 85), none, .iaa (.t 15) (.t 84) 3 1⟩⟩,
    ⟨6, 48, [85], ⟨(some 86), none, .ld (.t 85) 1 false⟩⟩,
    ⟨7, 127, [86], ⟨(some 87), none, .ca 38 [(.t 86)]⟩⟩,
    ⟨8, 255, [83, 87], ⟨(some 88), none, .bb true (.t 83) (.t 87)⟩⟩,
    ⟨9, 511, [88], ⟨(some 89), none, .mv (.t 88)⟩⟩,
    ⟨10, 1023, [19, 89], ⟨(some 90), (some (89, false)), .mv (.t 19)⟩⟩,
    ⟨11, 2047, [14, 90, 89], ⟨(some 91), (some (89, false)), .iaa (.t 14) (.t 90) 3 1⟩⟩,
    ⟨12, 4095, [91, 89], ⟨(some 92), (some (89, false)), .ld (.t 91) 1 false⟩⟩,
    ⟨13, 1023, [19, 89], ⟨(some 93), (some (89, false)), .mv (.t 19)⟩⟩,
    ⟨14, 9215, [15, 93, 89], ⟨(some 94), (some (89, false)), .iaa (.t 15) (.t 93) 3 1⟩⟩,
    ⟨15, 25599, [94, 89], ⟨(some 95), (some (89, false)), .ld (.t 94) 1 false⟩⟩,
    ⟨16, 65535, [92, 95, 89], ⟨(some 96), (some (89, false)), .ca 39 [(.t 92), (.t 95)]⟩⟩,
    ⟨17, 131071, [96, 89], ⟨(some 97), (some (89, false)), .nt (.t 96)⟩⟩,
    ⟨18, 262143, [89, 97], ⟨(some 98), none, .pk (.t 89) (.c (.bool true)) (.t 97)⟩⟩])
  (.cd (.t 98)
  (.sq (.rg [⟨(some 4), none, .mv (.c (.bool false))⟩])
  .rt)
  .sk))
  (.sq (.rg [⟨(some 99), none, .mv (.t 19)⟩,
    ⟨(some 100), none, .iaa (.t 15) (.t 99) 3 1⟩,
    ⟨(some 101), none, .ld (.t 100) 1 false⟩,
    ⟨(some 102), none, .nc (.t 101)⟩,
    ⟨(some 103), none, .fa (.t 102) 20⟩,
    ⟨(some 104), none, .ld (.t 103) 1 false⟩])
  (.cd (.t 104)
  (.rg [⟨(some 105), none, .mv (.t 19)⟩,
    ⟨(some 106), none, .iaa (.t 14) (.t 105) 3 1⟩,
    ⟨none, none, .st (.t 106) (.c (.pointer none)) 1⟩])
  .sk))))))))))))
  (.sq (.rg [⟨(some 241), none, .mv (.t 7)⟩,
    ⟨(some 242), none, .ca 40 [(.t 241)]⟩,
    ⟨(some 243), none, .nt (.t 242)⟩])
  (.cd (.t 243)
  (.sq (.rg [⟨(some 4), none, .mv (.c (.bool false))⟩])
  .rt)
  .sk)))))
  (.rg [⟨(some 66), none, .mv (.t 18)⟩,
    ⟨(some 67), none, .ib .add (.t 66) (.c (.int .i64 1))⟩,
    ⟨(some 18), none, .mv (.t 67)⟩]))))))
  (.sq (.rg [⟨(some 244), none, .mv (.t 5)⟩,
    ⟨(some 4), none, .mv (.t 244)⟩])
  .rt))))))))))))))))⟩
theorem k6 : cF Tryz.prog Tryz.f6 = some c6 := by kernel_rfl
/-- rundale/rundalelaw14.GrantStale -/
def c7 : Fu := ⟨194, [.t 6],
  (.sq (.rg [⟨(some 6), none, .mv (.c (.bool false))⟩])
  (.sq (.rg [⟨(some 22), none, .ca 12 []⟩,
    ⟨(some 7), none, .mv (.t 22)⟩])
  (.sq (.sq (.rg [⟨(some 23), none, .mv (.t 7)⟩,
    ⟨(some 24), none, .nt (.t 23)⟩])
  (.cd (.t 24)
  (.sq (.rg [⟨(some 6), none, .mv (.c (.bool false))⟩])
  .rt)
  .sk))
  (.sq (.rg [⟨(some 25), none, .mv (.t 0)⟩,
    ⟨(some 26), none, .ca 13 [(.t 25)]⟩,
    ⟨(some 8), none, .al 24 [(.int .i64 0), (.int .i64 0), (.int .i64 0), (.int .i64 0), (.int .i64 0), (.int .i64 0)]⟩,
    ⟨none, none, .st (.t 8) (.t 26) 6⟩])
  (.sq (.rg [⟨(some 27), none, .fa (.t 8) 5⟩,
    ⟨none, none, .st (.t 27) (.c (.int .i64 1)) 1⟩,
    ⟨(some 28), none, .fa (.t 8) 4⟩,
    ⟨none, none, .st (.t 28) (.c (.int .i64 64)) 1⟩])
  (.sq (.rg [⟨(some 29), none, .ld (.t 8) 6 true⟩,
    ⟨(some 30), none, .ca 14 [(.t 29)]⟩,
    ⟨(some 9), none, .mv (.t 30)⟩])
  (.sq (.sq (.rg [⟨(some 31), none, .mv (.t 9)⟩,
    ⟨(some 32), none, .en 0 false (.t 31) (.c (.pointer none))⟩])
  (.cd (.t 32)
  (.sq (.rg [⟨(some 6), none, .mv (.c (.bool false))⟩])
  .rt)
  .sk))
  (.sq (.rg [⟨(some 34), none, .mv (.t 9)⟩,
    ⟨(some 35), none, .ca 25 [(.t 34), (.c (.int .i64 0))]⟩,
    ⟨(some 33), none, .mv (.t 35)⟩,
    ⟨(some 36), none, .ex (.t 33) 0⟩,
    ⟨(some 37), none, .ex (.t 33) 1⟩,
    ⟨(some 38), none, .ex (.t 33) 2⟩,
    ⟨(some 10), none, .mv (.t 36)⟩,
    ⟨(some 11), none, .mv (.t 37)⟩,
    ⟨(some 12), none, .mv (.t 38)⟩])
  (.sq (.sq (.rg [⟨(some 39), none, .mv (.t 12)⟩,
    ⟨(some 40), none, .nt (.t 39)⟩])
  (.cd (.t 40)
  (.sq (.rg [⟨(some 6), none, .mv (.c (.bool false))⟩])
  .rt)
  .sk))
  (.sq (.rd [⟨0, 0, [9], ⟨(some 42), none, .mv (.t 9)⟩⟩,
    ⟨1, 1, [42], ⟨(some 43), none, .nc (.t 42)⟩⟩,
    ⟨2, 3, [43], ⟨(some 44), none, .fa (.t 43) 8⟩⟩,
    ⟨3, 7, [44], ⟨(some 45), none, .ld (.t 44) 1 false⟩⟩,
    ⟨4, 0, [9], ⟨(some 46), none, .mv (.t 9)⟩⟩,
    ⟨5, 16, [46], ⟨(some 47), none, .nc (.t 46)⟩⟩,
    ⟨6, 48, [47], ⟨(some 48), none, .fa (.t 47) 10⟩⟩,
    ⟨7, 112, [48], ⟨(some 49), none, .ld (.t 48) 1 false⟩⟩,
    ⟨8, 240, [49], ⟨(some 50), none, .ia (.t 49) (.c (.int .i64 0)) 1⟩⟩,
    ⟨9, 496, [50], ⟨(some 51), none, .ld (.t 50) 1 false⟩⟩,
    ⟨10, 0, [10], ⟨(some 52), none, .mv (.t 10)⟩⟩,
    ⟨11, 0, [11], ⟨(some 53), none, .mv (.t 11)⟩⟩,
    ⟨12, 0, [2], ⟨(some 54), none, .mv (.t 2)⟩⟩,
    ⟨13, 0, [8], ⟨(some 55), none, .fa (.t 8) 2⟩⟩,
    ⟨14, 8192, [55], ⟨(some 56), none, .ld (.t 55) 1 false⟩⟩,
    ⟨15, 28672, [54, 56], ⟨(some 57), none, .ca 16 [(.t 54), (.t 56)]⟩⟩,
    ⟨16, 61440, [57], ⟨(some 58), none, .ib .add (.c (.int .i64 1)) (.t 57)⟩⟩,
    ⟨17, 131071, [45, 51, 52, 53, 58], ⟨(some 59), none, .ca 19 [(.t 45), (.t 51), (.t 52), (.t 53), (.t 58)]⟩⟩,
    ⟨18, 262143, [59], ⟨(some 41), none, .mv (.t 59)⟩⟩,
    ⟨19, 524287, [41], ⟨(some 60), none, .ex (.t 41) 0⟩⟩,
    ⟨20, 524287, [41], ⟨(some 61), none, .ex (.t 41) 1⟩⟩,
    ⟨21, 1048575, [60], ⟨(some 13), none, .mv (.t 60)⟩⟩,
    ⟨22, 4194303, [61], ⟨(some 14), none, .mv (.t 61)⟩⟩])
  (.sq (.sq (.rg [⟨(some 62), none, .mv (.t 13)⟩,
    ⟨(some 63), none, .en 0 false (.t 62) (.c (.pointer none))⟩,
    ⟨(some 64), none, .mv (.t 63)⟩,
    ⟨(some 65), (some (64, false)), .mv (.t 14)⟩,
    ⟨(some 66), (some (64, false)), .ib .neq (.t 65) (.c (.int .i64 0))⟩,
    ⟨(some 67), none, .pk (.t 64) (.c (.bool true)) (.t 66)⟩])
  (.cd (.t 67)
  (.sq (.rg [⟨(some 6), none, .mv (.c (.bool false))⟩])
  .rt)
  .sk))
  (.sq (.rg [⟨(some 68), none, .mv (.t 1)⟩,
    ⟨(some 69), none, .fa (.t 8) 2⟩,
    ⟨(some 70), none, .ld (.t 69) 1 false⟩,
    ⟨(some 71), none, .ib .add (.t 70) (.c (.int .i64 8))⟩,
    ⟨(some 72), none, .ca 16 [(.t 68), (.t 71)]⟩,
    ⟨(some 15), none, .mv (.t 72)⟩])
  (.sq (.sq (.rg [⟨(some 16), none, .mv (.c (.int .i64 0))⟩])
  (.bl 0
  (.lp
  (.sq (.sq (.rg [⟨(some 73), none, .mv (.t 16)⟩,
    ⟨(some 74), none, .mv (.t 15)⟩,
    ⟨(some 75), none, .ib .lss (.t 73) (.t 74)⟩])
  (.cd (.t 75)
  .sk
  (.ex 0)))
  (.sq (.bl 1
  (.rg [⟨(some 78), none, .mv (.t 13)⟩,
    ⟨(some 79), none, .ca 26 [(.t 78)]⟩]))
  (.rg [⟨(some 76), none, .mv (.t 16)⟩,
    ⟨(some 77), none, .ib .add (.t 76) (.c (.int .i64 1))⟩,
    ⟨(some 16), none, .mv (.t 77)⟩]))))))
  (.sq (.rg [⟨(some 80), none, .mv (.t 13)⟩,
    ⟨(some 81), none, .ca 27 [(.t 80)]⟩,
    ⟨(some 17), none, .mv (.t 81)⟩])
  (.sq (.rg [⟨(some 83), none, .mv (.t 9)⟩,
    ⟨(some 84), none, .nc (.t 83)⟩,
    ⟨(some 85), none, .fa (.t 84) 7⟩,
    ⟨(some 86), none, .ld (.t 85) 1 false⟩,
    ⟨(some 87), none, .mv (.t 10)⟩,
    ⟨(some 88), none, .mv (.t 11)⟩,
    ⟨(some 89), none, .ca 35 [(.t 86), (.t 87), (.t 88)]⟩,
    ⟨(some 82), none, .mv (.t 89)⟩,
    ⟨(some 90), none, .ex (.t 82) 0⟩,
    ⟨(some 91), none, .ex (.t 82) 1⟩,
    ⟨(some 18), none, .mv (.t 90)⟩,
    ⟨(some 19), none, .mv (.t 91)⟩])
  (.sq (.sq (.rg [⟨(some 92), none, .mv (.t 18)⟩,
    ⟨(some 93), none, .en 0 false (.t 92) (.c (.pointer none))⟩,
    ⟨(some 94), none, .mv (.t 93)⟩,
    ⟨(some 95), (some (94, false)), .mv (.t 19)⟩,
    ⟨(some 96), (some (94, false)), .ib .neq (.t 95) (.c (.int .i64 0))⟩,
    ⟨(some 97), none, .pk (.t 94) (.c (.bool true)) (.t 96)⟩,
    ⟨(some 98), none, .mv (.t 97)⟩,
    ⟨(some 99), (some (98, false)), .mv (.t 18)⟩,
    ⟨(some 100), (some (98, false)), .ca 32 [(.t 99)]⟩,
    ⟨(some 101), (some (98, false)), .nt (.t 100)⟩,
    ⟨(some 102), none, .pk (.t 98) (.c (.bool true)) (.t 101)⟩,
    ⟨(some 103), none, .mv (.t 102)⟩,
    ⟨(some 104), (some (103, false)), .mv (.t 18)⟩,
    ⟨(some 105), (some (103, false)), .ca 32 [(.t 104)]⟩,
    ⟨(some 106), (some (103, false)), .nt (.t 105)⟩,
    ⟨(some 107), none, .pk (.t 103) (.c (.bool true)) (.t 106)⟩,
    ⟨(some 108), none, .mv (.t 107)⟩,
    ⟨(some 109), (some (108, false)), .mv (.t 18)⟩,
    ⟨(some 110), (some (108, false)), .ca 34 [(.t 109)]⟩,
    ⟨(some 111), (some (108, false)), .nt (.t 110)⟩,
    ⟨(some 112), none, .pk (.t 108) (.c (.bool true)) (.t 111)⟩,
    ⟨(some 113), none, .mv (.t 112)⟩,
    ⟨(some 114), (some (113, false)), .mv (.t 18)⟩,
    ⟨(some 115), (some (113, false)), .ca 41 [(.t 114)]⟩,
    ⟨(some 116), (some (113, false)), .ib .neq (.t 115) (.c (.int .i64 0))⟩,
    ⟨(some 117), none, .pk (.t 113) (.c (.bool true)) (.t 116)⟩])
  (.cd (.t 117)
  (.sq (.rg [⟨(some 6), none, .mv (.c (.bool false))⟩])
  .rt)
  .sk))
  (.sq (.sq (.rg [⟨(some 20), none, .mv (.c (.int .i64 0))⟩])
  (.bl 2
  (.lp
  (.sq (.sq (.rg [⟨(some 118), none, .mv (.t 20)⟩,
    ⟨(some 119), none, .ib .lss (.t 118) (.c (.int .i64 60))⟩])
  (.cd (.t 119)
  .sk
  (.ex 2)))
  (.sq (.bl 3
  (.rg [⟨(some 122), none, .mv (.t 13)⟩,
    ⟨(some 123), none, .ca 26 [(.t 122)]⟩]))
  (.rg [⟨(some 120), none, .mv (.t 20)⟩,
    ⟨(some 121), none, .ib .add (.t 120) (.c (.int .i64 1))⟩,
    ⟨(some 20), none, .mv (.t 121)⟩]))))))
  (.sq (.sq (.rg [⟨(some 124), none, .mv (.t 13)⟩,
    ⟨(some 125), none, .ca 27 [(.t 124)]⟩,
    ⟨(some 126), none, .nt (.t 125)⟩,
    ⟨(some 127), none, .mv (.t 126)⟩,
    ⟨(some 128), (some (127, false)), .mv (.t 13)⟩,
    ⟨(some 129), (some (127, false)), .ca 42 [(.t 128)]⟩,
    ⟨(some 130), (some (127, false)), .len (.t 129)⟩,
    ⟨(some 131), (some (127, false)), .ib .neq (.t 130) (.c (.int .i64 0))⟩,
    ⟨(some 132), none, .pk (.t 127) (.c (.bool true)) (.t 131)⟩])
  (.cd (.t 132)
  (.sq (.rg [⟨(some 6), none, .mv (.c (.bool false))⟩])
  .rt)
  .sk))
  (.sq (.sq (.rg [⟨(some 133), none, .mv (.t 17)⟩])
  (.cd (.t 133)
  (.sq (.rg [⟨(some 134), none, .mv (.t 7)⟩,
    ⟨(some 135), none, .mv (.t 134)⟩,
    ⟨(some 136), (some (135, true)), .mv (.t 13)⟩,
    ⟨(some 137), (some (135, true)), .ca 21 [(.t 136)]⟩,
    ⟨(some 138), (some (135, true)), .ib .eql (.t 137) (.c (.int .i64 0))⟩,
    ⟨(some 139), none, .pk (.t 135) (.t 138) (.c (.bool false))⟩,
    ⟨(some 140), none, .mv (.t 139)⟩,
    ⟨(some 141), (some (140, true)), .mv (.t 18)⟩,
    ⟨(some 142), (some (140, true)), .ca 43 [(.t 141)]⟩,
    ⟨(some 143), (some (140, true)), .mv (.t 13)⟩,
    ⟨(some 144), (some (140, true)), .ca 28 [(.t 143)]⟩,
    ⟨(some 145), (some (140, true)), .fv (.t 144) 2 1 false⟩,
    ⟨(some 146), (some (140, true)), .ib .eql (.t 142) (.t 145)⟩,
    ⟨(some 147), none, .pk (.t 140) (.t 146) (.c (.bool false))⟩,
    ⟨(some 6), none, .mv (.t 147)⟩])
  .rt)
  .sk))
  (.sq (.rg [⟨(some 148), none, .mv (.t 9)⟩,
    ⟨(some 149), none, .nc (.t 148)⟩,
    ⟨(some 150), none, .fa (.t 149) 10⟩,
    ⟨(some 151), none, .ld (.t 150) 1 false⟩,
    ⟨(some 152), none, .ia (.t 151) (.c (.int .i64 0)) 1⟩,
    ⟨(some 153), none, .ld (.t 152) 1 false⟩,
    ⟨(some 154), none, .ca 44 [(.t 153)]⟩,
    ⟨(some 155), none, .len (.t 154)⟩,
    ⟨(some 21), none, .mv (.t 155)⟩])
  (.sq (.rd [⟨0, 0, [7], ⟨(some 156), none, .mv (.t 7)⟩⟩,
    ⟨1, 1, [156], ⟨(some 157), none, .mv (.t 156)⟩⟩,
    ⟨2, 3, [13, 157], ⟨(some 158), (some (157, true)), .mv (.t 13)⟩⟩,
    ⟨3, 7, [158, 157], ⟨(some 159), (some (157, true)), .ca 21 [(.t 158)]⟩⟩,
    ⟨4, 15, [159, 157], ⟨(some 160), (some (157, true)), .ib .eql (.t 159) (.c (.int .i64 3))⟩⟩,
    ⟨5, 31, [157, 160], ⟨(some 161), none, .pk (.t 157) (.t 160) (.c (.bool false))⟩⟩,
    ⟨6, 63, [161], ⟨(some 162), none, .mv (.t 161)⟩⟩,
    ⟨7, 127, [13, 162], ⟨(some 163), (some (162, true)), .mv (.t 13)⟩⟩,
    ⟨8, 255, [163, 162], ⟨(some 164), (some (162, true)), .ca 28 [(.t 163)]⟩⟩,
    ⟨9, 127, [162], ⟨(some 165), (some (162, true)), .bd [(.int .i64 0), (.int .i64 0), (.int .i64 0), (.int .i64 0), (.int .i64 0)] []⟩⟩,
    ⟨10, 1023, [164, 165, 162], ⟨(some 166), (some (162, true)), .es 5 false (.t 164) (.t 165)⟩⟩,
    ⟨11, 2047, [162, 166], ⟨(some 167), none, .pk (.t 162) (.t 166) (.c (.bool false))⟩⟩,
    ⟨12, 4095, [167], ⟨(some 168), none, .mv (.t 167)⟩⟩,
    ⟨13, 8191, [18, 168], ⟨(some 169), (some (168, true)), .mv (.t 18)⟩⟩,
    ⟨14, 16383, [169, 168], ⟨(some 170), (some (168, true)), .ca 43 [(.t 169)]⟩⟩,
    ⟨15, 32767, [170, 168], ⟨(some 171), (some (168, true)), .ib .eql (.t 170) (.c (.int .i64 (-1)))⟩⟩,
    ⟨16, 65535, [168, 171], ⟨(some 172), none, .pk (.t 168) (.t 171) (.c (.bool false))⟩⟩,
    ⟨17, 131071, [172], ⟨(some 173), none, .mv (.t 172)⟩⟩,
    ⟨18, 262143, [21, 173], ⟨(some 174), (some (173, true)), .mv (.t 21)⟩⟩,
    ⟨19, 262143, [9, 173], ⟨(some 175), (some (173, true)), .mv (.t 9)⟩⟩,
    ⟨20, 786431, [175, 173], ⟨(some 176), (some (173, true)), .nc (.t 175)⟩⟩,
    ⟨21, 1835007, [176, 173], ⟨(some 177), (some (173, true)), .fa (.t 176) 9⟩⟩,
    ⟨22, 3932159, [177, 173], ⟨(some 178), (some (173, true)), .ld (.t 177) 1 false⟩⟩,
    ⟨23, 8126463, [178, 173], ⟨(some 179), (some (173, true)), .ca 31 [(.t 178)]⟩⟩,
    ⟨24, 16515071, [179, 173], ⟨(some 180), (some (173, true)), .len (.t 179)⟩⟩,
    ⟨25, 33554431, [174, 180, 173], ⟨(some 181), (some (173, true)), .ib .add (.t 174) (.t 180)⟩⟩,
    ⟨26, 262143, [8, 173], ⟨(some 182), (some (173, true)), .fa (.t 8) 1⟩⟩,
    ⟨27, 67371007, [182, 173], ⟨(some 183), (some (173, true)), .ld (.t 182) 1 false⟩⟩,
    ⟨28, 268435455, [181, 183, 173], ⟨(some 184), (some (173, true)), .ib .eql (.t 181) (.t 183)⟩⟩,
    ⟨29, 536870911, [173, 184], ⟨(some 185), none, .pk (.t 173) (.t 184) (.c (.bool false))⟩⟩,
    ⟨30, 1073741823, [185], ⟨(some 186), none, .mv (.t 185)⟩⟩,
    ⟨31, 2147483647, [15, 186], ⟨(some 187), (some (186, true)), .mv (.t 15)⟩⟩,
    ⟨32, 4294967295, [187, 186], ⟨(some 188), (some (186, true)), .ib .lss (.t 187) (.c (.int .i64 4))⟩⟩,
    ⟨33, 8589934591, [188, 186], ⟨(some 189), (some (186, true)), .mv (.t 188)⟩⟩,
    ⟨34, 17179869183, [21, 189], ⟨(some 190), (some (189, false)), .mv (.t 21)⟩⟩,
    ⟨35, 34359738367, [190, 189], ⟨(some 191), (some (189, false)), .ib .eql (.t 190) (.c (.int .i64 1))⟩⟩,
    ⟨36, 68719476735, [189, 191, 186], ⟨(some 192), (some (186, true)), .pk (.t 189) (.c (.bool true)) (.t 191)⟩⟩,
    ⟨37, 137438953471, [186, 192], ⟨(some 193), none, .pk (.t 186) (.t 192) (.c (.bool false))⟩⟩,
    ⟨38, 274877906943, [193], ⟨(some 6), none, .mv (.t 193)⟩⟩])
  .rt)))))))))))))))))))))⟩
/-- rundale/rundalelaw15.EndingNone -/
def c8 : Fu := ⟨150, [.t 6],
  (.sq (.rg [⟨(some 6), none, .mv (.c (.bool false))⟩])
  (.sq (.rg [⟨(some 19), none, .ca 45 []⟩,
    ⟨(some 7), none, .mv (.t 19)⟩])
  (.sq (.sq (.rg [⟨(some 20), none, .mv (.t 7)⟩,
    ⟨(some 21), none, .nt (.t 20)⟩])
  (.cd (.t 21)
  (.sq (.rg [⟨(some 6), none, .mv (.c (.bool false))⟩])
  .rt)
  .sk))
  (.sq (.rg [⟨(some 22), none, .mv (.t 0)⟩,
    ⟨(some 23), none, .ca 13 [(.t 22)]⟩,
    ⟨(some 8), none, .al 24 [(.int .i64 0), (.int .i64 0), (.int .i64 0), (.int .i64 0), (.int .i64 0), (.int .i64 0)]⟩,
    ⟨none, none, .st (.t 8) (.t 23) 6⟩])
  (.sq (.rg [⟨(some 24), none, .ld (.t 8) 6 true⟩,
    ⟨(some 25), none, .ca 46 [(.t 24)]⟩,
    ⟨(some 9), none, .mv (.t 25)⟩])
  (.sq (.rg [⟨(some 27), none, .mv (.t 2)⟩,
    ⟨(some 28), none, .ld (.t 8) 6 true⟩,
    ⟨(some 29), none, .ca 17 [(.t 28)]⟩,
    ⟨(some 30), none, .ib .sub (.t 29) (.c (.int .i64 1))⟩,
    ⟨(some 31), none, .ca 16 [(.t 27), (.t 30)]⟩,
    ⟨(some 32), none, .ib .add (.c (.int .i64 1)) (.t 31)⟩,
    ⟨(some 33), none, .ca 15 [(.t 32)]⟩,
    ⟨(some 26), none, .mv (.t 33)⟩,
    ⟨(some 34), none, .ex (.t 26) 0⟩,
    ⟨(some 35), none, .ex (.t 26) 1⟩,
    ⟨(some 10), none, .mv (.t 34)⟩,
    ⟨(some 11), none, .mv (.t 35)⟩])
  (.sq (.sq (.rg [⟨(some 36), none, .mv (.t 9)⟩,
    ⟨(some 37), none, .en 0 false (.t 36) (.c (.pointer none))⟩,
    ⟨(some 38), none, .mv (.t 37)⟩,
    ⟨(some 39), (some (38, false)), .mv (.t 10)⟩,
    ⟨(some 40), (some (38, false)), .en 0 false (.t 39) (.c (.pointer none))⟩,
    ⟨(some 41), none, .pk (.t 38) (.c (.bool true)) (.t 40)⟩,
    ⟨(some 42), none, .mv (.t 41)⟩,
    ⟨(some 43), (some (42, false)), .mv (.t 11)⟩,
    ⟨(some 44), (some (42, false)), .ib .neq (.t 43) (.c (.int .i64 0))⟩,
    ⟨(some 45), none, .pk (.t 42) (.c (.bool true)) (.t 44)⟩])
  (.cd (.t 45)
  (.sq (.rg [⟨(some 6), none, .mv (.c (.bool false))⟩])
  .rt)
  .sk))
  (.sq (.rg [⟨(some 47), none, .mv (.t 10)⟩,
    ⟨(some 48), none, .ld (.t 8) 6 true⟩,
    ⟨(some 49), none, .ca 47 [(.t 47), (.t 48)]⟩,
    ⟨(some 46), none, .mv (.t 49)⟩,
    ⟨(some 50), none, .ex (.t 46) 0⟩,
    ⟨(some 51), none, .ex (.t 46) 1⟩,
    ⟨(some 12), none, .mv (.t 50)⟩,
    ⟨(some 13), none, .mv (.t 51)⟩])
  (.sq (.rd [⟨0, 0, [8], ⟨(some 52), none, .fa (.t 8) 3⟩⟩,
    ⟨1, 1, [52], ⟨(some 53), none, .ld (.t 52) 1 false⟩⟩,
    ⟨2, 0, [1], ⟨(some 54), none, .mv (.t 1)⟩⟩,
    ⟨3, 4, [54], ⟨(some 55), none, .ca 16 [(.t 54), (.c (.int .i64 1000))]⟩⟩,
    ⟨4, 15, [53, 55], ⟨(some 56), none, .ib .add (.t 53) (.t 55)⟩⟩,
    ⟨5, 31, [56], ⟨(some 14), none, .mv (.t 56)⟩⟩])
  (.sq (.sq (.rg [⟨(some 57), none, .mv (.t 1)⟩,
    ⟨(some 58), none, .ca 16 [(.t 57), (.c (.int .i64 2))]⟩,
    ⟨(some 59), none, .ib .eql (.t 58) (.c (.int .i64 1))⟩])
  (.cd (.t 59)
  (.rg [⟨(some 60), none, .mv (.t 1)⟩,
    ⟨(some 61), none, .ca 16 [(.t 60), (.c (.int .i64 1000))]⟩,
    ⟨(some 62), none, .ib .sub (.c (.int .i64 (-1))) (.t 61)⟩,
    ⟨(some 14), none, .mv (.t 62)⟩])
  .sk))
  (.sq (.rd [⟨0, 0, [9], ⟨(some 64), none, .mv (.t 9)⟩⟩,
    ⟨1, 1, [64], ⟨(some 65), none, .nc (.t 64)⟩⟩,
    ⟨2, 3, [65], ⟨(some 66), none, .fa (.t 65) 9⟩⟩,
    ⟨3, 7, [66], ⟨(some 67), none, .ld (.t 66) 1 false⟩⟩,
    ⟨4, 0, [9], ⟨(some 68), none, .mv (.t 9)⟩⟩,
    ⟨5, 16, [68], ⟨(some 69), none, .nc (.t 68)⟩⟩,
    ⟨6, 48, [69], ⟨(some 70), none, .fa (.t 69) 11⟩⟩,
    ⟨7, 112, [70], ⟨(some 71), none, .ld (.t 70) 1 false⟩⟩,
    ⟨8, 240, [71], ⟨(some 72), none, .ia (.t 71) (.c (.int .i64 0)) 1⟩⟩,
    ⟨9, 496, [72], ⟨(some 73), none, .ld (.t 72) 1 false⟩⟩,
    ⟨10, 0, [14], ⟨(some 74), none, .mv (.t 14)⟩⟩,
    ⟨11, 2047, [67, 73, 74], ⟨(some 75), none, .ca 48 [(.t 67), (.t 73), (.t 74), (.c (.int .i64 1))]⟩⟩,
    ⟨12, 4095, [75], ⟨(some 63), none, .mv (.t 75)⟩⟩,
    ⟨13, 8191, [63], ⟨(some 76), none, .ex (.t 63) 0⟩⟩,
    ⟨14, 8191, [63], ⟨(some 77), none, .ex (.t 63) 1⟩⟩,
    ⟨15, 16383, [76], ⟨(some 15), none, .mv (.t 76)⟩⟩,
    ⟨16, 65535, [77], ⟨(some 16), none, .mv (.t 77)⟩⟩])
  (.sq (.rg [⟨(some 79), none, .mv (.t 9)⟩,
    ⟨(some 80), none, .mv (.t 1)⟩,
    ⟨(some 81), none, .fa (.t 8) 3⟩,
    ⟨(some 82), none, .ld (.t 81) 1 false⟩,
    ⟨(some 83), none, .ca 16 [(.t 80), (.t 82)]⟩,
    ⟨(some 84), none, .mv (.t 2)⟩,
    ⟨(some 85), none, .ca 49 [(.t 79), (.c (.int .i64 0)), (.t 83), (.t 84)]⟩,
    ⟨(some 78), none, .mv (.t 85)⟩,
    ⟨(some 86), none, .ex (.t 78) 0⟩,
    ⟨(some 87), none, .ex (.t 78) 1⟩,
    ⟨(some 17), none, .mv (.t 86)⟩,
    ⟨(some 18), none, .mv (.t 87)⟩])
  (.sq (.rd [⟨0, 0, [7], ⟨(some 88), none, .mv (.t 7)⟩⟩,
    ⟨1, 1, [88], ⟨(some 89), none, .mv (.t 88)⟩⟩,
    ⟨2, 3, [12, 89], ⟨(some 90), (some (89, true)), .mv (.t 12)⟩⟩,
    ⟨3, 7, [90, 89], ⟨(some 91), (some (89, true)), .en 0 false (.t 90) (.c (.pointer none))⟩⟩,
    ⟨4, 15, [89, 91], ⟨(some 92), none, .pk (.t 89) (.t 91) (.c (.bool false))⟩⟩,
    ⟨5, 31, [92], ⟨(some 93), none, .mv (.t 92)⟩⟩,
    ⟨6, 63, [13, 93], ⟨(some 94), (some (93, true)), .mv (.t 13)⟩⟩,
    ⟨7, 127, [94, 93], ⟨(some 95), (some (93, true)), .ib .eql (.t 94) (.c (.int .i64 1))⟩⟩,
    ⟨8, 255, [93, 95], ⟨(some 96), none, .pk (.t 93) (.t 95) (.c (.bool false))⟩⟩,
    ⟨9, 511, [96], ⟨(some 97), none, .mv (.t 96)⟩⟩,
    ⟨10, 1023, [15, 97], ⟨(some 98), (some (97, true)), .mv (.t 15)⟩⟩,
    ⟨11, 2047, [98, 97], ⟨(some 99), (some (97, true)), .en 0 false (.t 98) (.c (.pointer none))⟩⟩,
    ⟨12, 4095, [97, 99], ⟨(some 100), none, .pk (.t 97) (.t 99) (.c (.bool false))⟩⟩,
    ⟨13, 8191, [100], ⟨(some 101), none, .mv (.t 100)⟩⟩,
    ⟨14, 16383, [16, 101], ⟨(some 102), (some (101, true)), .mv (.t 16)⟩⟩,
    ⟨15, 32767, [102, 101], ⟨(some 103), (some (101, true)), .ib .eql (.t 102) (.c (.int .i64 1))⟩⟩,
    ⟨16, 65535, [101, 103], ⟨(some 104), none, .pk (.t 101) (.t 103) (.c (.bool false))⟩⟩,
    ⟨17, 131071, [104], ⟨(some 105), none, .mv (.t 104)⟩⟩,
    ⟨18, 262143, [17, 105], ⟨(some 106), (some (105, true)), .mv (.t 17)⟩⟩,
    ⟨19, 524287, [106, 105], ⟨(some 107), (some (105, true)), .en 0 true (.t 106) (.c (.pointer none))⟩⟩,
    ⟨20, 1048575, [105, 107], ⟨(some 108), none, .pk (.t 105) (.t 107) (.c (.bool false))⟩⟩,
    ⟨21, 2097151, [108], ⟨(some 109), none, .mv (.t 108)⟩⟩,
    ⟨22, 4194303, [18, 109], ⟨(some 110), (some (109, true)), .mv (.t 18)⟩⟩,
    ⟨23, 8388607, [110, 109], ⟨(some 111), (some (109, true)), .ib .eql (.t 110) (.c (.int .i64 1))⟩⟩,
    ⟨24, 16777215, [109, 111], ⟨(some 112), none, .pk (.t 109) (.t 111) (.c (.bool false))⟩⟩,
    ⟨25, 33554431, [112], ⟨(some 113), none, .mv (.t 112)⟩⟩,
    ⟨26, 67108863, [17, 113], ⟨(some 114), (some (113, true)), .mv (.t 17)⟩⟩,
    ⟨27, 134217727, [114, 113], ⟨(some 115), (some (113, true)), .ca 50 [(.t 114)]⟩⟩,
    ⟨28, 268435455, [115, 113], ⟨(some 116), (some (113, true)), .ib .eql (.t 115) (.c (.int .i64 3))⟩⟩,
    ⟨29, 536870911, [113, 116], ⟨(some 117), none, .pk (.t 113) (.t 116) (.c (.bool false))⟩⟩,
    ⟨30, 1073741823, [117], ⟨(some 118), none, .mv (.t 117)⟩⟩,
    ⟨31, 2147483647, [17, 118], ⟨(some 119), (some (118, true)), .mv (.t 17)⟩⟩,
    ⟨32, 4294967295, [119, 118], ⟨(some 120), (some (118, true)), .ca 51 [(.t 119)]⟩⟩,
    ⟨33, 8589934591, [120, 118], ⟨(some 121), (some (118, true)), .ib .eql (.t 120) (.c (.int .i64 1))⟩⟩,
    ⟨34, 17179869183, [118, 121], ⟨(some 122), none, .pk (.t 118) (.t 121) (.c (.bool false))⟩⟩,
    ⟨35, 34359738367, [122], ⟨(some 123), none, .mv (.t 122)⟩⟩,
    ⟨36, 68719476735, [17, 123], ⟨(some 124), (some (123, true)), .mv (.t 17)⟩⟩,
    ⟨37, 137438953471, [124, 123], ⟨(some 125), (some (123, true)), .ca 52 [(.t 124)]⟩⟩,
    ⟨38, 274877906943, [125, 123], ⟨(some 126), (some (123, true)), .ib .eql (.t 125) (.c (.int .i64 0))⟩⟩,
    ⟨39, 549755813887, [123, 126], ⟨(some 127), none, .pk (.t 123) (.t 126) (.c (.bool false))⟩⟩,
    ⟨40, 1099511627775, [127], ⟨(some 128), none, .mv (.t 127)⟩⟩,
    ⟨41, 2199023255551, [9, 128], ⟨(some 129), (some (128, true)), .mv (.t 9)⟩⟩,
    ⟨42, 4398046511103, [129, 128], ⟨(some 130), (some (128, true)), .nc (.t 129)⟩⟩,
    ⟨43, 8796093022207, [130, 128], ⟨(some 131), (some (128, true)), .fa (.t 130) 7⟩⟩,
    ⟨44, 17592186044415, [131, 128], ⟨(some 132), (some (128, true)), .ld (.t 131) 1 false⟩⟩,
    ⟨45, 35184372088831, [132, 128], ⟨(some 133), (some (128, true)), .ca 53 [(.t 132)]⟩⟩,
    ⟨46, 70368744177663, [133, 128], ⟨(some 134), (some (128, true)), .len (.t 133)⟩⟩,
    ⟨47, 2199023255551, [8, 128], ⟨(some 135), (some (128, true)), .fa (.t 8) 3⟩⟩,
    ⟨48, 142936511610879, [135, 128], ⟨(some 136), (some (128, true)), .ld (.t 135) 1 false⟩⟩,
    ⟨49, 562949953421311, [134, 136, 128], ⟨(some 137), (some (128, true)), .ib .eql (.t 134) (.t 136)⟩⟩,
    ⟨50, 1125899906842623, [128, 137], ⟨(some 138), none, .pk (.t 128) (.t 137) (.c (.bool false))⟩⟩,
    ⟨51, 2251799813685247, [138], ⟨(some 139), none, .mv (.t 138)⟩⟩,
    ⟨52, 4503599627370495, [9, 139], ⟨(some 140), (some (139, true)), .mv (.t 9)⟩⟩,
    ⟨53, 9007199254740991, [140, 139], ⟨(some 141), (some (139, true)), .nc (.t 140)⟩⟩,
    ⟨54, 18014398509481983, [141, 139], ⟨(some 142), (some (139, true)), .fa (.t 141) 10⟩⟩,
    ⟨55, 36028797018963967, [142, 139], ⟨(some 143), (some (139, true)), .ld (.t 142) 1 false⟩⟩,
    ⟨56, 72057594037927935, [143, 139], ⟨(some 144), (some (139, true)), .ca 31 [(.t 143)]⟩⟩,
    ⟨57, 144115188075855871, [144, 139], ⟨(some 145), (some (139, true)), .len (.t 144)⟩⟩,
    ⟨58, 4503599627370495, [8, 139], ⟨(some 146), (some (139, true)), .fa (.t 8) 1⟩⟩,
    ⟨59, 292733975779082239, [146, 139], ⟨(some 147), (some (139, true)), .ld (.t 146) 1 false⟩⟩,
    ⟨60, 1152921504606846975, [145, 147, 139], ⟨(some 148), (some (139, true)), .ib .eql (.t 145) (.t 147)⟩⟩,
    ⟨61, 2305843009213693951, [139, 148], ⟨(some 149), none, .pk (.t 139) (.t 148) (.c (.bool false))⟩⟩,
    ⟨62, 4611686018427387903, [149], ⟨(some 6), none, .mv (.t 149)⟩⟩])
  .rt)))))))))))))⟩
theorem k8 : cF Tryz.prog Tryz.f8 = some c8 := by kernel_rfl
/-- rundale/rundalelaw15.EndingOnce -/
def c9 : Fu := ⟨193, [.t 4],
  (.sq (.rg [⟨(some 4), none, .mv (.c (.bool false))⟩])
  (.sq (.rg [⟨(some 23), none, .ca 45 []⟩,
    ⟨(some 5), none, .mv (.t 23)⟩])
  (.sq (.sq (.rg [⟨(some 24), none, .mv (.t 5)⟩,
    ⟨(some 25), none, .nt (.t 24)⟩])
  (.cd (.t 25)
  (.sq (.rg [⟨(some 4), none, .mv (.c (.bool false))⟩])
  .rt)
  .sk))
  (.sq (.sq (.rg [⟨(some 26), none, .mv (.t 1)⟩,
    ⟨(some 27), none, .len (.t 26)⟩,
    ⟨(some 28), none, .ib .gtr (.t 27) (.c (.int .i64 60))⟩])
  (.cd (.t 28)
  (.sq (.rg [⟨(some 29), none, .mv (.t 5)⟩,
    ⟨(some 4), none, .mv (.t 29)⟩])
  .rt)
  .sk))
  (.sq (.rg [⟨(some 30), none, .mv (.t 0)⟩,
    ⟨(some 31), none, .ca 13 [(.t 30)]⟩,
    ⟨(some 6), none, .al 24 [(.int .i64 0), (.int .i64 0), (.int .i64 0), (.int .i64 0), (.int .i64 0), (.int .i64 0)]⟩,
    ⟨none, none, .st (.t 6) (.t 31) 6⟩])
  (.sq (.rg [⟨(some 32), none, .ld (.t 6) 6 true⟩,
    ⟨(some 33), none, .ca 46 [(.t 32)]⟩,
    ⟨(some 7), none, .mv (.t 33)⟩])
  (.sq (.sq (.rg [⟨(some 34), none, .mv (.t 7)⟩,
    ⟨(some 35), none, .en 0 false (.t 34) (.c (.pointer none))⟩])
  (.cd (.t 35)
  (.sq (.rg [⟨(some 4), none, .mv (.c (.bool false))⟩])
  .rt)
  .sk))
  (.sq (.rg [⟨(some 37), none, .mv (.t 7)⟩,
    ⟨(some 38), none, .ca 54 [(.t 37), (.c (.int .i64 0)), (.c (.int .i64 1)), (.c (.int .i64 1))]⟩,
    ⟨(some 36), none, .mv (.t 38)⟩,
    ⟨(some 39), none, .ex (.t 36) 0⟩,
    ⟨(some 40), none, .ex (.t 36) 1⟩,
    ⟨(some 41), none, .ex (.t 36) 2⟩,
    ⟨(some 8), none, .mv (.t 39)⟩,
    ⟨(some 9), none, .mv (.t 40)⟩,
    ⟨(some 10), none, .mv (.t 41)⟩])
  (.sq (.sq (.rg [⟨(some 42), none, .mv (.t 10)⟩,
    ⟨(some 43), none, .nt (.t 42)⟩])
  (.cd (.t 43)
  (.sq (.rg [⟨(some 4), none, .mv (.c (.bool false))⟩])
  .rt)
  .sk))
  (.sq (.rg [⟨(some 11), none, .al 102 [(.pointer none), (.pointer none), (.pointer none)]⟩])
  (.sq (.sq (.rg [⟨(some 12), none, .mv (.c (.int .i64 0))⟩])
  (.bl 0
  (.lp
  (.sq (.sq (.rg [⟨(some 44), none, .mv (.t 12)⟩,
    ⟨(some 45), none, .ib .lss (.t 44) (.c (.int .i64 3))⟩])
  (.cd (.t 45)
  .sk
  (.ex 0)))
  (.sq (.bl 1
  (.sq (.rd [⟨0, 0, [7], ⟨(some 49), none, .mv (.t 7)⟩⟩,
    ⟨1, 1, [49], ⟨(some 50), none, .nc (.t 49)⟩⟩,
    ⟨2, 3, [50], ⟨(some 51), none, .fa (.t 50) 9⟩⟩,
    ⟨3, 7, [51], ⟨(some 52), none, .ld (.t 51) 1 false⟩⟩,
    ⟨4, 0, [7], ⟨(some 53), none, .mv (.t 7)⟩⟩,
    ⟨5, 16, [53], ⟨(some 54), none, .nc (.t 53)⟩⟩,
    ⟨6, 48, [54], ⟨(some 55), none, .fa (.t 54) 11⟩⟩,
    ⟨7, 112, [55], ⟨(some 56), none, .ld (.t 55) 1 false⟩⟩,
    ⟨8, 0, [12], ⟨(some 57), none, .mv (.t 12)⟩⟩,
    ⟨9, 496, [56, 57], ⟨(some 58), none, .ia (.t 56) (.t 57) 1⟩⟩,
    ⟨10, 1008, [58], ⟨(some 59), none, .ld (.t 58) 1 false⟩⟩,
    ⟨11, 0, [8], ⟨(some 60), none, .mv (.t 8)⟩⟩,
    ⟨12, 0, [9], ⟨(some 61), none, .mv (.t 9)⟩⟩,
    ⟨13, 8191, [52, 59, 60, 61], ⟨(some 62), none, .ca 48 [(.t 52), (.t 59), (.t 60), (.t 61)]⟩⟩,
    ⟨14, 16383, [62], ⟨(some 48), none, .mv (.t 62)⟩⟩,
    ⟨15, 32767, [48], ⟨(some 63), none, .ex (.t 48) 0⟩⟩,
    ⟨16, 32767, [48], ⟨(some 64), none, .ex (.t 48) 1⟩⟩,
    ⟨17, 65535, [63], ⟨(some 13), none, .mv (.t 63)⟩⟩,
    ⟨18, 262143, [64], ⟨(some 14), none, .mv (.t 64)⟩⟩])
  (.sq (.sq (.rg [⟨(some 65), none, .mv (.t 13)⟩,
    ⟨(some 66), none, .en 0 false (.t 65) (.c (.pointer none))⟩,
    ⟨(some 67), none, .mv (.t 66)⟩,
    ⟨(some 68), (some (67, false)), .mv (.t 14)⟩,
    ⟨(some 69), (some (67, false)), .ib .neq (.t 68) (.c (.int .i64 0))⟩,
    ⟨(some 70), none, .pk (.t 67) (.c (.bool true)) (.t 69)⟩])
  (.cd (.t 70)
  (.sq (.rg [⟨(some 4), none, .mv (.c (.bool false))⟩])
  .rt)
  .sk))
  (.rg [⟨(some 71), none, .mv (.t 12)⟩,
    ⟨(some 72), none, .mv (.t 13)⟩,
    ⟨(some 73), none, .iaa (.t 11) (.t 71) 3 1⟩,
    ⟨none, none, .st (.t 73) (.t 72) 1⟩]))))
  (.rg [⟨(some 46), none, .mv (.t 12)⟩,
    ⟨(some 47), none, .ib .add (.t 46) (.c (.int .i64 1))⟩,
    ⟨(some 12), none, .mv (.t 47)⟩]))))))
  (.sq (.sq (.rg [⟨(some 15), none, .mv (.c (.int .i64 0))⟩])
  (.bl 2
  (.lp
  (.sq (.sq (.rg [⟨(some 74), none, .mv (.t 15)⟩,
    ⟨(some 75), none, .mv (.t 1)⟩,
    ⟨(some 76), none, .len (.t 75)⟩,
    ⟨(some 77), none, .ib .lss (.t 74) (.t 76)⟩])
  (.cd (.t 77)
  .sk
  (.ex 2)))
  (.sq (.bl 3
  (.rg [⟨(some 80), none, .mv (.t 1)⟩,
    ⟨(some 81), none, .mv (.t 15)⟩,
    ⟨(some 82), none, .ia (.t 80) (.t 81) 1⟩,
    ⟨(some 83), none, .ld (.t 82) 1 false⟩,
    ⟨(some 84), none, .ca 16 [(.t 83), (.c (.int .i64 3))]⟩,
    ⟨(some 85), none, .iaa (.t 11) (.t 84) 3 1⟩,
    ⟨(some 86), none, .ld (.t 85) 1 false⟩,
    ⟨(some 87), none, .ca 55 [(.t 86)]⟩]))
  (.rg [⟨(some 78), none, .mv (.t 15)⟩,
    ⟨(some 79), none, .ib .add (.t 78) (.c (.int .i64 1))⟩,
    ⟨(some 15), none, .mv (.t 79)⟩]))))))
  (.sq (.rg [⟨(some 16), none, .mv (.c (.int .i64 0))⟩])
  (.sq (.rg [⟨(some 17), none, .mv (.c (.int .i64 0))⟩])
  (.sq (.sq (.rg [⟨(some 18), none, .mv (.c (.int .i64 0))⟩])
  (.bl 4
  (.lp
  (.sq (.sq (.rg [⟨(some 88), none, .mv (.t 18)⟩,
    ⟨(some 89), none, .ib .lss (.t 88) (.c (.int .i64 3))⟩])
  (.cd (.t 89)
  .sk
  (.ex 4)))
  (.sq (.bl 5
  (.sq (.sq (.rg [⟨(some 19), none, .mv (.c (.int .i64 0))⟩])
  (.bl 6
  (.lp
  (.sq (.sq (.rg [⟨(some 92), none, .mv (.t 19)⟩,
    ⟨(some 93), none, .ib .lss (.t 92) (.c (.int .i64 60))⟩])
  (.cd (.t 93)
  .sk
  (.ex 6)))
  (.sq (.bl 7
  (.rg [⟨(some 96), none, .mv (.t 18)⟩,
    ⟨(some 97), none, .iaa (.t 11) (.t 96) 3 1⟩,
    ⟨(some 98), none, .ld (.t 97) 1 false⟩,
    ⟨(some 99), none, .ca 55 [(.t 98)]⟩]))
  (.rg [⟨(some 94), none, .mv (.t 19)⟩,
    ⟨(some 95), none, .ib .add (.t 94) (.c (.int .i64 1))⟩,
    ⟨(some 19), none, .mv (.t 95)⟩]))))))
  (.sq (.sq (.rg [⟨(some 100), none, .mv (.t 18)⟩,
    ⟨(some 101), none, .iaa (.t 11) (.t 100) 3 1⟩,
    ⟨(some 102), none, .ld (.t 101) 1 false⟩,
    ⟨(some 103), none, .ca 56 [(.t 102)]⟩,
    ⟨(some 104), none, .nt (.t 103)⟩,
    ⟨(some 105), none, .mv (.t 104)⟩,
    ⟨(some 106), (some (105, false)), .mv (.t 18)⟩,
    ⟨(some 107), (some (105, false)), .iaa (.t 11) (.t 106) 3 1⟩,
    ⟨(some 108), (some (105, false)), .ld (.t 107) 1 false⟩,
    ⟨(some 109), (some (105, false)), .ca 50 [(.t 108)]⟩,
    ⟨(some 110), (some (105, false)), .ib .neq (.t 109) (.c (.int .i64 0))⟩,
    ⟨(some 111), (some (105, false)), .mv (.t 110)⟩,
    ⟨(some 112), (some (111, true)), .mv (.t 18)⟩,
    ⟨(some 113), (some (111, true)), .iaa (.t 11) (.t 112) 3 1⟩,
    ⟨(some 114), (some (111, true)), .ld (.t 113) 1 false⟩,
    ⟨(some 115), (some (111, true)), .ca 50 [(.t 114)]⟩,
    ⟨(some 116), (some (111, true)), .ib .neq (.t 115) (.c (.int .i64 3))⟩,
    ⟨(some 117), (some (111, true)), .mv (.t 116)⟩,
    ⟨(some 118), (some (117, false)), .mv (.t 18)⟩,
    ⟨(some 119), (some (117, false)), .iaa (.t 11) (.t 118) 3 1⟩,
    ⟨(some 120), (some (117, false)), .ld (.t 119) 1 false⟩,
    ⟨(some 121), (some (117, false)), .ca 52 [(.t 120)]⟩,
    ⟨(some 122), (some (117, false)), .ib .neq (.t 121) (.c (.int .i64 0))⟩,
    ⟨(some 123), (some (111, true)), .pk (.t 117) (.c (.bool true)) (.t 122)⟩,
    ⟨(some 124), (some (105, false)), .pk (.t 111) (.t 123) (.c (.bool false))⟩,
    ⟨(some 125), none, .pk (.t 105) (.c (.bool true)) (.t 124)⟩])
  (.cd (.t 125)
  (.sq (.rg [⟨(some 4), none, .mv (.c (.bool false))⟩])
  .rt)
  .sk))
  (.sq (.sq (.rg [⟨(some 126), none, .mv (.t 18)⟩,
    ⟨(some 127), none, .iaa (.t 11) (.t 126) 3 1⟩,
    ⟨(some 128), none, .ld (.t 127) 1 false⟩,
    ⟨(some 129), none, .ca 50 [(.t 128)]⟩,
    ⟨(some 130), none, .ib .eql (.t 129) (.c (.int .i64 0))⟩])
  (.cd (.t 130)
  (.rg [⟨(some 131), none, .mv (.t 16)⟩,
    ⟨(some 132), none, .ib .add (.t 131) (.c (.int .i64 1))⟩,
    ⟨(some 16), none, .mv (.t 132)⟩])
  .sk))
  (.sq (.sq (.rg [⟨(some 20), none, .mv (.c (.int .i64 0))⟩])
  (.bl 8
  (.lp
  (.sq (.sq (.rg [⟨(some 133), none, .mv (.t 20)⟩,
    ⟨(some 134), none, .ib .lss (.t 133) (.c (.int .i64 3))⟩])
  (.cd (.t 134)
  .sk
  (.ex 8)))
  (.sq (.bl 9
  (.sq (.rg [⟨(some 138), none, .mv (.t 7)⟩,
    ⟨(some 139), none, .nc (.t 138)⟩,
    ⟨(some 140), none, .fa (.t 139) 11⟩,
    ⟨(some 141), none, .ld (.t 140) 1 false⟩,
    ⟨(some 142), none, .mv (.t 18)⟩,
    ⟨(some 143), none, .ia (.t 141) (.t 142) 1⟩,
    ⟨(some 144), none, .ld (.t 143) 1 false⟩,
    ⟨(some 145), none, .mv (.t 20)⟩,
    ⟨(some 146), none, .ca 57 [(.t 144), (.t 145)]⟩,
    ⟨(some 137), none, .mv (.t 146)⟩,
    ⟨(some 147), none, .ex (.t 137) 0⟩,
    ⟨(some 148), none, .ex (.t 137) 1⟩,
    ⟨(some 21), none, .mv (.t 147)⟩,
    ⟨(some 22), none, .mv (.t 148)⟩])
  (.rg [⟨(some 149), none, .mv (.t 17)⟩,
    ⟨(some 150), none, .mv (.t 22)⟩,
    ⟨(some 151), none, .len (.t 150)⟩,
    ⟨(some 152), none, .ib .add (.t 149) (.t 151)⟩,
    ⟨(some 17), none, .mv (.t 152)⟩])))
  (.rg [⟨(some 135), none, .mv (.t 20)⟩,
    ⟨(some 136), none, .ib .add (.t 135) (.c (.int .i64 1))⟩,
    ⟨(some 20), none, .mv (.t 136)⟩]))))))
  (.rg [⟨(some 153), none, .mv (.t 17)⟩,
    ⟨(some 154), none, .mv (.t 7)⟩,
    ⟨(some 155), none, .nc (.t 154)⟩,
    ⟨(some 156), none, .fa (.t 155) 11⟩,
    ⟨(some 157), none, .ld (.t 156) 1 false⟩,
    ⟨(some 158), none, .mv (.t 18)⟩,
    ⟨(some 159), none, .ia (.t 157) (.t 158) 1⟩,
    ⟨(some 160), none, .ld (.t 159) 1 false⟩,
    ⟨(some 161), none, .ca 44 [(.t 160)]⟩,
    ⟨(some 162), none, .len (.t 161)⟩,
    ⟨(some 163), none, .ib .add (.t 153) (.t 162)⟩,
    ⟨(some 17), none, .mv (.t 163)⟩]))))))
  (.rg [⟨(some 90), none, .mv (.t 18)⟩,
    ⟨(some 91), none, .ib .add (.t 90) (.c (.int .i64 1))⟩,
    ⟨(some 18), none, .mv (.t 91)⟩]))))))
  (.sq (.rd [⟨0, 0, [5], ⟨(some 164), none, .mv (.t 5)⟩⟩,
    ⟨1, 1, [164], ⟨(some 165), none, .mv (.t 164)⟩⟩,
    ⟨2, 3, [16, 165], ⟨(some 166), (some (165, true)), .mv (.t 16)⟩⟩,
    ⟨3, 7, [166, 165], ⟨(some 167), (some (165, true)), .ib .eql (.t 166) (.c (.int .i64 1))⟩⟩,
    ⟨4, 15, [165, 167], ⟨(some 168), none, .pk (.t 165) (.t 167) (.c (.bool false))⟩⟩,
    ⟨5, 31, [168], ⟨(some 169), none, .mv (.t 168)⟩⟩,
    ⟨6, 63, [7, 169], ⟨(some 170), (some (169, true)), .mv (.t 7)⟩⟩,
    ⟨7, 127, [170, 169], ⟨(some 171), (some (169, true)), .nc (.t 170)⟩⟩,
    ⟨8, 255, [171, 169], ⟨(some 172), (some (169, true)), .fa (.t 171) 7⟩⟩,
    ⟨9, 511, [172, 169], ⟨(some 173), (some (169, true)), .ld (.t 172) 1 false⟩⟩,
    ⟨10, 1023, [173, 169], ⟨(some 174), (some (169, true)), .ca 53 [(.t 173)]⟩⟩,
    ⟨11, 2047, [174, 169], ⟨(some 175), (some (169, true)), .len (.t 174)⟩⟩,
    ⟨12, 63, [6, 169], ⟨(some 176), (some (169, true)), .fa (.t 6) 3⟩⟩,
    ⟨13, 4159, [176, 169], ⟨(some 177), (some (169, true)), .ld (.t 176) 1 false⟩⟩,
    ⟨14, 16383, [175, 177, 169], ⟨(some 178), (some (169, true)), .ib .eql (.t 175) (.t 177)⟩⟩,
    ⟨15, 32767, [169, 178], ⟨(some 179), none, .pk (.t 169) (.t 178) (.c (.bool false))⟩⟩,
    ⟨16, 65535, [179], ⟨(some 180), none, .mv (.t 179)⟩⟩,
    ⟨17, 131071, [17, 180], ⟨(some 181), (some (180, true)), .mv (.t 17)⟩⟩,
    ⟨18, 131071, [7, 180], ⟨(some 182), (some (180, true)), .mv (.t 7)⟩⟩,
    ⟨19, 393215, [182, 180], ⟨(some 183), (some (180, true)), .nc (.t 182)⟩⟩,
    ⟨20, 917503, [183, 180], ⟨(some 184), (some (180, true)), .fa (.t 183) 10⟩⟩,
    ⟨21, 1966079, [184, 180], ⟨(some 185), (some (180, true)), .ld (.t 184) 1 false⟩⟩,
    ⟨22, 4063231, [185, 180], ⟨(some 186), (some (180, true)), .ca 31 [(.t 185)]⟩⟩,
    ⟨23, 8257535, [186, 180], ⟨(some 187), (some (180, true)), .len (.t 186)⟩⟩,
    ⟨24, 16777215, [181, 187, 180], ⟨(some 188), (some (180, true)), .ib .add (.t 181) (.t 187)⟩⟩,
    ⟨25, 131071, [6, 180], ⟨(some 189), (some (180, true)), .fa (.t 6) 1⟩⟩,
    ⟨26, 33685503, [189, 180], ⟨(some 190), (some (180, true)), .ld (.t 189) 1 false⟩⟩,
    ⟨27, 134217727, [188, 190, 180], ⟨(some 191), (some (180, true)), .ib .eql (.t 188) (.t 190)⟩⟩,
    ⟨28, 268435455, [180, 191], ⟨(some 192), none, .pk (.t 180) (.t 191) (.c (.bool false))⟩⟩,
    ⟨29, 536870911, [192], ⟨(some 4), none, .mv (.t 192)⟩⟩])
  .rt))))))))))))))))⟩
/-- rundale/rundalelaw15.EndingPlays -/
def c10 : Fu := ⟨268, [.t 4],
  (.sq (.rg [⟨(some 4), none, .mv (.c (.bool false))⟩])
  (.sq (.rg [⟨(some 25), none, .ca 45 []⟩,
    ⟨(some 5), none, .mv (.t 25)⟩])
  (.sq (.sq (.rg [⟨(some 26), none, .mv (.t 5)⟩,
    ⟨(some 27), none, .nt (.t 26)⟩])
  (.cd (.t 27)
  (.sq (.rg [⟨(some 4), none, .mv (.c (.bool false))⟩])
  .rt)
  .sk))
  (.sq (.sq (.rg [⟨(some 28), none, .mv (.t 1)⟩,
    ⟨(some 29), none, .len (.t 28)⟩,
    ⟨(some 30), none, .ib .gtr (.t 29) (.c (.int .i64 150))⟩])
  (.cd (.t 30)
  (.sq (.rg [⟨(some 31), none, .mv (.t 5)⟩,
    ⟨(some 4), none, .mv (.t 31)⟩])
  .rt)
  .sk))
  (.sq (.rg [⟨(some 32), none, .mv (.t 0)⟩,
    ⟨(some 33), none, .ca 13 [(.t 32)]⟩,
    ⟨(some 6), none, .al 24 [(.int .i64 0), (.int .i64 0), (.int .i64 0), (.int .i64 0), (.int .i64 0), (.int .i64 0)]⟩,
    ⟨none, none, .st (.t 6) (.t 33) 6⟩])
  (.sq (.rg [⟨(some 34), none, .fa (.t 6) 3⟩,
    ⟨none, none, .st (.t 34) (.c (.int .i64 3)) 1⟩])
  (.sq (.rg [⟨(some 35), none, .ld (.t 6) 6 true⟩,
    ⟨(some 36), none, .ca 46 [(.t 35)]⟩,
    ⟨(some 7), none, .mv (.t 36)⟩])
  (.sq (.sq (.rg [⟨(some 37), none, .mv (.t 7)⟩,
    ⟨(some 38), none, .en 0 false (.t 37) (.c (.pointer none))⟩])
  (.cd (.t 38)
  (.sq (.rg [⟨(some 4), none, .mv (.c (.bool false))⟩])
  .rt)
  .sk))
  (.sq (.rg [⟨(some 8), none, .al 105 [(.int .i64 0), (.int .i64 0), (.int .i64 0)]⟩,
    ⟨(some 9), none, .al 105 [(.int .i64 0), (.int .i64 0), (.int .i64 0)]⟩])
  (.sq (.sq (.rg [⟨(some 10), none, .mv (.c (.int .i64 0))⟩])
  (.bl 0
  (.lp
  (.sq (.sq (.rg [⟨(some 39), none, .mv (.t 10)⟩,
    ⟨(some 40), none, .ib .lss (.t 39) (.c (.int .i64 3))⟩])
  (.cd (.t 40)
  .sk
  (.ex 0)))
  (.sq (.bl 1
  (.sq (.rd [⟨0, 0, [7], ⟨(some 44), none, .mv (.t 7)⟩⟩,
    ⟨1, 0, [10], ⟨(some 45), none, .mv (.t 10)⟩⟩,
    ⟨2, 0, [0], ⟨(some 46), none, .mv (.t 0)⟩⟩,
    ⟨3, 0, [10], ⟨(some 47), none, .mv (.t 10)⟩⟩,
    ⟨4, 8, [47], ⟨(some 48), none, .ib .add (.c (.int .i64 3)) (.t 47)⟩⟩,
    ⟨5, 28, [46, 48], ⟨(some 49), none, .ib .quo (.t 46) (.t 48)⟩⟩,
    ⟨6, 60, [49], ⟨(some 50), none, .ca 16 [(.t 49), (.c (.int .i64 4))]⟩⟩,
    ⟨7, 0, [6], ⟨(some 51), none, .fa (.t 6) 2⟩⟩,
    ⟨8, 128, [51], ⟨(some 52), none, .ld (.t 51) 1 false⟩⟩,
    ⟨9, 0, [10], ⟨(some 53), none, .mv (.t 10)⟩⟩,
    ⟨10, 896, [52, 53], ⟨(some 54), none, .ib .sub (.t 52) (.t 53)⟩⟩,
    ⟨11, 2047, [44, 45, 50, 54], ⟨(some 55), none, .ca 54 [(.t 44), (.t 45), (.t 50), (.t 54)]⟩⟩,
    ⟨12, 4095, [55], ⟨(some 43), none, .mv (.t 55)⟩⟩,
    ⟨13, 8191, [43], ⟨(some 56), none, .ex (.t 43) 0⟩⟩,
    ⟨14, 8191, [43], ⟨(some 57), none, .ex (.t 43) 1⟩⟩,
    ⟨15, 8191, [43], ⟨(some 58), none, .ex (.t 43) 2⟩⟩,
    ⟨16, 16383, [56], ⟨(some 11), none, .mv (.t 56)⟩⟩,
    ⟨17, 98303, [57], ⟨(some 12), none, .mv (.t 57)⟩⟩,
    ⟨18, 262143, [58], ⟨(some 13), none, .mv (.t 58)⟩⟩])
  (.sq (.sq (.rg [⟨(some 59), none, .mv (.t 13)⟩,
    ⟨(some 60), none, .nt (.t 59)⟩])
  (.cd (.t 60)
  (.sq (.rg [⟨(some 4), none, .mv (.c (.bool false))⟩])
  .rt)
  .sk))
  (.rg [⟨(some 61), none, .mv (.t 10)⟩,
    ⟨(some 62), none, .mv (.t 10)⟩,
    ⟨(some 63), none, .mv (.t 11)⟩,
    ⟨(some 64), none, .mv (.t 12)⟩,
    ⟨(some 65), none, .iaa (.t 8) (.t 61) 3 1⟩,
    ⟨none, none, .st (.t 65) (.t 63) 1⟩,
    ⟨(some 66), none, .iaa (.t 9) (.t 62) 3 1⟩,
    ⟨none, none, .st (.t 66) (.t 64) 1⟩]))))
  (.rg [⟨(some 41), none, .mv (.t 10)⟩,
    ⟨(some 42), none, .ib .add (.t 41) (.c (.int .i64 1))⟩,
    ⟨(some 10), none, .mv (.t 42)⟩]))))))
  (.sq (.rg [⟨(some 14), none, .al 102 [(.pointer none), (.pointer none), (.pointer none)]⟩])
  (.sq (.rg [⟨(some 15), none, .al 107 [(.pointer none), (.pointer none), (.pointer none)]⟩])
  (.sq (.sq (.rg [⟨(some 16), none, .mv (.c (.int .i64 0))⟩])
  (.bl 2
  (.lp
  (.sq (.sq (.rg [⟨(some 67), none, .mv (.t 16)⟩,
    ⟨(some 68), none, .mv (.t 1)⟩,
    ⟨(some 69), none, .len (.t 68)⟩,
    ⟨(some 70), none, .ib .lss (.t 67) (.t 69)⟩])
  (.cd (.t 70)
  .sk
  (.ex 2)))
  (.sq (.bl 3
  (.sq (.rd [⟨0, 0, [1], ⟨(some 73), none, .mv (.t 1)⟩⟩,
    ⟨1, 0, [16], ⟨(some 74), none, .mv (.t 16)⟩⟩,
    ⟨2, 3, [73, 74], ⟨(some 75), none, .ia (.t 73) (.t 74) 1⟩⟩,
    ⟨3, 7, [75], ⟨(some 76), none, .ld (.t 75) 1 false⟩⟩,
    ⟨4, 15, [76], ⟨(some 77), none, .ca 16 [(.t 76), (.c (.int .i64 3))]⟩⟩,
    ⟨5, 0, [1], ⟨(some 78), none, .mv (.t 1)⟩⟩,
    ⟨6, 0, [16], ⟨(some 79), none, .mv (.t 16)⟩⟩,
    ⟨7, 96, [78, 79], ⟨(some 80), none, .ia (.t 78) (.t 79) 1⟩⟩,
    ⟨8, 224, [80], ⟨(some 81), none, .ld (.t 80) 1 false⟩⟩,
    ⟨9, 480, [81], ⟨(some 82), none, .ib .quo (.t 81) (.c (.int .i64 3))⟩⟩,
    ⟨10, 1023, [82], ⟨(some 83), none, .ca 16 [(.t 82), (.c (.int .i64 40))]⟩⟩,
    ⟨11, 2047, [77], ⟨(some 17), none, .mv (.t 77)⟩⟩,
    ⟨12, 4095, [83], ⟨(some 18), none, .mv (.t 83)⟩⟩])
  (.sq (.bl 4
  (.sq (.rg [⟨(some 151), none, .mv (.t 18)⟩,
    ⟨(some 152), none, .ib .eql (.t 151) (.c (.int .i64 39))⟩,
    ⟨(some 150), none, .mv (.t 152)⟩])
  (.cd (.t 150)
  (.sq (.rg [⟨(some 153), none, .mv (.t 7)⟩,
    ⟨(some 154), none, .nc (.t 153)⟩,
    ⟨(some 155), none, .fa (.t 154) 12⟩,
    ⟨(some 156), none, .ld (.t 155) 1 false⟩,
    ⟨(some 157), none, .nc (.t 156)⟩,
    ⟨(some 158), none, .fa (.t 157) 6⟩,
    ⟨(some 159), none, .ld (.t 158) 1 false⟩,
    ⟨(some 160), none, .nc (.t 159)⟩,
    ⟨(some 161), none, .fa (.t 160) 0⟩,
    ⟨(some 162), none, .ld (.t 161) 1 false⟩,
    ⟨(some 163), none, .ia (.t 162) (.c (.int .i64 2)) 1⟩,
    ⟨(some 164), none, .ld (.t 163) 1 false⟩,
    ⟨(some 165), none, .ib .add (.t 164) (.c (.int .u64 1))⟩,
    ⟨(some 166), none, .ia (.t 162) (.c (.int .i64 2)) 1⟩,
    ⟨none, none, .st (.t 166) (.t 165) 1⟩])
  (.sq (.rd [⟨0, 0, [7], ⟨(some 167), none, .mv (.t 7)⟩⟩,
    ⟨1, 1, [167], ⟨(some 168), none, .nc (.t 167)⟩⟩,
    ⟨2, 3, [168], ⟨(some 169), none, .fa (.t 168) 6⟩⟩,
    ⟨3, 7, [169], ⟨(some 170), none, .ld (.t 169) 1 false⟩⟩,
    ⟨4, 0, [7], ⟨(some 171), none, .mv (.t 7)⟩⟩,
    ⟨5, 16, [171], ⟨(some 172), none, .nc (.t 171)⟩⟩,
    ⟨6, 48, [172], ⟨(some 173), none, .fa (.t 172) 12⟩⟩,
    ⟨7, 112, [173], ⟨(some 174), none, .ld (.t 173) 1 false⟩⟩,
    ⟨8, 240, [174], ⟨(some 175), none, .nc (.t 174)⟩⟩,
    ⟨9, 496, [175], ⟨(some 176), none, .fa (.t 175) 6⟩⟩,
    ⟨10, 1008, [176], ⟨(some 177), none, .ld (.t 176) 1 false⟩⟩,
    ⟨11, 2032, [177], ⟨(some 178), none, .nc (.t 177)⟩⟩,
    ⟨12, 4080, [178], ⟨(some 179), none, .fa (.t 178) 0⟩⟩,
    ⟨13, 8176, [179], ⟨(some 180), none, .ld (.t 179) 1 false⟩⟩,
    ⟨14, 16368, [180], ⟨(some 181), none, .ia (.t 180) (.c (.int .i64 2)) 1⟩⟩,
    ⟨15, 32752, [181], ⟨(some 182), none, .ld (.t 181) 1 false⟩⟩,
    ⟨16, 65535, [170, 182], ⟨(some 183), none, .ca 23 [(.t 170), (.c (.int .i64 2)), (.t 182)]⟩⟩,
    ⟨17, 131071, [183], ⟨(some 184), none, .ib .neq (.t 183) (.c (.int .i64 0))⟩⟩])
  (.cd (.t 184)
  (.sq (.rg [⟨(some 4), none, .mv (.c (.bool false))⟩])
  .rt)
  .sk)))
  (.sq (.rg [⟨(some 186), none, .mv (.t 17)⟩,
    ⟨(some 187), none, .iaa (.t 14) (.t 186) 3 1⟩,
    ⟨(some 188), none, .ld (.t 187) 1 false⟩,
    ⟨(some 189), none, .en 0 false (.t 188) (.c (.pointer none))⟩,
    ⟨(some 185), none, .mv (.t 189)⟩])
  (.cd (.t 185)
  (.sq (.rd [⟨0, 0, [18], ⟨(some 190), none, .mv (.t 18)⟩⟩,
    ⟨1, 1, [190], ⟨(some 191), none, .ib .rem (.t 190) (.c (.int .i64 3))⟩⟩,
    ⟨2, 0, [18], ⟨(some 192), none, .mv (.t 18)⟩⟩,
    ⟨3, 4, [192], ⟨(some 193), none, .ib .rem (.t 192) (.c (.int .i64 3))⟩⟩,
    ⟨4, 12, [9, 193], ⟨(some 194), none, .iaa (.t 9) (.t 193) 3 1⟩⟩,
    ⟨5, 28, [194], ⟨(some 195), none, .ld (.t 194) 1 false⟩⟩,
    ⟨6, 3, [191], ⟨(some 19), none, .mv (.t 191)⟩⟩,
    ⟨7, 127, [195], ⟨(some 20), none, .mv (.t 195)⟩⟩])
  (.sq (.sq (.rg [⟨(some 196), none, .mv (.t 18)⟩,
    ⟨(some 197), none, .ib .quo (.t 196) (.c (.int .i64 3))⟩,
    ⟨(some 198), none, .ib .rem (.t 197) (.c (.int .i64 5))⟩,
    ⟨(some 199), none, .ib .eql (.t 198) (.c (.int .i64 0))⟩])
  (.cd (.t 199)
  (.rg [⟨(some 200), none, .mv (.t 20)⟩,
    ⟨(some 201), none, .ib .add (.t 200) (.c (.int .i64 1))⟩,
    ⟨(some 20), none, .mv (.t 201)⟩])
  .sk))
  (.sq (.rd [⟨0, 0, [7], ⟨(some 203), none, .mv (.t 7)⟩⟩,
    ⟨1, 1, [203], ⟨(some 204), none, .nc (.t 203)⟩⟩,
    ⟨2, 3, [204], ⟨(some 205), none, .fa (.t 204) 9⟩⟩,
    ⟨3, 7, [205], ⟨(some 206), none, .ld (.t 205) 1 false⟩⟩,
    ⟨4, 0, [7], ⟨(some 207), none, .mv (.t 7)⟩⟩,
    ⟨5, 16, [207], ⟨(some 208), none, .nc (.t 207)⟩⟩,
    ⟨6, 48, [208], ⟨(some 209), none, .fa (.t 208) 11⟩⟩,
    ⟨7, 112, [209], ⟨(some 210), none, .ld (.t 209) 1 false⟩⟩,
    ⟨8, 0, [17], ⟨(some 211), none, .mv (.t 17)⟩⟩,
    ⟨9, 496, [210, 211], ⟨(some 212), none, .ia (.t 210) (.t 211) 1⟩⟩,
    ⟨10, 1008, [212], ⟨(some 213), none, .ld (.t 212) 1 false⟩⟩,
    ⟨11, 0, [19], ⟨(some 214), none, .mv (.t 19)⟩⟩,
    ⟨12, 2048, [8, 214], ⟨(some 215), none, .iaa (.t 8) (.t 214) 3 1⟩⟩,
    ⟨13, 6144, [215], ⟨(some 216), none, .ld (.t 215) 1 false⟩⟩,
    ⟨14, 0, [20], ⟨(some 217), none, .mv (.t 20)⟩⟩,
    ⟨15, 32767, [206, 213, 216, 217], ⟨(some 218), none, .ca 48 [(.t 206), (.t 213), (.t 216), (.t 217)]⟩⟩,
    ⟨16, 65535, [218], ⟨(some 202), none, .mv (.t 218)⟩⟩,
    ⟨17, 131071, [202], ⟨(some 219), none, .ex (.t 202) 0⟩⟩,
    ⟨18, 131071, [202], ⟨(some 220), none, .ex (.t 202) 1⟩⟩,
    ⟨19, 262143, [219], ⟨(some 21), none, .mv (.t 219)⟩⟩,
    ⟨20, 1048575, [220], ⟨(some 22), none, .mv (.t 220)⟩⟩])
  (.sq (.sq (.rg [⟨(some 221), none, .mv (.t 21)⟩,
    ⟨(some 222), none, .en 0 false (.t 221) (.c (.pointer none))⟩,
    ⟨(some 223), none, .mv (.t 222)⟩,
    ⟨(some 224), (some (223, false)), .mv (.t 22)⟩,
    ⟨(some 225), (some (223, false)), .ib .neq (.t 224) (.c (.int .i64 0))⟩,
    ⟨(some 226), none, .pk (.t 223) (.c (.bool true)) (.t 225)⟩,
    ⟨(some 227), none, .mv (.t 226)⟩,
    ⟨(some 228), (some (227, false)), .mv (.t 21)⟩,
    ⟨(some 229), (some (227, false)), .ca 56 [(.t 228)]⟩,
    ⟨(some 230), none, .pk (.t 227) (.c (.bool true)) (.t 229)⟩])
  (.cd (.t 230)
  (.sq (.rg [⟨(some 4), none, .mv (.c (.bool false))⟩])
  .rt)
  .sk))
  (.rd [⟨0, 0, [17], ⟨(some 231), none, .mv (.t 17)⟩⟩,
    ⟨1, 0, [17], ⟨(some 232), none, .mv (.t 17)⟩⟩,
    ⟨2, 0, [21], ⟨(some 233), none, .mv (.t 21)⟩⟩,
    ⟨3, 0, [7], ⟨(some 234), none, .mv (.t 7)⟩⟩,
    ⟨4, 8, [234], ⟨(some 235), none, .nc (.t 234)⟩⟩,
    ⟨5, 24, [235], ⟨(some 236), none, .fa (.t 235) 13⟩⟩,
    ⟨6, 56, [236], ⟨(some 237), none, .ld (.t 236) 1 false⟩⟩,
    ⟨7, 0, [17], ⟨(some 238), none, .mv (.t 17)⟩⟩,
    ⟨8, 248, [237, 238], ⟨(some 239), none, .ia (.t 237) (.t 238) 1⟩⟩,
    ⟨9, 504, [239], ⟨(some 240), none, .ld (.t 239) 1 false⟩⟩,
    ⟨10, 0, [19], ⟨(some 241), none, .mv (.t 19)⟩⟩,
    ⟨11, 1024, [8, 241], ⟨(some 242), none, .iaa (.t 8) (.t 241) 3 1⟩⟩,
    ⟨12, 3072, [242], ⟨(some 243), none, .ld (.t 242) 1 false⟩⟩,
    ⟨13, 0, [20], ⟨(some 244), none, .mv (.t 20)⟩⟩,
    ⟨14, 16376, [240, 243, 244], ⟨(some 245), none, .ca 58 [(.t 240), (.t 243), (.t 244)]⟩⟩,
    ⟨15, 5, [14, 231], ⟨(some 246), none, .iaa (.t 14) (.t 231) 3 1⟩⟩,
    ⟨16, 65533, [246, 233], ⟨none, none, .st (.t 246) (.t 233) 1⟩⟩,
    ⟨17, 131071, [15, 232], ⟨(some 247), none, .iaa (.t 15) (.t 232) 3 1⟩⟩,
    ⟨18, 262143, [247, 245], ⟨none, none, .st (.t 247) (.t 245) 1⟩⟩])))))
  (.sq (.rd [⟨0, 0, [17], ⟨(some 84), none, .mv (.t 17)⟩⟩,
    ⟨1, 1, [14, 84], ⟨(some 85), none, .iaa (.t 14) (.t 84) 3 1⟩⟩,
    ⟨2, 3, [85], ⟨(some 86), none, .ld (.t 85) 1 false⟩⟩,
    ⟨3, 0, [17], ⟨(some 87), none, .mv (.t 17)⟩⟩,
    ⟨4, 8, [15, 87], ⟨(some 88), none, .iaa (.t 15) (.t 87) 3 1⟩⟩,
    ⟨5, 24, [88], ⟨(some 89), none, .ld (.t 88) 1 false⟩⟩,
    ⟨6, 7, [86], ⟨(some 23), none, .mv (.t 86)⟩⟩,
    ⟨7, 127, [89], ⟨(some 24), none, .mv (.t 89)⟩⟩])
  (.sq (.sq (.rd [⟨0, 0, [23], ⟨(some 90), none, .mv (.t 23)⟩⟩,
    ⟨1, 1, [90], ⟨(some 91), none, .ca 55 [(.t 90)]⟩⟩,
    ⟨2, 0, [24], ⟨(some 92), none, .mv (.t 24)⟩⟩,
    ⟨3, 7, [92], ⟨(some 93), none, .ca 59 [(.t 92)]⟩⟩,
    ⟨4, 15, [91, 93], ⟨(some 94), none, .bb true (.t 91) (.t 93)⟩⟩,
    ⟨5, 31, [94], ⟨(some 95), none, .mv (.t 94)⟩⟩,
    ⟨6, 63, [23, 95], ⟨(some 96), (some (95, false)), .mv (.t 23)⟩⟩,
    ⟨7, 127, [96, 95], ⟨(some 97), (some (95, false)), .ca 56 [(.t 96)]⟩⟩,
    ⟨8, 63, [24, 95], ⟨(some 98), (some (95, false)), .mv (.t 24)⟩⟩,
    ⟨9, 319, [98, 95], ⟨(some 99), (some (95, false)), .nc (.t 98)⟩⟩,
    ⟨10, 831, [99, 95], ⟨(some 100), (some (95, false)), .fa (.t 99) 11⟩⟩,
    ⟨11, 1855, [100, 95], ⟨(some 101), (some (95, false)), .ld (.t 100) 1 false⟩⟩,
    ⟨12, 4095, [97, 101, 95], ⟨(some 102), (some (95, false)), .bb true (.t 97) (.t 101)⟩⟩,
    ⟨13, 8191, [95, 102], ⟨(some 103), none, .pk (.t 95) (.c (.bool true)) (.t 102)⟩⟩,
    ⟨14, 16383, [103], ⟨(some 104), none, .mv (.t 103)⟩⟩,
    ⟨15, 32767, [23, 104], ⟨(some 105), (some (104, false)), .mv (.t 23)⟩⟩,
    ⟨16, 65535, [105, 104], ⟨(some 106), (some (104, false)), .ca 51 [(.t 105)]⟩⟩,
    ⟨17, 32767, [24, 104], ⟨(some 107), (some (104, false)), .mv (.t 24)⟩⟩,
    ⟨18, 163839, [107, 104], ⟨(some 108), (some (104, false)), .nc (.t 107)⟩⟩,
    ⟨19, 425983, [108, 104], ⟨(some 109), (some (104, false)), .fa (.t 108) 3⟩⟩,
    ⟨20, 950271, [109, 104], ⟨(some 110), (some (104, false)), .ld (.t 109) 1 false⟩⟩,
    ⟨21, 2097151, [106, 110, 104], ⟨(some 111), (some (104, false)), .ib .neq (.t 106) (.t 110)⟩⟩,
    ⟨22, 4194303, [104, 111], ⟨(some 112), none, .pk (.t 104) (.c (.bool true)) (.t 111)⟩⟩,
    ⟨23, 8388607, [112], ⟨(some 113), none, .mv (.t 112)⟩⟩,
    ⟨24, 16777215, [23, 113], ⟨(some 114), (some (113, false)), .mv (.t 23)⟩⟩,
    ⟨25, 33554431, [114, 113], ⟨(some 115), (some (113, false)), .ca 52 [(.t 114)]⟩⟩,
    ⟨26, 16777215, [24, 113], ⟨(some 116), (some (113, false)), .mv (.t 24)⟩⟩,
    ⟨27, 83886079, [116, 113], ⟨(some 117), (some (113, false)), .nc (.t 116)⟩⟩,
    ⟨28, 218103807, [117, 113], ⟨(some 118), (some (113, false)), .fa (.t 117) 4⟩⟩,
    ⟨29, 486539263, [118, 113], ⟨(some 119), (some (113, false)), .ld (.t 118) 1 false⟩⟩,
    ⟨30, 1073741823, [115, 119, 113], ⟨(some 120), (some (113, false)), .ib .neq (.t 115) (.t 119)⟩⟩,
    ⟨31, 2147483647, [113, 120], ⟨(some 121), none, .pk (.t 113) (.c (.bool true)) (.t 120)⟩⟩,
    ⟨32, 4294967295, [121], ⟨(some 122), none, .mv (.t 121)⟩⟩,
    ⟨33, 8589934591, [23, 122], ⟨(some 123), (some (122, false)), .mv (.t 23)⟩⟩,
    ⟨34, 17179869183, [123, 122], ⟨(some 124), (some (122, false)), .ca 60 [(.t 123)]⟩⟩,
    ⟨35, 8589934591, [24, 122], ⟨(some 125), (some (122, false)), .mv (.t 24)⟩⟩,
    ⟨36, 68719476735, [125, 122], ⟨(some 126), (some (122, false)), .ca 61 [(.t 125)]⟩⟩,
    ⟨37, 137438953471, [124, 126, 122], ⟨(some 127), (some (122, false)), .ib .neq (.t 124) (.t 126)⟩⟩,
    ⟨38, 274877906943, [122, 127], ⟨(some 128), none, .pk (.t 122) (.c (.bool true)) (.t 127)⟩⟩,
    ⟨39, 549755813887, [128], ⟨(some 129), none, .mv (.t 128)⟩⟩,
    ⟨40, 1099511627775, [23, 129], ⟨(some 130), (some (129, false)), .mv (.t 23)⟩⟩,
    ⟨41, 2199023255551, [130, 129], ⟨(some 131), (some (129, false)), .ca 63 [(.t 130)]⟩⟩,
    ⟨42, 1099511627775, [24, 129], ⟨(some 132), (some (129, false)), .mv (.t 24)⟩⟩,
    ⟨43, 8796093022207, [132, 129], ⟨(some 133), (some (129, false)), .ca 64 [(.t 132)]⟩⟩,
    ⟨44, 17592186044415, [131, 133, 129], ⟨(some 134), (some (129, false)), .ca 62 [(.t 131), (.t 133)]⟩⟩,
    ⟨45, 35184372088831, [134, 129], ⟨(some 135), (some (129, false)), .nt (.t 134)⟩⟩,
    ⟨46, 70368744177663, [129, 135], ⟨(some 136), none, .pk (.t 129) (.c (.bool true)) (.t 135)⟩⟩])
  (.cd (.t 136)
  (.sq (.rg [⟨(some 4), none, .mv (.c (.bool false))⟩])
  .rt)
  .sk))
  (.sq (.rg [⟨(some 137), none, .mv (.t 24)⟩,
    ⟨(some 138), none, .nc (.t 137)⟩,
    ⟨(some 139), none, .fa (.t 138) 11⟩,
    ⟨(some 140), none, .ld (.t 139) 1 false⟩])
  (.cd (.t 140)
  (.sq (.sq (.rd [⟨0, 0, [23], ⟨(some 141), none, .mv (.t 23)⟩⟩,
    ⟨1, 1, [141], ⟨(some 142), none, .ca 50 [(.t 141)]⟩⟩,
    ⟨2, 0, [24], ⟨(some 143), none, .mv (.t 24)⟩⟩,
    ⟨3, 4, [143], ⟨(some 144), none, .nc (.t 143)⟩⟩,
    ⟨4, 12, [144], ⟨(some 145), none, .fa (.t 144) 10⟩⟩,
    ⟨5, 28, [145], ⟨(some 146), none, .ld (.t 145) 1 false⟩⟩,
    ⟨6, 63, [142, 146], ⟨(some 147), none, .ib .neq (.t 142) (.t 146)⟩⟩])
  (.cd (.t 147)
  (.sq (.rg [⟨(some 4), none, .mv (.c (.bool false))⟩])
  .rt)
  .sk))
  (.rg [⟨(some 148), none, .mv (.t 17)⟩,
    ⟨(some 149), none, .iaa (.t 14) (.t 148) 3 1⟩,
    ⟨none, none, .st (.t 149) (.c (.pointer none)) 1⟩]))
  .sk)))))))))
  (.sq (.rg [⟨(some 248), none, .mv (.t 7)⟩,
    ⟨(some 249), none, .ca 65 [(.t 248)]⟩,
    ⟨(some 250), none, .nt (.t 249)⟩])
  (.cd (.t 250)
  (.sq (.rg [⟨(some 4), none, .mv (.c (.bool false))⟩])
  .rt)
  .sk)))))
  (.rg [⟨(some 71), none, .mv (.t 16)⟩,
    ⟨(some 72), none, .ib .add (.t 71) (.c (.int .i64 1))⟩,
    ⟨(some 16), none, .mv (.t 72)⟩]))))))
  (.sq (.rd [⟨0, 0, [5], ⟨(some 251), none, .mv (.t 5)⟩⟩,
    ⟨1, 1, [251], ⟨(some 252), none, .mv (.t 251)⟩⟩,
    ⟨2, 3, [7, 252], ⟨(some 253), (some (252, true)), .mv (.t 7)⟩⟩,
    ⟨3, 7, [253, 252], ⟨(some 254), (some (252, true)), .nc (.t 253)⟩⟩,
    ⟨4, 15, [254, 252], ⟨(some 255), (some (252, true)), .fa (.t 254) 10⟩⟩,
    ⟨5, 31, [255, 252], ⟨(some 256), (some (252, true)), .ld (.t 255) 1 false⟩⟩,
    ⟨6, 63, [256, 252], ⟨(some 257), (some (252, true)), .ca 31 [(.t 256)]⟩⟩,
    ⟨7, 3, [7, 252], ⟨(some 258), (some (252, true)), .mv (.t 7)⟩⟩,
    ⟨8, 131, [258, 252], ⟨(some 259), (some (252, true)), .nc (.t 258)⟩⟩,
    ⟨9, 387, [259, 252], ⟨(some 260), (some (252, true)), .fa (.t 259) 12⟩⟩,
    ⟨10, 899, [260, 252], ⟨(some 261), (some (252, true)), .ld (.t 260) 1 false⟩⟩,
    ⟨11, 1923, [261, 252], ⟨(some 262), (some (252, true)), .nc (.t 261)⟩⟩,
    ⟨12, 3971, [262, 252], ⟨(some 263), (some (252, true)), .fa (.t 262) 7⟩⟩,
    ⟨13, 8067, [263, 252], ⟨(some 264), (some (252, true)), .ld (.t 263) 1 false⟩⟩,
    ⟨14, 16383, [264, 252], ⟨(some 265), (some (252, true)), .ca 66 [(.t 264)]⟩⟩,
    ⟨15, 32767, [257, 265, 252], ⟨(some 266), (some (252, true)), .ca 62 [(.t 257), (.t 265)]⟩⟩,
    ⟨16, 65535, [252, 266], ⟨(some 267), none, .pk (.t 252) (.t 266) (.c (.bool false))⟩⟩,
    ⟨17, 131071, [267], ⟨(some 4), none, .mv (.t 267)⟩⟩])
  .rt))))))))))))))⟩
/-- rundale/rundalemake.Config -/
def c13 : Fu := ⟨43, [.c 2 6 true],
  (.sq (.rg [⟨(some 2), none, .al 24 [(.int .i64 0), (.int .i64 0), (.int .i64 0), (.int .i64 0), (.int .i64 0), (.int .i64 0)]⟩])
  (.sq (.rg [⟨(some 4), none, .mv (.t 0)⟩,
    ⟨(some 5), none, .ca 16 [(.t 4), (.c (.int .i64 4))]⟩,
    ⟨(some 6), none, .mv (.t 0)⟩,
    ⟨(some 7), none, .ib .quo (.t 6) (.c (.int .i64 4))⟩,
    ⟨(some 8), none, .ca 16 [(.t 7), (.c (.int .i64 8))]⟩,
    ⟨(some 9), none, .mv (.t 0)⟩,
    ⟨(some 10), none, .ib .quo (.t 9) (.c (.int .i64 32))⟩,
    ⟨(some 11), none, .ca 16 [(.t 10), (.c (.int .i64 2))]⟩,
    ⟨(some 12), none, .mv (.t 0)⟩,
    ⟨(some 13), none, .ib .quo (.t 12) (.c (.int .i64 64))⟩,
    ⟨(some 14), none, .ca 16 [(.t 13), (.c (.int .i64 4))]⟩,
    ⟨(some 15), none, .mv (.t 0)⟩,
    ⟨(some 16), none, .ib .quo (.t 15) (.c (.int .i64 256))⟩,
    ⟨(some 17), none, .ca 16 [(.t 16), (.c (.int .i64 4))]⟩,
    ⟨(some 18), none, .mv (.t 0)⟩,
    ⟨(some 19), none, .ib .quo (.t 18) (.c (.int .i64 1024))⟩,
    ⟨(some 20), none, .ca 16 [(.t 19), (.c (.int .i64 3))]⟩,
    ⟨(some 21), none, .bs 3 6 [(.int .i64 0), (.int .i64 0), (.int .i64 0), (.int .i64 0), (.int .i64 0), (.int .i64 0)] [(0, 1, (.t 5)), (1, 1, (.t 8)), (2, 1, (.t 11)), (3, 1, (.t 14)), (4, 1, (.t 17)), (5, 1, (.t 20))]⟩,
    ⟨(some 22), none, .bd [(.slice none 0 0), (.int .i64 0)] [(0, 1, (.t 21))]⟩,
    ⟨(some 23), none, .bx 125 (.t 22)⟩,
    ⟨(some 3), none, .mv (.t 23)⟩])
  (.sq (.rg [⟨(some 24), none, .mv (.t 3)⟩,
    ⟨(some 25), none, .ca 68 [(.t 24), (.c (.int .i64 4))]⟩,
    ⟨(some 26), none, .ib .add (.c (.int .i64 1)) (.t 25)⟩,
    ⟨(some 27), none, .mv (.t 3)⟩,
    ⟨(some 28), none, .ca 68 [(.t 27), (.c (.int .i64 8))]⟩,
    ⟨(some 29), none, .ib .add (.c (.int .i64 1)) (.t 28)⟩,
    ⟨(some 30), none, .mv (.t 3)⟩,
    ⟨(some 31), none, .ca 68 [(.t 30), (.c (.int .i64 2))]⟩,
    ⟨(some 32), none, .ib .mul (.c (.int .i64 8)) (.t 31)⟩,
    ⟨(some 33), none, .ib .add (.c (.int .i64 8)) (.t 32)⟩,
    ⟨(some 34), none, .mv (.t 3)⟩,
    ⟨(some 35), none, .ca 68 [(.t 34), (.c (.int .i64 4))]⟩,
    ⟨(some 36), none, .ib .add (.c (.int .i64 1)) (.t 35)⟩,
    ⟨(some 37), none, .mv (.t 3)⟩,
    ⟨(some 38), none, .ca 68 [(.t 37), (.c (.int .i64 4))]⟩,
    ⟨(some 39), none, .mv (.t 3)⟩,
    ⟨(some 40), none, .ca 68 [(.t 39), (.c (.int .i64 3))]⟩,
    ⟨(some 41), none, .ib .add (.c (.int .i64 1)) (.t 40)⟩,
    ⟨(some 42), none, .bd [(.int .i64 0), (.int .i64 0), (.int .i64 0), (.int .i64 0), (.int .i64 0), (.int .i64 0)] [(0, 1, (.t 26)), (1, 1, (.t 29)), (2, 1, (.t 33)), (3, 1, (.t 36)), (4, 1, (.t 38)), (5, 1, (.t 41))]⟩,
    ⟨none, none, .st (.t 2) (.t 42) 6⟩])
  .rt)))⟩
theorem k13 : cF Tryz.prog Tryz.f13 = some c13 := by kernel_rfl
/-- rundale/cells.New -/
def c15 : Fu := ⟨14, [.t 2, .t 3],
  (.sq (.rg [⟨(some 2), none, .mv (.c (.pointer none))⟩,
    ⟨(some 3), none, .mv (.c (.int .i64 0))⟩])
  (.sq (.sq (.rg [⟨(some 4), none, .mv (.t 0)⟩,
    ⟨(some 5), none, .ib .lss (.t 4) (.c (.int .i64 1))⟩,
    ⟨(some 6), none, .mv (.t 5)⟩,
    ⟨(some 7), (some (6, false)), .mv (.t 0)⟩,
    ⟨(some 8), (some (6, false)), .ib .gtr (.t 7) (.c (.int .i64 8388608))⟩,
    ⟨(some 9), none, .pk (.t 6) (.c (.bool true)) (.t 8)⟩])
  (.cd (.t 9)
  (.sq (.rg [⟨(some 2), none, .mv (.c (.pointer none))⟩,
    ⟨(some 3), none, .mv (.c (.int .i64 1))⟩])
  .rt)
  .sk))
  (.sq (.rg [⟨(some 10), none, .mv (.t 0)⟩,
    ⟨(some 11), none, .mk 56 1 8 [(.int .u64 0)] (.t 10) (.t 10)⟩,
    ⟨(some 12), none, .bd [(.slice none 0 0), (.int .i64 0), (.int .i64 0), (.int .i64 0), (.int .u64 0), (.int .u64 0), (.bool false)] [(0, 1, (.t 11))]⟩,
    ⟨(some 13), none, .bx 139 (.t 12)⟩,
    ⟨(some 2), none, .mv (.t 13)⟩,
    ⟨(some 3), none, .mv (.c (.int .i64 0))⟩])
  .rt)))⟩
theorem k15 : cF Tryz.prog Tryz.f15 = some c15 := by kernel_rfl
/-- rundale/rundalemake.Number -/
def c16 : Fu := ⟨15, [.t 4],
  (.sq (.rg [⟨(some 4), none, .mv (.c (.int .i64 0))⟩])
  (.sq (.rg [⟨(some 6), none, .mv (.t 0)⟩,
    ⟨(some 7), none, .mv (.t 1)⟩,
    ⟨(some 8), none, .ib .rem (.t 6) (.t 7)⟩,
    ⟨(some 5), none, .mv (.t 8)⟩])
  (.sq (.sq (.rg [⟨(some 9), none, .mv (.t 5)⟩,
    ⟨(some 10), none, .ib .lss (.t 9) (.c (.int .i64 0))⟩])
  (.cd (.t 10)
  (.rg [⟨(some 11), none, .mv (.t 5)⟩,
    ⟨(some 12), none, .mv (.t 1)⟩,
    ⟨(some 13), none, .ib .add (.t 11) (.t 12)⟩,
    ⟨(some 5), none, .mv (.t 13)⟩])
  .sk))
  (.sq (.rg [⟨(some 14), none, .mv (.t 5)⟩,
    ⟨(some 4), none, .mv (.t 14)⟩])
  .rt))))⟩
theorem k16 : cF Tryz.prog Tryz.f16 = some c16 := by kernel_rfl
/-- rundale/lay.Len -/
def c17 : Fu := ⟨17, [.t 2],
  (.sq (.rg [⟨(some 1), none, .bx 24 (.t 0)⟩,
    ⟨(some 2), none, .mv (.c (.int .i64 0))⟩])
  (.sq (.sq (.rg [⟨(some 5), none, .ld (.t 1) 6 true⟩,
    ⟨(some 6), none, .ca 77 [(.t 5)]⟩,
    ⟨(some 7), none, .nt (.t 6)⟩])
  (.cd (.t 7)
  (.sq (.rg [⟨(some 2), none, .mv (.c (.int .i64 0))⟩])
  .rt)
  .sk))
  (.sq (.rg [⟨(some 8), none, .ld (.t 1) 6 true⟩,
    ⟨(some 9), none, .ca 78 [(.t 8)]⟩,
    ⟨(some 3), none, .al 143 [(.int .i64 0), (.int .i64 0), (.int .i64 0), (.int .i64 0), (.int .i64 0), (.int .i64 0), (.int .i64 0), (.int .i64 0), (.int .i64 0), (.int .i64 0), (.int .i64 0), (.int .i64 0), (.int .i64 0), (.int .i64 0), (.int .i64 0)]⟩,
    ⟨none, none, .st (.t 3) (.t 9) 15⟩])
  (.sq (.rg [⟨(some 10), none, .iaa (.t 3) (.c (.int .i64 4)) 5 3⟩,
    ⟨(some 11), none, .ld (.t 10) 3 true⟩,
    ⟨(some 4), none, .al 142 [(.int .i64 0), (.int .i64 0), (.int .i64 0)]⟩,
    ⟨none, none, .st (.t 4) (.t 11) 3⟩])
  (.sq (.rg [⟨(some 12), none, .fa (.t 4) 1⟩,
    ⟨(some 13), none, .ld (.t 12) 1 false⟩,
    ⟨(some 14), none, .fa (.t 4) 2⟩,
    ⟨(some 15), none, .ld (.t 14) 1 false⟩,
    ⟨(some 16), none, .ib .add (.t 13) (.t 15)⟩,
    ⟨(some 2), none, .mv (.t 16)⟩])
  .rt)))))⟩
theorem k17 : cF Tryz.prog Tryz.f17 = some c17 := by kernel_rfl
/-- rundale/grant.New -/
def c18 : Fu := ⟨21, [.t 4, .t 5],
  (.sq (.rg [⟨(some 3), none, .bx 24 (.t 1)⟩,
    ⟨(some 4), none, .mv (.c (.pointer none))⟩,
    ⟨(some 5), none, .mv (.c (.int .i64 0))⟩])
  (.sq (.sq (.rg [⟨(some 9), none, .mv (.t 0)⟩,
    ⟨(some 10), none, .ld (.t 3) 6 true⟩,
    ⟨(some 11), none, .ca 70 [(.t 9), (.t 10)]⟩,
    ⟨(some 8), none, .mv (.t 11)⟩,
    ⟨(some 12), none, .ex (.t 8) 0⟩,
    ⟨(some 13), none, .ex (.t 8) 1⟩,
    ⟨(some 6), none, .mv (.t 12)⟩,
    ⟨(some 7), none, .mv (.t 13)⟩])
  (.sq (.rg [⟨(some 14), none, .mv (.t 7)⟩,
    ⟨(some 15), none, .ib .neq (.t 14) (.c (.int .i64 0))⟩])
  (.cd (.t 15)
  (.sq (.rg [⟨(some 16), none, .mv (.t 7)⟩,
    ⟨(some 4), none, .mv (.c (.pointer none))⟩,
    ⟨(some 5), none, .mv (.t 16)⟩])
  .rt)
  .sk)))
  (.sq (.rg [⟨(some 17), none, .mv (.t 0)⟩,
    ⟨(some 18), none, .ld (.t 3) 6 true⟩,
    ⟨(some 19), none, .bd [(.pointer none), (.int .i64 0), (.int .i64 0), (.int .i64 0), (.int .i64 0), (.int .i64 0), (.int .i64 0)] [(0, 1, (.t 17)), (1, 6, (.t 18))]⟩,
    ⟨(some 20), none, .bx 146 (.t 19)⟩,
    ⟨(some 4), none, .mv (.t 20)⟩,
    ⟨(some 5), none, .mv (.c (.int .i64 0))⟩])
  .rt)))⟩
theorem k18 : cF Tryz.prog Tryz.f18 = some c18 := by kernel_rfl
/-- (*rundale/cells.Cells).Lay -/
def c23 : Fu := ⟨18, [.t 6],
  (.sq (.rg [⟨(some 6), none, .mv (.c (.int .i64 0))⟩])
  (.sq (.sq (.rg [⟨(some 7), none, .mv (.t 0)⟩,
    ⟨(some 8), none, .mv (.t 1)⟩,
    ⟨(some 9), none, .ca 81 [(.t 7), (.t 8)]⟩,
    ⟨(some 10), none, .nt (.t 9)⟩])
  (.cd (.t 10)
  (.sq (.rg [⟨(some 6), none, .mv (.c (.int .i64 1))⟩])
  .rt)
  .sk))
  (.sq (.rg [⟨(some 11), none, .mv (.t 0)⟩,
    ⟨(some 12), none, .nc (.t 11)⟩,
    ⟨(some 13), none, .fa (.t 12) 0⟩,
    ⟨(some 14), none, .ld (.t 13) 1 false⟩,
    ⟨(some 15), none, .mv (.t 1)⟩,
    ⟨(some 16), none, .mv (.t 2)⟩,
    ⟨(some 17), none, .ia (.t 14) (.t 15) 1⟩,
    ⟨none, none, .st (.t 17) (.t 16) 1⟩])
  (.sq (.rg [⟨(some 6), none, .mv (.c (.int .i64 0))⟩])
  .rt))))⟩
theorem k23 : cF Tryz.prog Tryz.f23 = some c23 := by kernel_rfl
/-- (*rundale/cells.Cells).Peek -/
def c29 : Fu := ⟨16, [.t 4],
  (.sq (.rg [⟨(some 4), none, .mv (.c (.int .u64 0))⟩])
  (.sq (.sq (.rg [⟨(some 5), none, .mv (.t 0)⟩,
    ⟨(some 6), none, .mv (.t 1)⟩,
    ⟨(some 7), none, .ca 81 [(.t 5), (.t 6)]⟩,
    ⟨(some 8), none, .nt (.t 7)⟩])
  (.cd (.t 8)
  (.sq (.rg [⟨(some 4), none, .mv (.c (.int .u64 0))⟩])
  .rt)
  .sk))
  (.sq (.rg [⟨(some 9), none, .mv (.t 0)⟩,
    ⟨(some 10), none, .nc (.t 9)⟩,
    ⟨(some 11), none, .fa (.t 10) 0⟩,
    ⟨(some 12), none, .ld (.t 11) 1 false⟩,
    ⟨(some 13), none, .mv (.t 1)⟩,
    ⟨(some 14), none, .ia (.t 12) (.t 13) 1⟩,
    ⟨(some 15), none, .ld (.t 14) 1 false⟩,
    ⟨(some 4), none, .mv (.t 15)⟩])
  .rt)))⟩
theorem k29 : cF Tryz.prog Tryz.f29 = some c29 := by kernel_rfl
/-- (*rundale/stack.Stack).List -/
def c31 : Fu := ⟨45, [.t 2],
  (.sq (.rg [⟨(some 2), none, .mv (.c (.slice none 0 0))⟩])
  (.sq (.rg [⟨(some 3), none, .mv (.c (.slice none 0 0))⟩])
  (.sq (.sq (.rd [⟨0, 0, [0], ⟨(some 5), none, .mv (.t 0)⟩⟩,
    ⟨1, 0, [0], ⟨(some 6), none, .mv (.t 0)⟩⟩,
    ⟨2, 2, [6], ⟨(some 7), none, .nc (.t 6)⟩⟩,
    ⟨3, 6, [7], ⟨(some 8), none, .fa (.t 7) 0⟩⟩,
    ⟨4, 14, [8], ⟨(some 9), none, .ld (.t 8) 1 false⟩⟩,
    ⟨5, 0, [0], ⟨(some 10), none, .mv (.t 0)⟩⟩,
    ⟨6, 32, [10], ⟨(some 11), none, .nc (.t 10)⟩⟩,
    ⟨7, 96, [11], ⟨(some 12), none, .fa (.t 11) 1⟩⟩,
    ⟨8, 224, [12], ⟨(some 13), none, .ld (.t 12) 1 false⟩⟩,
    ⟨9, 510, [9, 13], ⟨(some 14), none, .ca 29 [(.t 9), (.t 13)]⟩⟩,
    ⟨10, 1023, [5, 14], ⟨(some 15), none, .ca 95 [(.t 5), (.t 14)]⟩⟩,
    ⟨11, 2047, [15], ⟨(some 4), none, .mv (.t 15)⟩⟩])
  (.bl 0
  (.lp
  (.sq (.sq (.rg [⟨(some 16), none, .mv (.t 4)⟩,
    ⟨(some 17), none, .ib .geq (.t 16) (.c (.int .i64 0))⟩,
    ⟨(some 18), none, .mv (.t 17)⟩,
    ⟨(some 19), (some (18, true)), .mv (.t 3)⟩,
    ⟨(some 20), (some (18, true)), .len (.t 19)⟩,
    ⟨(some 21), (some (18, true)), .mv (.t 0)⟩,
    ⟨(some 22), (some (18, true)), .nc (.t 21)⟩,
    ⟨(some 23), (some (18, true)), .fa (.t 22) 3⟩,
    ⟨(some 24), (some (18, true)), .ld (.t 23) 1 false⟩,
    ⟨(some 25), (some (18, true)), .ib .lss (.t 20) (.t 24)⟩,
    ⟨(some 26), none, .pk (.t 18) (.t 25) (.c (.bool false))⟩])
  (.cd (.t 26)
  .sk
  (.ex 0)))
  (.sq (.bl 1
  (.rg [⟨(some 40), none, .mv (.t 3)⟩,
    ⟨(some 41), none, .mv (.t 4)⟩,
    ⟨(some 42), none, .bs 3 1 [(.int .i64 0)] [(0, 1, (.t 41))]⟩,
    ⟨(some 43), none, .ap 53 3 1 8 [(.int .i64 0)] (.t 40) (.t 42)⟩,
    ⟨(some 3), none, .mv (.t 43)⟩]))
  (.rd [⟨0, 0, [0], ⟨(some 27), none, .mv (.t 0)⟩⟩,
    ⟨1, 0, [0], ⟨(some 28), none, .mv (.t 0)⟩⟩,
    ⟨2, 2, [28], ⟨(some 29), none, .nc (.t 28)⟩⟩,
    ⟨3, 6, [29], ⟨(some 30), none, .fa (.t 29) 0⟩⟩,
    ⟨4, 14, [30], ⟨(some 31), none, .ld (.t 30) 1 false⟩⟩,
    ⟨5, 0, [0], ⟨(some 32), none, .mv (.t 0)⟩⟩,
    ⟨6, 32, [32], ⟨(some 33), none, .nc (.t 32)⟩⟩,
    ⟨7, 96, [33], ⟨(some 34), none, .fa (.t 33) 2⟩⟩,
    ⟨8, 224, [34], ⟨(some 35), none, .ld (.t 34) 1 false⟩⟩,
    ⟨9, 0, [4], ⟨(some 36), none, .mv (.t 4)⟩⟩,
    ⟨10, 992, [35, 36], ⟨(some 37), none, .ib .add (.t 35) (.t 36)⟩⟩,
    ⟨11, 2046, [31, 37], ⟨(some 38), none, .ca 29 [(.t 31), (.t 37)]⟩⟩,
    ⟨12, 4095, [27, 38], ⟨(some 39), none, .ca 96 [(.t 27), (.t 38)]⟩⟩,
    ⟨13, 8191, [39], ⟨(some 4), none, .mv (.t 39)⟩⟩]))))))
  (.sq (.rg [⟨(some 44), none, .mv (.t 3)⟩,
    ⟨(some 2), none, .mv (.t 44)⟩])
  .rt))))⟩
theorem k31 : cF Tryz.prog Tryz.f31 = some c31 := by kernel_rfl
/-- (*rundale/roots.End).Step -/
def c32 : Fu := ⟨7, [.t 2],
  (.sq (.rg [⟨(some 2), none, .mv (.c (.bool false))⟩])
  (.sq (.rg [⟨(some 3), none, .mv (.t 0)⟩,
    ⟨(some 4), none, .nc (.t 3)⟩,
    ⟨(some 5), none, .fa (.t 4) 0⟩,
    ⟨(some 6), none, .ca 91 [(.t 5)]⟩,
    ⟨(some 2), none, .mv (.t 6)⟩])
  .rt))⟩
theorem k32 : cF Tryz.prog Tryz.f32 = some c32 := by kernel_rfl
/-- (*rundale/roots.End).Done -/
def c34 : Fu := ⟨7, [.t 2],
  (.sq (.rg [⟨(some 2), none, .mv (.c (.bool false))⟩])
  (.sq (.rg [⟨(some 3), none, .mv (.t 0)⟩,
    ⟨(some 4), none, .nc (.t 3)⟩,
    ⟨(some 5), none, .fa (.t 4) 0⟩,
    ⟨(some 6), none, .ca 92 [(.t 5)]⟩,
    ⟨(some 2), none, .mv (.t 6)⟩])
  .rt))⟩
theorem k34 : cF Tryz.prog Tryz.f34 = some c34 := by kernel_rfl
/-- (*rundale/roots.Roots).End -/
def c35 : Fu := ⟨25, [.t 6, .t 7],
  (.sq (.rg [⟨(some 6), none, .mv (.c (.pointer none))⟩,
    ⟨(some 7), none, .mv (.c (.int .i64 0))⟩])
  (.sq (.sq (.rg [⟨(some 9), none, .mv (.t 0)⟩,
    ⟨(some 10), none, .mv (.t 1)⟩,
    ⟨(some 11), none, .ca 104 [(.t 9), (.t 10)]⟩,
    ⟨(some 12), none, .nt (.t 11)⟩])
  (.cd (.t 12)
  (.sq (.rg [⟨(some 6), none, .mv (.c (.pointer none))⟩,
    ⟨(some 7), none, .mv (.c (.int .i64 1))⟩])
  .rt)
  .sk))
  (.sq (.rg [⟨(some 13), none, .mv (.t 0)⟩,
    ⟨(some 14), none, .mv (.t 1)⟩,
    ⟨(some 15), none, .mv (.t 2)⟩,
    ⟨(some 16), none, .bd [.nilFunc, .nilFunc, .nilFunc, .nilFunc, (.int .i64 0), (.pointer none), (.int .i64 0), (.int .i64 0), (.int .u64 0), (.int .i64 0), (.int .i64 0), (.int .i64 0), (.int .i64 0), (.int .i64 0), (.int .i64 0), (.int .i64 0)] [(5, 1, (.t 13)), (6, 1, (.t 14)), (7, 1, (.t 15)), (14, 1, (.c (.int .i64 (-1))))]⟩,
    ⟨(some 17), none, .bx 173 (.t 16)⟩,
    ⟨(some 8), none, .mv (.t 17)⟩])
  (.sq (.rg [⟨(some 18), none, .mv (.t 8)⟩,
    ⟨(some 19), none, .nc (.t 18)⟩,
    ⟨(some 20), none, .fa (.t 19) 0⟩,
    ⟨(some 21), none, .mv (.t 8)⟩,
    ⟨(some 22), none, .mf (.func 105) [(.t 21)] []⟩,
    ⟨(some 23), none, .ca 79 [(.t 20), (.t 22)]⟩])
  (.sq (.rg [⟨(some 24), none, .mv (.t 8)⟩,
    ⟨(some 6), none, .mv (.t 24)⟩,
    ⟨(some 7), none, .mv (.c (.int .i64 0))⟩])
  .rt)))))⟩
theorem k35 : cF Tryz.prog Tryz.f35 = some c35 := by kernel_rfl
/-- (*rundale/roots.End).Code -/
def c41 : Fu := ⟨7, [.t 2],
  (.sq (.rg [⟨(some 2), none, .mv (.c (.int .i64 0))⟩])
  (.sq (.rg [⟨(some 3), none, .mv (.t 0)⟩,
    ⟨(some 4), none, .nc (.t 3)⟩,
    ⟨(some 5), none, .fa (.t 4) 13⟩,
    ⟨(some 6), none, .ld (.t 5) 1 false⟩,
    ⟨(some 2), none, .mv (.t 6)⟩])
  .rt))⟩
theorem k41 : cF Tryz.prog Tryz.f41 = some c41 := by kernel_rfl
/-- (*rundale/roots.End).Chunk -/
def c43 : Fu := ⟨7, [.t 2],
  (.sq (.rg [⟨(some 2), none, .mv (.c (.int .i64 0))⟩])
  (.sq (.rg [⟨(some 3), none, .mv (.t 0)⟩,
    ⟨(some 4), none, .nc (.t 3)⟩,
    ⟨(some 5), none, .fa (.t 4) 14⟩,
    ⟨(some 6), none, .ld (.t 5) 1 false⟩,
    ⟨(some 2), none, .mv (.t 6)⟩])
  .rt))⟩
theorem k43 : cF Tryz.prog Tryz.f43 = some c43 := by kernel_rfl
/-- rundale/rundalelaw15.first -/
def c45 : Fu := ⟨60, [.t 0],
  (.sq (.rg [⟨(some 0), none, .mv (.c (.bool false))⟩])
  (.sq (.rg [⟨(some 7), none, .bd [(.int .i64 0), (.int .i64 0), (.int .i64 0), (.int .i64 0), (.int .i64 0), (.int .i64 0)] [(0, 1, (.c (.int .i64 1))), (1, 1, (.c (.int .i64 1))), (2, 1, (.c (.int .i64 8))), (3, 1, (.c (.int .i64 1))), (5, 1, (.c (.int .i64 1)))]⟩,
    ⟨(some 8), none, .ca 46 [(.t 7)]⟩,
    ⟨(some 1), none, .mv (.t 8)⟩])
  (.sq (.sq (.rg [⟨(some 9), none, .mv (.t 1)⟩,
    ⟨(some 10), none, .en 0 false (.t 9) (.c (.pointer none))⟩])
  (.cd (.t 10)
  (.sq (.rg [⟨(some 0), none, .mv (.c (.bool false))⟩])
  .rt)
  .sk))
  (.sq (.rg [⟨(some 12), none, .mv (.t 1)⟩,
    ⟨(some 13), none, .ca 54 [(.t 12), (.c (.int .i64 0)), (.c (.int .i64 0)), (.c (.int .i64 1))]⟩,
    ⟨(some 11), none, .mv (.t 13)⟩,
    ⟨(some 14), none, .ex (.t 11) 0⟩,
    ⟨(some 15), none, .ex (.t 11) 1⟩,
    ⟨(some 16), none, .ex (.t 11) 2⟩,
    ⟨(some 2), none, .mv (.t 14)⟩,
    ⟨(some 3), none, .mv (.t 15)⟩,
    ⟨(some 4), none, .mv (.t 16)⟩])
  (.sq (.sq (.rg [⟨(some 17), none, .mv (.t 4)⟩,
    ⟨(some 18), none, .nt (.t 17)⟩])
  (.cd (.t 18)
  (.sq (.rg [⟨(some 0), none, .mv (.c (.bool false))⟩])
  .rt)
  .sk))
  (.sq (.rg [⟨(some 20), none, .mv (.t 1)⟩,
    ⟨(some 21), none, .mv (.t 2)⟩,
    ⟨(some 22), none, .mv (.t 3)⟩,
    ⟨(some 23), none, .ca 49 [(.t 20), (.c (.int .i64 0)), (.t 21), (.t 22)]⟩,
    ⟨(some 19), none, .mv (.t 23)⟩,
    ⟨(some 24), none, .ex (.t 19) 0⟩,
    ⟨(some 25), none, .ex (.t 19) 1⟩,
    ⟨(some 5), none, .mv (.t 24)⟩,
    ⟨(some 6), none, .mv (.t 25)⟩])
  (.sq (.rg [⟨(some 26), none, .mv (.t 5)⟩,
    ⟨(some 27), none, .en 0 true (.t 26) (.c (.pointer none))⟩,
    ⟨(some 28), none, .mv (.t 27)⟩,
    ⟨(some 29), (some (28, true)), .mv (.t 6)⟩,
    ⟨(some 30), (some (28, true)), .ib .eql (.t 29) (.c (.int .i64 5))⟩,
    ⟨(some 31), none, .pk (.t 28) (.t 30) (.c (.bool false))⟩,
    ⟨(some 32), none, .mv (.t 31)⟩,
    ⟨(some 33), (some (32, true)), .mv (.t 5)⟩,
    ⟨(some 34), (some (32, true)), .ca 56 [(.t 33)]⟩,
    ⟨(some 35), none, .pk (.t 32) (.t 34) (.c (.bool false))⟩,
    ⟨(some 36), none, .mv (.t 35)⟩,
    ⟨(some 37), (some (36, true)), .mv (.t 5)⟩,
    ⟨(some 38), (some (36, true)), .ca 50 [(.t 37)]⟩,
    ⟨(some 39), (some (36, true)), .ib .eql (.t 38) (.c (.int .i64 0))⟩,
    ⟨(some 40), none, .pk (.t 36) (.t 39) (.c (.bool false))⟩,
    ⟨(some 41), none, .mv (.t 40)⟩,
    ⟨(some 42), (some (41, true)), .mv (.t 5)⟩,
    ⟨(some 43), (some (41, true)), .ca 51 [(.t 42)]⟩,
    ⟨(some 44), (some (41, true)), .ib .eql (.t 43) (.c (.int .i64 2))⟩,
    ⟨(some 45), none, .pk (.t 41) (.t 44) (.c (.bool false))⟩,
    ⟨(some 46), none, .mv (.t 45)⟩,
    ⟨(some 47), (some (46, true)), .mv (.t 5)⟩,
    ⟨(some 48), (some (46, true)), .ca 52 [(.t 47)]⟩,
    ⟨(some 49), (some (46, true)), .ib .eql (.t 48) (.c (.int .i64 5))⟩,
    ⟨(some 50), none, .pk (.t 46) (.t 49) (.c (.bool false))⟩,
    ⟨(some 51), none, .mv (.t 50)⟩,
    ⟨(some 52), (some (51, true)), .mv (.t 1)⟩,
    ⟨(some 53), (some (51, true)), .nc (.t 52)⟩,
    ⟨(some 54), (some (51, true)), .fa (.t 53) 7⟩,
    ⟨(some 55), (some (51, true)), .ld (.t 54) 1 false⟩,
    ⟨(some 56), (some (51, true)), .ca 53 [(.t 55)]⟩,
    ⟨(some 57), (some (51, true)), .len (.t 56)⟩,
    ⟨(some 58), (some (51, true)), .ib .eql (.t 57) (.c (.int .i64 1))⟩,
    ⟨(some 59), none, .pk (.t 51) (.t 58) (.c (.bool false))⟩,
    ⟨(some 0), none, .mv (.t 59)⟩])
  .rt)))))))⟩
theorem k45 : cF Tryz.prog Tryz.f45 = some c45 := by kernel_rfl
/-- rundale/rundalelaw15.made -/
def c46 : Fu := ⟨144, [.t 2],
  (.sq (.rg [⟨(some 1), none, .bx 24 (.t 0)⟩,
    ⟨(some 2), none, .mv (.c (.pointer none))⟩])
  (.sq (.rg [⟨(some 18), none, .ld (.t 1) 6 true⟩,
    ⟨(some 19), none, .ca 17 [(.t 18)]⟩,
    ⟨(some 20), none, .ca 15 [(.t 19)]⟩,
    ⟨(some 17), none, .mv (.t 20)⟩,
    ⟨(some 21), none, .ex (.t 17) 0⟩,
    ⟨(some 22), none, .ex (.t 17) 1⟩,
    ⟨(some 3), none, .mv (.t 21)⟩,
    ⟨(some 4), none, .mv (.t 22)⟩])
  (.sq (.sq (.rg [⟨(some 23), none, .mv (.t 3)⟩,
    ⟨(some 24), none, .en 0 false (.t 23) (.c (.pointer none))⟩,
    ⟨(some 25), none, .mv (.t 24)⟩,
    ⟨(some 26), (some (25, false)), .mv (.t 4)⟩,
    ⟨(some 27), (some (25, false)), .ib .neq (.t 26) (.c (.int .i64 0))⟩,
    ⟨(some 28), none, .pk (.t 25) (.c (.bool true)) (.t 27)⟩])
  (.cd (.t 28)
  (.sq (.rg [⟨(some 2), none, .mv (.c (.pointer none))⟩])
  .rt)
  .sk))
  (.sq (.rg [⟨(some 30), none, .mv (.t 3)⟩,
    ⟨(some 31), none, .ld (.t 1) 6 true⟩,
    ⟨(some 32), none, .ca 69 [(.t 30), (.t 31)]⟩,
    ⟨(some 29), none, .mv (.t 32)⟩,
    ⟨(some 33), none, .ex (.t 29) 0⟩,
    ⟨(some 34), none, .ex (.t 29) 1⟩,
    ⟨(some 5), none, .mv (.t 33)⟩,
    ⟨(some 6), none, .mv (.t 34)⟩])
  (.sq (.rg [⟨(some 36), none, .mv (.t 3)⟩,
    ⟨(some 37), none, .ld (.t 1) 6 true⟩,
    ⟨(some 38), none, .ca 70 [(.t 36), (.t 37)]⟩,
    ⟨(some 35), none, .mv (.t 38)⟩,
    ⟨(some 39), none, .ex (.t 35) 0⟩,
    ⟨(some 40), none, .ex (.t 35) 1⟩,
    ⟨(some 7), none, .mv (.t 39)⟩,
    ⟨(some 8), none, .mv (.t 40)⟩])
  (.sq (.rg [⟨(some 42), none, .mv (.t 3)⟩,
    ⟨(some 43), none, .ld (.t 1) 6 true⟩,
    ⟨(some 44), none, .ca 18 [(.t 42), (.t 43)]⟩,
    ⟨(some 41), none, .mv (.t 44)⟩,
    ⟨(some 45), none, .ex (.t 41) 0⟩,
    ⟨(some 46), none, .ex (.t 41) 1⟩,
    ⟨(some 9), none, .mv (.t 45)⟩,
    ⟨(some 10), none, .mv (.t 46)⟩])
  (.sq (.rg [⟨(some 48), none, .mv (.t 3)⟩,
    ⟨(some 49), none, .ld (.t 1) 6 true⟩,
    ⟨(some 50), none, .ca 47 [(.t 48), (.t 49)]⟩,
    ⟨(some 47), none, .mv (.t 50)⟩,
    ⟨(some 51), none, .ex (.t 47) 0⟩,
    ⟨(some 52), none, .ex (.t 47) 1⟩,
    ⟨(some 11), none, .mv (.t 51)⟩,
    ⟨(some 12), none, .mv (.t 52)⟩])
  (.sq (.sq (.rg [⟨(some 53), none, .mv (.t 5)⟩,
    ⟨(some 54), none, .en 0 false (.t 53) (.c (.pointer none))⟩,
    ⟨(some 55), none, .mv (.t 54)⟩,
    ⟨(some 56), (some (55, false)), .mv (.t 6)⟩,
    ⟨(some 57), (some (55, false)), .ib .neq (.t 56) (.c (.int .i64 0))⟩,
    ⟨(some 58), none, .pk (.t 55) (.c (.bool true)) (.t 57)⟩,
    ⟨(some 59), none, .mv (.t 58)⟩,
    ⟨(some 60), (some (59, false)), .mv (.t 7)⟩,
    ⟨(some 61), (some (59, false)), .en 0 false (.t 60) (.c (.pointer none))⟩,
    ⟨(some 62), none, .pk (.t 59) (.c (.bool true)) (.t 61)⟩,
    ⟨(some 63), none, .mv (.t 62)⟩,
    ⟨(some 64), (some (63, false)), .mv (.t 8)⟩,
    ⟨(some 65), (some (63, false)), .ib .neq (.t 64) (.c (.int .i64 0))⟩,
    ⟨(some 66), none, .pk (.t 63) (.c (.bool true)) (.t 65)⟩,
    ⟨(some 67), none, .mv (.t 66)⟩,
    ⟨(some 68), (some (67, false)), .mv (.t 9)⟩,
    ⟨(some 69), (some (67, false)), .en 0 false (.t 68) (.c (.pointer none))⟩,
    ⟨(some 70), none, .pk (.t 67) (.c (.bool true)) (.t 69)⟩,
    ⟨(some 71), none, .mv (.t 70)⟩,
    ⟨(some 72), (some (71, false)), .mv (.t 10)⟩,
    ⟨(some 73), (some (71, false)), .ib .neq (.t 72) (.c (.int .i64 0))⟩,
    ⟨(some 74), none, .pk (.t 71) (.c (.bool true)) (.t 73)⟩,
    ⟨(some 75), none, .mv (.t 74)⟩,
    ⟨(some 76), (some (75, false)), .mv (.t 11)⟩,
    ⟨(some 77), (some (75, false)), .en 0 false (.t 76) (.c (.pointer none))⟩,
    ⟨(some 78), none, .pk (.t 75) (.c (.bool true)) (.t 77)⟩,
    ⟨(some 79), none, .mv (.t 78)⟩,
    ⟨(some 80), (some (79, false)), .mv (.t 12)⟩,
    ⟨(some 81), (some (79, false)), .ib .neq (.t 80) (.c (.int .i64 0))⟩,
    ⟨(some 82), none, .pk (.t 79) (.c (.bool true)) (.t 81)⟩,
    ⟨(some 83), none, .mv (.t 82)⟩,
    ⟨(some 84), (some (83, false)), .mv (.t 5)⟩,
    ⟨(some 85), (some (83, false)), .ca 71 [(.t 84)]⟩,
    ⟨(some 86), (some (83, false)), .en 0 false (.t 85) (.c (.pointer none))⟩,
    ⟨(some 87), none, .pk (.t 83) (.c (.bool true)) (.t 86)⟩])
  (.cd (.t 87)
  (.sq (.rg [⟨(some 2), none, .mv (.c (.pointer none))⟩])
  .rt)
  .sk))
  (.sq (.rg [⟨(some 88), none, .mv (.t 5)⟩,
    ⟨(some 89), none, .ca 72 [(.t 88)]⟩])
  (.sq (.rg [⟨(some 90), none, .mv (.t 7)⟩,
    ⟨(some 91), none, .ca 73 [(.t 90)]⟩])
  (.sq (.rd [⟨0, 0, [1], ⟨(some 92), none, .ld (.t 1) 6 true⟩⟩,
    ⟨1, 0, [3], ⟨(some 93), none, .mv (.t 3)⟩⟩,
    ⟨2, 0, [7], ⟨(some 94), none, .mv (.t 7)⟩⟩,
    ⟨3, 0, [9], ⟨(some 95), none, .mv (.t 9)⟩⟩,
    ⟨4, 0, [11], ⟨(some 96), none, .mv (.t 11)⟩⟩,
    ⟨5, 0, [5], ⟨(some 97), none, .mv (.t 5)⟩⟩,
    ⟨6, 32, [97], ⟨(some 98), none, .ca 71 [(.t 97)]⟩⟩,
    ⟨7, 0, [1], ⟨(some 99), none, .ld (.t 1) 6 true⟩⟩,
    ⟨8, 224, [99], ⟨(some 100), none, .ca 74 [(.t 99)]⟩⟩,
    ⟨9, 511, [92, 93, 94, 95, 96, 98, 100], ⟨(some 101), none, .bd [(.int .i64 0), (.int .i64 0), (.int .i64 0), (.int .i64 0), (.int .i64 0), (.int .i64 0), (.pointer none), (.pointer none), (.pointer none), (.pointer none), (.pointer none), (.slice none 0 0), (.pointer none), (.slice none 0 0)] [(0, 6, (.t 92)), (6, 1, (.t 93)), (7, 1, (.t 94)), (8, 1, (.t 95)), (9, 1, (.t 96)), (10, 1, (.t 98)), (12, 1, (.t 100))]⟩⟩,
    ⟨10, 1023, [101], ⟨(some 102), none, .bx 97 (.t 101)⟩⟩,
    ⟨11, 2047, [102], ⟨(some 13), none, .mv (.t 102)⟩⟩])
  (.sq (.sq (.rg [⟨(some 14), none, .mv (.c (.int .i64 0))⟩])
  (.bl 0
  (.lp
  (.sq (.sq (.rg [⟨(some 103), none, .mv (.t 14)⟩,
    ⟨(some 104), none, .ib .lss (.t 103) (.c (.int .i64 3))⟩])
  (.cd (.t 104)
  .sk
  (.ex 0)))
  (.sq (.bl 1
  (.sq (.rg [⟨(some 108), none, .mv (.t 3)⟩,
    ⟨(some 109), none, .ld (.t 1) 6 true⟩,
    ⟨(some 110), none, .ca 75 [(.t 108), (.t 109)]⟩,
    ⟨(some 107), none, .mv (.t 110)⟩,
    ⟨(some 111), none, .ex (.t 107) 0⟩,
    ⟨(some 112), none, .ex (.t 107) 1⟩,
    ⟨(some 15), none, .mv (.t 111)⟩,
    ⟨(some 16), none, .mv (.t 112)⟩])
  (.sq (.sq (.rg [⟨(some 113), none, .mv (.t 15)⟩,
    ⟨(some 114), none, .en 0 false (.t 113) (.c (.pointer none))⟩,
    ⟨(some 115), none, .mv (.t 114)⟩,
    ⟨(some 116), (some (115, false)), .mv (.t 16)⟩,
    ⟨(some 117), (some (115, false)), .ib .neq (.t 116) (.c (.int .i64 0))⟩,
    ⟨(some 118), none, .pk (.t 115) (.c (.bool true)) (.t 117)⟩])
  (.cd (.t 118)
  (.sq (.rg [⟨(some 2), none, .mv (.c (.pointer none))⟩])
  .rt)
  .sk))
  (.sq (.rg [⟨(some 119), none, .mv (.t 13)⟩,
    ⟨(some 120), none, .mv (.t 13)⟩,
    ⟨(some 121), none, .nc (.t 120)⟩,
    ⟨(some 122), none, .fa (.t 121) 11⟩,
    ⟨(some 123), none, .ld (.t 122) 1 false⟩,
    ⟨(some 124), none, .mv (.t 15)⟩,
    ⟨(some 125), none, .bs 47 1 [(.pointer none)] [(0, 1, (.t 124))]⟩,
    ⟨(some 126), none, .ap 41 47 1 8 [(.pointer none)] (.t 123) (.t 125)⟩,
    ⟨(some 127), none, .nc (.t 119)⟩,
    ⟨(some 128), none, .fa (.t 127) 11⟩,
    ⟨none, none, .st (.t 128) (.t 126) 1⟩])
  (.rd [⟨0, 0, [13], ⟨(some 129), none, .mv (.t 13)⟩⟩,
    ⟨1, 0, [13], ⟨(some 130), none, .mv (.t 13)⟩⟩,
    ⟨2, 2, [130], ⟨(some 131), none, .nc (.t 130)⟩⟩,
    ⟨3, 6, [131], ⟨(some 132), none, .fa (.t 131) 13⟩⟩,
    ⟨4, 14, [132], ⟨(some 133), none, .ld (.t 132) 1 false⟩⟩,
    ⟨5, 0, [13], ⟨(some 134), none, .mv (.t 13)⟩⟩,
    ⟨6, 32, [134], ⟨(some 135), none, .nc (.t 134)⟩⟩,
    ⟨7, 96, [135], ⟨(some 136), none, .fa (.t 135) 12⟩⟩,
    ⟨8, 224, [136], ⟨(some 137), none, .ld (.t 136) 1 false⟩⟩,
    ⟨9, 480, [137], ⟨(some 138), none, .ca 76 [(.t 137)]⟩⟩,
    ⟨10, 992, [138], ⟨(some 139), none, .bs 81 1 [(.pointer none)] [(0, 1, (.t 138))]⟩⟩,
    ⟨11, 2046, [133, 139], ⟨(some 140), none, .ap 43 81 1 8 [(.pointer none)] (.t 133) (.t 139)⟩⟩,
    ⟨12, 4095, [129], ⟨(some 141), none, .nc (.t 129)⟩⟩,
    ⟨13, 8191, [141], ⟨(some 142), none, .fa (.t 141) 13⟩⟩,
    ⟨14, 16383, [142, 140], ⟨none, none, .st (.t 142) (.t 140) 1⟩⟩])))))
  (.rg [⟨(some 105), none, .mv (.t 14)⟩,
    ⟨(some 106), none, .ib .add (.t 105) (.c (.int .i64 1))⟩,
    ⟨(some 14), none, .mv (.t 106)⟩]))))))
  (.sq (.rg [⟨(some 143), none, .mv (.t 13)⟩,
    ⟨(some 2), none, .mv (.t 143)⟩])
  .rt)))))))))))))⟩
theorem k46 : cF Tryz.prog Tryz.f46 = some c46 := by kernel_rfl
/-- rundale/ending.New -/
def c47 : Fu := ⟨32, [.t 4, .t 5],
  (.sq (.rg [⟨(some 3), none, .bx 24 (.t 1)⟩,
    ⟨(some 4), none, .mv (.c (.pointer none))⟩,
    ⟨(some 5), none, .mv (.c (.int .i64 0))⟩])
  (.sq (.rg [⟨(some 10), none, .mv (.t 0)⟩,
    ⟨(some 11), none, .ld (.t 3) 6 true⟩,
    ⟨(some 12), none, .ca 70 [(.t 10), (.t 11)]⟩,
    ⟨(some 9), none, .mv (.t 12)⟩,
    ⟨(some 13), none, .ex (.t 9) 0⟩,
    ⟨(some 14), none, .ex (.t 9) 1⟩,
    ⟨(some 6), none, .mv (.t 13)⟩,
    ⟨(some 7), none, .mv (.t 14)⟩])
  (.sq (.sq (.rg [⟨(some 15), none, .mv (.t 7)⟩,
    ⟨(some 16), none, .ib .neq (.t 15) (.c (.int .i64 0))⟩])
  (.cd (.t 16)
  (.sq (.rg [⟨(some 17), none, .mv (.t 7)⟩,
    ⟨(some 4), none, .mv (.c (.pointer none))⟩,
    ⟨(some 5), none, .mv (.t 17)⟩])
  .rt)
  .sk))
  (.sq (.rg [⟨(some 19), none, .mv (.t 0)⟩,
    ⟨(some 20), none, .ld (.t 3) 6 true⟩,
    ⟨(some 21), none, .ca 69 [(.t 19), (.t 20)]⟩,
    ⟨(some 18), none, .mv (.t 21)⟩,
    ⟨(some 22), none, .ex (.t 18) 0⟩,
    ⟨(some 23), none, .ex (.t 18) 1⟩,
    ⟨(some 8), none, .mv (.t 22)⟩,
    ⟨(some 7), none, .mv (.t 23)⟩])
  (.sq (.sq (.rg [⟨(some 24), none, .mv (.t 7)⟩,
    ⟨(some 25), none, .ib .neq (.t 24) (.c (.int .i64 0))⟩])
  (.cd (.t 25)
  (.sq (.rg [⟨(some 26), none, .mv (.t 7)⟩,
    ⟨(some 4), none, .mv (.c (.pointer none))⟩,
    ⟨(some 5), none, .mv (.t 26)⟩])
  .rt)
  .sk))
  (.sq (.rg [⟨(some 27), none, .mv (.t 0)⟩,
    ⟨(some 28), none, .mv (.t 6)⟩,
    ⟨(some 29), none, .mv (.t 8)⟩,
    ⟨(some 30), none, .bd [(.pointer none), (.pointer none), (.pointer none)] [(0, 1, (.t 27)), (1, 1, (.t 28)), (2, 1, (.t 29))]⟩,
    ⟨(some 31), none, .bx 197 (.t 30)⟩,
    ⟨(some 4), none, .mv (.t 31)⟩,
    ⟨(some 5), none, .mv (.c (.int .i64 0))⟩])
  .rt))))))⟩
theorem k47 : cF Tryz.prog Tryz.f47 = some c47 := by kernel_rfl
/-- (*rundale/ending.Ends).Free -/
def c48 : Fu := ⟨43, [.t 8, .t 9],
  (.sq (.rg [⟨(some 8), none, .mv (.c (.pointer none))⟩,
    ⟨(some 9), none, .mv (.c (.int .i64 0))⟩])
  (.sq (.rg [⟨(some 14), none, .mv (.t 0)⟩,
    ⟨(some 15), none, .nc (.t 14)⟩,
    ⟨(some 16), none, .fa (.t 15) 1⟩,
    ⟨(some 17), none, .ld (.t 16) 1 false⟩,
    ⟨(some 18), none, .mv (.t 2)⟩,
    ⟨(some 19), none, .mv (.t 3)⟩,
    ⟨(some 20), none, .ca 35 [(.t 17), (.t 18), (.t 19)]⟩,
    ⟨(some 13), none, .mv (.t 20)⟩,
    ⟨(some 21), none, .ex (.t 13) 0⟩,
    ⟨(some 22), none, .ex (.t 13) 1⟩,
    ⟨(some 10), none, .mv (.t 21)⟩,
    ⟨(some 11), none, .mv (.t 22)⟩])
  (.sq (.sq (.rg [⟨(some 23), none, .mv (.t 11)⟩,
    ⟨(some 24), none, .ib .neq (.t 23) (.c (.int .i64 0))⟩])
  (.cd (.t 24)
  (.sq (.rg [⟨(some 25), none, .mv (.t 11)⟩,
    ⟨(some 8), none, .mv (.c (.pointer none))⟩,
    ⟨(some 9), none, .mv (.t 25)⟩])
  .rt)
  .sk))
  (.sq (.rg [⟨(some 26), none, .mv (.t 0)⟩,
    ⟨(some 27), none, .mv (.t 1)⟩,
    ⟨(some 28), none, .mv (.t 2)⟩,
    ⟨(some 29), none, .mv (.t 10)⟩,
    ⟨(some 30), none, .bd [.nilFunc, .nilFunc, .nilFunc, .nilFunc, (.int .i64 0), (.pointer none), (.pointer none), (.int .i64 0), (.pointer none), (.pointer none), (.pointer none), (.int .i64 0), (.int .i64 0), (.int .i64 0), (.int .i64 0), (.int .i64 0), (.int .i64 0)] [(5, 1, (.t 26)), (6, 1, (.t 27)), (7, 1, (.t 28)), (8, 1, (.t 29)), (12, 1, (.c (.int .i64 (-1)))), (13, 1, (.c (.int .i64 (-1))))]⟩,
    ⟨(some 31), none, .bx 200 (.t 30)⟩,
    ⟨(some 12), none, .mv (.t 31)⟩])
  (.sq (.rg [⟨(some 32), none, .mv (.t 12)⟩,
    ⟨(some 33), none, .nc (.t 32)⟩,
    ⟨(some 34), none, .fa (.t 33) 0⟩,
    ⟨(some 35), none, .mv (.t 10)⟩,
    ⟨(some 36), none, .mf (.func 32) [(.t 35)] []⟩,
    ⟨(some 37), none, .mv (.t 10)⟩,
    ⟨(some 38), none, .mf (.func 34) [(.t 37)] []⟩,
    ⟨(some 39), none, .mv (.t 12)⟩,
    ⟨(some 40), none, .mf (.func 120) [(.t 39)] []⟩,
    ⟨(some 41), none, .ca 119 [(.t 34), (.t 36), (.t 38), (.t 40)]⟩])
  (.sq (.rg [⟨(some 42), none, .mv (.t 12)⟩,
    ⟨(some 8), none, .mv (.t 42)⟩,
    ⟨(some 9), none, .mv (.c (.int .i64 0))⟩])
  .rt))))))⟩
theorem k48 : cF Tryz.prog Tryz.f48 = some c48 := by kernel_rfl
/-- (*rundale/rundalelaw15.all).frees -/
def c49 : Fu := ⟨49, [.t 8, .t 9],
  (.sq (.rg [⟨(some 8), none, .mv (.c (.pointer none))⟩,
    ⟨(some 9), none, .mv (.c (.int .i64 0))⟩])
  (.sq (.rd [⟨0, 0, [0], ⟨(some 15), none, .mv (.t 0)⟩⟩,
    ⟨1, 1, [15], ⟨(some 16), none, .nc (.t 15)⟩⟩,
    ⟨2, 3, [16], ⟨(some 17), none, .fa (.t 16) 9⟩⟩,
    ⟨3, 7, [17], ⟨(some 18), none, .ld (.t 17) 1 false⟩⟩,
    ⟨4, 0, [0], ⟨(some 19), none, .mv (.t 0)⟩⟩,
    ⟨5, 16, [19], ⟨(some 20), none, .nc (.t 19)⟩⟩,
    ⟨6, 48, [20], ⟨(some 21), none, .fa (.t 20) 11⟩⟩,
    ⟨7, 112, [21], ⟨(some 22), none, .ld (.t 21) 1 false⟩⟩,
    ⟨8, 0, [1], ⟨(some 23), none, .mv (.t 1)⟩⟩,
    ⟨9, 496, [22, 23], ⟨(some 24), none, .ia (.t 22) (.t 23) 1⟩⟩,
    ⟨10, 1008, [24], ⟨(some 25), none, .ld (.t 24) 1 false⟩⟩,
    ⟨11, 0, [2], ⟨(some 26), none, .mv (.t 2)⟩⟩,
    ⟨12, 0, [3], ⟨(some 27), none, .mv (.t 3)⟩⟩,
    ⟨13, 8191, [18, 25, 26, 27], ⟨(some 28), none, .ca 48 [(.t 18), (.t 25), (.t 26), (.t 27)]⟩⟩,
    ⟨14, 16383, [28], ⟨(some 14), none, .mv (.t 28)⟩⟩,
    ⟨15, 32767, [14], ⟨(some 29), none, .ex (.t 14) 0⟩⟩,
    ⟨16, 32767, [14], ⟨(some 30), none, .ex (.t 14) 1⟩⟩,
    ⟨17, 65535, [29], ⟨(some 10), none, .mv (.t 29)⟩⟩,
    ⟨18, 262143, [30], ⟨(some 11), none, .mv (.t 30)⟩⟩])
  (.sq (.sq (.rg [⟨(some 31), none, .mv (.t 10)⟩,
    ⟨(some 32), none, .en 0 false (.t 31) (.c (.pointer none))⟩,
    ⟨(some 33), none, .mv (.t 32)⟩,
    ⟨(some 34), (some (33, false)), .mv (.t 11)⟩,
    ⟨(some 35), (some (33, false)), .ib .neq (.t 34) (.c (.int .i64 0))⟩,
    ⟨(some 36), none, .pk (.t 33) (.c (.bool true)) (.t 35)⟩])
  (.cd (.t 36)
  (.sq (.rg [⟨(some 8), none, .mv (.c (.pointer none))⟩,
    ⟨(some 9), none, .mv (.c (.int .i64 (-1)))⟩])
  .rt)
  .sk))
  (.sq (.rg [⟨(some 12), none, .mv (.c (.int .i64 0))⟩])
  (.sq (.sq (.rg [⟨(some 13), none, .mv (.c (.int .i64 0))⟩])
  (.bl 0
  (.lp
  (.sq (.sq (.rg [⟨(some 37), none, .mv (.t 13)⟩,
    ⟨(some 38), none, .ib .lss (.t 37) (.c (.int .i64 400))⟩,
    ⟨(some 39), none, .mv (.t 38)⟩,
    ⟨(some 40), (some (39, true)), .mv (.t 10)⟩,
    ⟨(some 41), (some (39, true)), .ca 55 [(.t 40)]⟩,
    ⟨(some 42), none, .pk (.t 39) (.t 41) (.c (.bool false))⟩])
  (.cd (.t 42)
  .sk
  (.ex 0)))
  (.sq (.bl 1
  (.rg [⟨(some 45), none, .mv (.t 12)⟩,
    ⟨(some 46), none, .ib .add (.t 45) (.c (.int .i64 1))⟩,
    ⟨(some 12), none, .mv (.t 46)⟩]))
  (.rg [⟨(some 43), none, .mv (.t 13)⟩,
    ⟨(some 44), none, .ib .add (.t 43) (.c (.int .i64 1))⟩,
    ⟨(some 13), none, .mv (.t 44)⟩]))))))
  (.sq (.rg [⟨(some 47), none, .mv (.t 10)⟩,
    ⟨(some 48), none, .mv (.t 12)⟩,
    ⟨(some 8), none, .mv (.t 47)⟩,
    ⟨(some 9), none, .mv (.t 48)⟩])
  .rt))))))⟩
theorem k49 : cF Tryz.prog Tryz.f49 = some c49 := by kernel_rfl
/-- (*rundale/ending.Free).Code -/
def c50 : Fu := ⟨10, [.t 2],
  (.sq (.rg [⟨(some 2), none, .mv (.c (.int .i64 0))⟩])
  (.sq (.sq (.rg [⟨(some 3), none, .mv (.t 0)⟩,
    ⟨(some 4), none, .ca 56 [(.t 3)]⟩,
    ⟨(some 5), none, .nt (.t 4)⟩])
  (.cd (.t 5)
  (.sq (.rg [⟨(some 2), none, .mv (.c (.int .i64 0))⟩])
  .rt)
  .sk))
  (.sq (.rg [⟨(some 6), none, .mv (.t 0)⟩,
    ⟨(some 7), none, .nc (.t 6)⟩,
    ⟨(some 8), none, .fa (.t 7) 16⟩,
    ⟨(some 9), none, .ld (.t 8) 1 false⟩,
    ⟨(some 2), none, .mv (.t 9)⟩])
  .rt)))⟩
theorem k50 : cF Tryz.prog Tryz.f50 = some c50 := by kernel_rfl
/-- (*rundale/ending.Free).Point -/
def c51 : Fu := ⟨7, [.t 2],
  (.sq (.rg [⟨(some 2), none, .mv (.c (.int .i64 0))⟩])
  (.sq (.rg [⟨(some 3), none, .mv (.t 0)⟩,
    ⟨(some 4), none, .nc (.t 3)⟩,
    ⟨(some 5), none, .fa (.t 4) 14⟩,
    ⟨(some 6), none, .ld (.t 5) 1 false⟩,
    ⟨(some 2), none, .mv (.t 6)⟩])
  .rt))⟩
theorem k51 : cF Tryz.prog Tryz.f51 = some c51 := by kernel_rfl
/-- (*rundale/ending.Free).Back -/
def c52 : Fu := ⟨7, [.t 2],
  (.sq (.rg [⟨(some 2), none, .mv (.c (.int .i64 0))⟩])
  (.sq (.rg [⟨(some 3), none, .mv (.t 0)⟩,
    ⟨(some 4), none, .nc (.t 3)⟩,
    ⟨(some 5), none, .fa (.t 4) 15⟩,
    ⟨(some 6), none, .ld (.t 5) 1 false⟩,
    ⟨(some 2), none, .mv (.t 6)⟩])
  .rt))⟩
theorem k52 : cF Tryz.prog Tryz.f52 = some c52 := by kernel_rfl
/-- (*rundale/roots.Roots).Spare -/
def c53 : Fu := ⟨8, [.t 2],
  (.sq (.rg [⟨(some 2), none, .mv (.c (.slice none 0 0))⟩])
  (.sq (.rg [⟨(some 3), none, .mv (.t 0)⟩,
    ⟨(some 4), none, .nc (.t 3)⟩,
    ⟨(some 5), none, .fa (.t 4) 7⟩,
    ⟨(some 6), none, .ld (.t 5) 1 false⟩,
    ⟨(some 7), none, .ca 31 [(.t 6)]⟩,
    ⟨(some 2), none, .mv (.t 7)⟩])
  .rt))⟩
theorem k53 : cF Tryz.prog Tryz.f53 = some c53 := by kernel_rfl
/-- (*rundale/rundalelaw15.all).region -/
def c54 : Fu := ⟨132, [.t 8, .t 9, .t 10],
  (.sq (.rg [⟨(some 8), none, .mv (.c (.int .i64 0))⟩,
    ⟨(some 9), none, .mv (.c (.int .i64 0))⟩,
    ⟨(some 10), none, .mv (.c (.bool false))⟩])
  (.sq (.rd [⟨0, 0, [0], ⟨(some 21), none, .mv (.t 0)⟩⟩,
    ⟨1, 1, [21], ⟨(some 22), none, .nc (.t 21)⟩⟩,
    ⟨2, 3, [22], ⟨(some 23), none, .fa (.t 22) 7⟩⟩,
    ⟨3, 7, [23], ⟨(some 24), none, .ld (.t 23) 1 false⟩⟩,
    ⟨4, 15, [24], ⟨(some 25), none, .ca 84 [(.t 24), (.c (.int .i64 0))]⟩⟩,
    ⟨5, 0, [0], ⟨(some 26), none, .mv (.t 0)⟩⟩,
    ⟨6, 32, [26], ⟨(some 27), none, .nc (.t 26)⟩⟩,
    ⟨7, 96, [27], ⟨(some 28), none, .fa (.t 27) 12⟩⟩,
    ⟨8, 224, [28], ⟨(some 29), none, .ld (.t 28) 1 false⟩⟩,
    ⟨9, 511, [29], ⟨(some 30), none, .ca 85 [(.t 29), (.c (.int .i64 0))]⟩⟩,
    ⟨10, 1023, [25], ⟨(some 11), none, .mv (.t 25)⟩⟩,
    ⟨11, 2047, [30], ⟨(some 12), none, .mv (.t 30)⟩⟩])
  (.sq (.sq (.rg [⟨(some 31), none, .mv (.t 11)⟩,
    ⟨(some 32), none, .en 0 false (.t 31) (.c (.pointer none))⟩])
  (.cd (.t 32)
  (.sq (.rg [⟨(some 8), none, .mv (.c (.int .i64 0))⟩,
    ⟨(some 9), none, .mv (.c (.int .i64 0))⟩,
    ⟨(some 10), none, .mv (.c (.bool false))⟩])
  .rt)
  .sk))
  (.sq (.sq (.rg [⟨(some 13), none, .mv (.c (.int .i64 0))⟩])
  (.bl 0
  (.lp
  (.sq (.sq (.rg [⟨(some 33), none, .mv (.t 13)⟩,
    ⟨(some 34), none, .ib .lss (.t 33) (.c (.int .i64 10))⟩])
  (.cd (.t 34)
  .sk
  (.ex 0)))
  (.sq (.bl 1
  (.sq (.rg [⟨(some 37), none, .mv (.t 11)⟩,
    ⟨(some 38), none, .ca 86 [(.t 37)]⟩])
  (.rg [⟨(some 39), none, .mv (.t 12)⟩,
    ⟨(some 40), none, .ca 87 [(.t 39)]⟩])))
  (.rg [⟨(some 35), none, .mv (.t 13)⟩,
    ⟨(some 36), none, .ib .add (.t 35) (.c (.int .i64 1))⟩,
    ⟨(some 13), none, .mv (.t 36)⟩]))))))
  (.sq (.rg [⟨(some 42), none, .mv (.t 11)⟩,
    ⟨(some 43), none, .ca 88 [(.t 42)]⟩,
    ⟨(some 41), none, .mv (.t 43)⟩,
    ⟨(some 44), none, .ex (.t 41) 0⟩,
    ⟨(some 45), none, .ex (.t 41) 1⟩,
    ⟨(some 14), none, .mv (.t 44)⟩,
    ⟨(some 15), none, .mv (.t 45)⟩])
  (.sq (.sq (.rg [⟨(some 46), none, .mv (.t 11)⟩,
    ⟨(some 47), none, .ca 89 [(.t 46)]⟩,
    ⟨(some 48), none, .nt (.t 47)⟩,
    ⟨(some 49), none, .mv (.t 48)⟩,
    ⟨(some 50), (some (49, false)), .mv (.t 11)⟩,
    ⟨(some 51), (some (49, false)), .ca 90 [(.t 50)]⟩,
    ⟨(some 52), (some (49, false)), .ib .neq (.t 51) (.c (.int .i64 0))⟩,
    ⟨(some 53), none, .pk (.t 49) (.c (.bool true)) (.t 52)⟩,
    ⟨(some 54), none, .mv (.t 53)⟩,
    ⟨(some 55), (some (54, false)), .mv (.t 14)⟩,
    ⟨(some 56), (some (54, false)), .mv (.t 12)⟩,
    ⟨(some 57), (some (54, false)), .nc (.t 56)⟩,
    ⟨(some 58), (some (54, false)), .fa (.t 57) 5⟩,
    ⟨(some 59), (some (54, false)), .ld (.t 58) 1 false⟩,
    ⟨(some 60), (some (54, false)), .ib .neq (.t 55) (.t 59)⟩,
    ⟨(some 61), none, .pk (.t 54) (.c (.bool true)) (.t 60)⟩,
    ⟨(some 62), none, .mv (.t 61)⟩,
    ⟨(some 63), (some (62, false)), .mv (.t 15)⟩,
    ⟨(some 64), (some (62, false)), .mv (.t 12)⟩,
    ⟨(some 65), (some (62, false)), .nc (.t 64)⟩,
    ⟨(some 66), (some (62, false)), .fa (.t 65) 6⟩,
    ⟨(some 67), (some (62, false)), .ld (.t 66) 1 false⟩,
    ⟨(some 68), (some (62, false)), .ib .neq (.t 63) (.t 67)⟩,
    ⟨(some 69), none, .pk (.t 62) (.c (.bool true)) (.t 68)⟩])
  (.cd (.t 69)
  (.sq (.rg [⟨(some 8), none, .mv (.c (.int .i64 0))⟩,
    ⟨(some 9), none, .mv (.c (.int .i64 0))⟩,
    ⟨(some 10), none, .mv (.c (.bool false))⟩])
  .rt)
  .sk))
  (.sq (.sq (.rg [⟨(some 16), none, .mv (.c (.int .i64 0))⟩])
  (.bl 2
  (.lp
  (.sq (.sq (.rg [⟨(some 70), none, .mv (.t 16)⟩,
    ⟨(some 71), none, .mv (.t 2)⟩,
    ⟨(some 72), none, .ib .lss (.t 70) (.t 71)⟩])
  (.cd (.t 72)
  .sk
  (.ex 2)))
  (.sq (.bl 3
  (.sq (.rd [⟨0, 0, [0], ⟨(some 76), none, .mv (.t 0)⟩⟩,
    ⟨1, 1, [76], ⟨(some 77), none, .nc (.t 76)⟩⟩,
    ⟨2, 3, [77], ⟨(some 78), none, .fa (.t 77) 8⟩⟩,
    ⟨3, 7, [78], ⟨(some 79), none, .ld (.t 78) 1 false⟩⟩,
    ⟨4, 0, [0], ⟨(some 80), none, .mv (.t 0)⟩⟩,
    ⟨5, 16, [80], ⟨(some 81), none, .nc (.t 80)⟩⟩,
    ⟨6, 48, [81], ⟨(some 82), none, .fa (.t 81) 11⟩⟩,
    ⟨7, 112, [82], ⟨(some 83), none, .ld (.t 82) 1 false⟩⟩,
    ⟨8, 0, [1], ⟨(some 84), none, .mv (.t 1)⟩⟩,
    ⟨9, 496, [83, 84], ⟨(some 85), none, .ia (.t 83) (.t 84) 1⟩⟩,
    ⟨10, 1008, [85], ⟨(some 86), none, .ld (.t 85) 1 false⟩⟩,
    ⟨11, 0, [14], ⟨(some 87), none, .mv (.t 14)⟩⟩,
    ⟨12, 0, [15], ⟨(some 88), none, .mv (.t 15)⟩⟩,
    ⟨13, 0, [3], ⟨(some 89), none, .mv (.t 3)⟩⟩,
    ⟨14, 16383, [79, 86, 87, 88, 89], ⟨(some 90), none, .ca 19 [(.t 79), (.t 86), (.t 87), (.t 88), (.t 89)]⟩⟩,
    ⟨15, 32767, [90], ⟨(some 75), none, .mv (.t 90)⟩⟩,
    ⟨16, 65535, [75], ⟨(some 91), none, .ex (.t 75) 0⟩⟩,
    ⟨17, 65535, [75], ⟨(some 92), none, .ex (.t 75) 1⟩⟩,
    ⟨18, 131071, [91], ⟨(some 17), none, .mv (.t 91)⟩⟩,
    ⟨19, 524287, [92], ⟨(some 18), none, .mv (.t 92)⟩⟩])
  (.sq (.rg [⟨(some 93), none, .mv (.t 0)⟩,
    ⟨(some 94), none, .nc (.t 93)⟩,
    ⟨(some 95), none, .fa (.t 94) 13⟩,
    ⟨(some 96), none, .ld (.t 95) 1 false⟩,
    ⟨(some 97), none, .mv (.t 1)⟩,
    ⟨(some 98), none, .ia (.t 96) (.t 97) 1⟩,
    ⟨(some 99), none, .ld (.t 98) 1 false⟩,
    ⟨(some 100), none, .mv (.t 14)⟩,
    ⟨(some 101), none, .mv (.t 15)⟩,
    ⟨(some 102), none, .mv (.t 3)⟩,
    ⟨(some 103), none, .ca 37 [(.t 99), (.t 100), (.t 101), (.t 102)]⟩,
    ⟨(some 19), none, .mv (.t 103)⟩])
  (.sq (.sq (.rg [⟨(some 104), none, .mv (.t 17)⟩,
    ⟨(some 105), none, .en 0 false (.t 104) (.c (.pointer none))⟩,
    ⟨(some 106), none, .mv (.t 105)⟩,
    ⟨(some 107), (some (106, false)), .mv (.t 18)⟩,
    ⟨(some 108), (some (106, false)), .ib .neq (.t 107) (.c (.int .i64 0))⟩,
    ⟨(some 109), none, .pk (.t 106) (.c (.bool true)) (.t 108)⟩])
  (.cd (.t 109)
  (.sq (.rg [⟨(some 8), none, .mv (.c (.int .i64 0))⟩,
    ⟨(some 9), none, .mv (.c (.int .i64 0))⟩,
    ⟨(some 10), none, .mv (.c (.bool false))⟩])
  .rt)
  .sk))
  (.sq (.sq (.rg [⟨(some 20), none, .mv (.c (.int .i64 0))⟩])
  (.bl 4
  (.lp
  (.sq (.sq (.rg [⟨(some 110), none, .mv (.t 20)⟩,
    ⟨(some 111), none, .ib .lss (.t 110) (.c (.int .i64 200))⟩,
    ⟨(some 112), none, .mv (.t 111)⟩,
    ⟨(some 113), (some (112, true)), .mv (.t 19)⟩,
    ⟨(some 114), (some (112, true)), .ca 38 [(.t 113)]⟩,
    ⟨(some 115), none, .pk (.t 112) (.t 114) (.c (.bool false))⟩])
  (.cd (.t 115)
  .sk
  (.ex 4)))
  (.sq (.bl 5
  (.rg [⟨(some 118), none, .mv (.t 17)⟩,
    ⟨(some 119), none, .ca 26 [(.t 118)]⟩]))
  (.rg [⟨(some 116), none, .mv (.t 20)⟩,
    ⟨(some 117), none, .ib .add (.t 116) (.c (.int .i64 1))⟩,
    ⟨(some 20), none, .mv (.t 117)⟩]))))))
  (.sq (.rg [⟨(some 120), none, .mv (.t 17)⟩,
    ⟨(some 121), none, .ca 27 [(.t 120)]⟩,
    ⟨(some 122), none, .nt (.t 121)⟩,
    ⟨(some 123), none, .mv (.t 122)⟩,
    ⟨(some 124), (some (123, false)), .mv (.t 19)⟩,
    ⟨(some 125), (some (123, false)), .nc (.t 124)⟩,
    ⟨(some 126), (some (123, false)), .fa (.t 125) 20⟩,
    ⟨(some 127), (some (123, false)), .ld (.t 126) 1 false⟩,
    ⟨(some 128), (some (123, false)), .nt (.t 127)⟩,
    ⟨(some 129), none, .pk (.t 123) (.c (.bool true)) (.t 128)⟩])
  (.cd (.t 129)
  (.sq (.rg [⟨(some 8), none, .mv (.c (.int .i64 0))⟩,
    ⟨(some 9), none, .mv (.c (.int .i64 0))⟩,
    ⟨(some 10), none, .mv (.c (.bool false))⟩])
  .rt)
  .sk)))))))
  (.rg [⟨(some 73), none, .mv (.t 16)⟩,
    ⟨(some 74), none, .ib .add (.t 73) (.c (.int .i64 1))⟩,
    ⟨(some 16), none, .mv (.t 74)⟩]))))))
  (.sq (.rg [⟨(some 130), none, .mv (.t 14)⟩,
    ⟨(some 131), none, .mv (.t 15)⟩,
    ⟨(some 8), none, .mv (.t 130)⟩,
    ⟨(some 9), none, .mv (.t 131)⟩,
    ⟨(some 10), none, .mv (.c (.bool true))⟩])
  .rt))))))))⟩
theorem k54 : cF Tryz.prog Tryz.f54 = some c54 := by kernel_rfl
/-- (*rundale/ending.Free).Step -/
def c55 : Fu := ⟨7, [.t 2],
  (.sq (.rg [⟨(some 2), none, .mv (.c (.bool false))⟩])
  (.sq (.rg [⟨(some 3), none, .mv (.t 0)⟩,
    ⟨(some 4), none, .nc (.t 3)⟩,
    ⟨(some 5), none, .fa (.t 4) 0⟩,
    ⟨(some 6), none, .ca 91 [(.t 5)]⟩,
    ⟨(some 2), none, .mv (.t 6)⟩])
  .rt))⟩
theorem k55 : cF Tryz.prog Tryz.f55 = some c55 := by kernel_rfl
/-- (*rundale/ending.Free).Done -/
def c56 : Fu := ⟨7, [.t 2],
  (.sq (.rg [⟨(some 2), none, .mv (.c (.bool false))⟩])
  (.sq (.rg [⟨(some 3), none, .mv (.t 0)⟩,
    ⟨(some 4), none, .nc (.t 3)⟩,
    ⟨(some 5), none, .fa (.t 4) 0⟩,
    ⟨(some 6), none, .ca 92 [(.t 5)]⟩,
    ⟨(some 2), none, .mv (.t 6)⟩])
  .rt))⟩
theorem k56 : cF Tryz.prog Tryz.f56 = some c56 := by kernel_rfl
/-- (*rundale/rundalemake.Seq).N -/
def c68 : Fu := ⟨36, [.t 4],
  (.sq (.rg [⟨(some 4), none, .mv (.c (.int .i64 0))⟩])
  (.sq (.rg [⟨(some 5), none, .mv (.c (.int .i64 0))⟩])
  (.sq (.sq (.rd [⟨0, 0, [0], ⟨(some 6), none, .mv (.t 0)⟩⟩,
    ⟨1, 1, [6], ⟨(some 7), none, .nc (.t 6)⟩⟩,
    ⟨2, 3, [7], ⟨(some 8), none, .fa (.t 7) 1⟩⟩,
    ⟨3, 7, [8], ⟨(some 9), none, .ld (.t 8) 1 false⟩⟩,
    ⟨4, 0, [0], ⟨(some 10), none, .mv (.t 0)⟩⟩,
    ⟨5, 16, [10], ⟨(some 11), none, .nc (.t 10)⟩⟩,
    ⟨6, 48, [11], ⟨(some 12), none, .fa (.t 11) 0⟩⟩,
    ⟨7, 112, [12], ⟨(some 13), none, .ld (.t 12) 1 false⟩⟩,
    ⟨8, 240, [13], ⟨(some 14), none, .len (.t 13)⟩⟩,
    ⟨9, 511, [9, 14], ⟨(some 15), none, .ib .lss (.t 9) (.t 14)⟩⟩])
  (.cd (.t 15)
  (.rd [⟨0, 0, [0], ⟨(some 16), none, .mv (.t 0)⟩⟩,
    ⟨1, 1, [16], ⟨(some 17), none, .nc (.t 16)⟩⟩,
    ⟨2, 3, [17], ⟨(some 18), none, .fa (.t 17) 0⟩⟩,
    ⟨3, 7, [18], ⟨(some 19), none, .ld (.t 18) 1 false⟩⟩,
    ⟨4, 0, [0], ⟨(some 20), none, .mv (.t 0)⟩⟩,
    ⟨5, 16, [20], ⟨(some 21), none, .nc (.t 20)⟩⟩,
    ⟨6, 48, [21], ⟨(some 22), none, .fa (.t 21) 1⟩⟩,
    ⟨7, 112, [22], ⟨(some 23), none, .ld (.t 22) 1 false⟩⟩,
    ⟨8, 255, [19, 23], ⟨(some 24), none, .ia (.t 19) (.t 23) 1⟩⟩,
    ⟨9, 511, [24], ⟨(some 25), none, .ld (.t 24) 1 false⟩⟩,
    ⟨10, 1023, [25], ⟨(some 5), none, .mv (.t 25)⟩⟩])
  .sk))
  (.sq (.rg [⟨(some 26), none, .mv (.t 0)⟩,
    ⟨(some 27), none, .nc (.t 26)⟩,
    ⟨(some 28), none, .fa (.t 27) 1⟩,
    ⟨(some 29), none, .ld (.t 28) 1 false⟩,
    ⟨(some 30), none, .ib .add (.t 29) (.c (.int .i64 1))⟩,
    ⟨(some 31), none, .nc (.t 26)⟩,
    ⟨(some 32), none, .fa (.t 31) 1⟩,
    ⟨none, none, .st (.t 32) (.t 30) 1⟩])
  (.sq (.rg [⟨(some 33), none, .mv (.t 5)⟩,
    ⟨(some 34), none, .mv (.t 1)⟩,
    ⟨(some 35), none, .ca 16 [(.t 33), (.t 34)]⟩,
    ⟨(some 4), none, .mv (.t 35)⟩])
  .rt)))))⟩
theorem k68 : cF Tryz.prog Tryz.f68 = some c68 := by kernel_rfl
/-- rundale/chain.New -/
def c69 : Fu := ⟨35, [.t 4, .t 5],
  (.sq (.rg [⟨(some 3), none, .bx 24 (.t 1)⟩,
    ⟨(some 4), none, .mv (.c (.pointer none))⟩,
    ⟨(some 5), none, .mv (.c (.int .i64 0))⟩])
  (.sq (.sq (.rd [⟨0, 0, [3], ⟨(some 8), none, .ld (.t 3) 6 true⟩⟩,
    ⟨1, 1, [8], ⟨(some 9), none, .ca 77 [(.t 8)]⟩⟩,
    ⟨2, 3, [9], ⟨(some 10), none, .nt (.t 9)⟩⟩,
    ⟨3, 7, [10], ⟨(some 11), none, .mv (.t 10)⟩⟩,
    ⟨4, 15, [0, 11], ⟨(some 12), (some (11, false)), .mv (.t 0)⟩⟩,
    ⟨5, 31, [12, 11], ⟨(some 13), (some (11, false)), .ca 137 [(.t 12)]⟩⟩,
    ⟨6, 15, [3, 11], ⟨(some 14), (some (11, false)), .ld (.t 3) 6 true⟩⟩,
    ⟨7, 127, [14, 11], ⟨(some 15), (some (11, false)), .ca 17 [(.t 14)]⟩⟩,
    ⟨8, 255, [13, 15, 11], ⟨(some 16), (some (11, false)), .ib .lss (.t 13) (.t 15)⟩⟩,
    ⟨9, 511, [11, 16], ⟨(some 17), none, .pk (.t 11) (.c (.bool true)) (.t 16)⟩⟩])
  (.cd (.t 17)
  (.sq (.rg [⟨(some 4), none, .mv (.c (.pointer none))⟩,
    ⟨(some 5), none, .mv (.c (.int .i64 1))⟩])
  .rt)
  .sk))
  (.sq (.rd [⟨0, 0, [0], ⟨(some 19), none, .mv (.t 0)⟩⟩,
    ⟨1, 0, [3], ⟨(some 20), none, .ld (.t 3) 6 true⟩⟩,
    ⟨2, 2, [20], ⟨(some 21), none, .ca 139 [(.t 20), (.c (.int .i64 0))]⟩⟩,
    ⟨3, 0, [3], ⟨(some 22), none, .fa (.t 3) 1⟩⟩,
    ⟨4, 8, [22], ⟨(some 23), none, .ld (.t 22) 1 false⟩⟩,
    ⟨5, 31, [19, 21, 23], ⟨(some 24), none, .ca 138 [(.t 19), (.c (.int .i64 0)), (.t 21), (.t 23)]⟩⟩,
    ⟨6, 63, [24], ⟨(some 18), none, .mv (.t 24)⟩⟩,
    ⟨7, 127, [18], ⟨(some 25), none, .ex (.t 18) 0⟩⟩,
    ⟨8, 127, [18], ⟨(some 26), none, .ex (.t 18) 1⟩⟩,
    ⟨9, 255, [25], ⟨(some 6), none, .mv (.t 25)⟩⟩,
    ⟨10, 1023, [26], ⟨(some 7), none, .mv (.t 26)⟩⟩])
  (.sq (.sq (.rg [⟨(some 27), none, .mv (.t 7)⟩,
    ⟨(some 28), none, .ib .neq (.t 27) (.c (.int .i64 0))⟩])
  (.cd (.t 28)
  (.sq (.rg [⟨(some 29), none, .mv (.t 7)⟩,
    ⟨(some 4), none, .mv (.c (.pointer none))⟩,
    ⟨(some 5), none, .mv (.t 29)⟩])
  .rt)
  .sk))
  (.sq (.rg [⟨(some 30), none, .mv (.t 0)⟩,
    ⟨(some 31), none, .ld (.t 3) 6 true⟩,
    ⟨(some 32), none, .mv (.t 6)⟩,
    ⟨(some 33), none, .bd [(.pointer none), (.int .i64 0), (.int .i64 0), (.int .i64 0), (.int .i64 0), (.int .i64 0), (.int .i64 0), (.pointer none)] [(0, 1, (.t 30)), (1, 6, (.t 31)), (7, 1, (.t 32))]⟩,
    ⟨(some 34), none, .bx 215 (.t 33)⟩,
    ⟨(some 4), none, .mv (.t 34)⟩,
    ⟨(some 5), none, .mv (.c (.int .i64 0))⟩])
  .rt)))))⟩
theorem k69 : cF Tryz.prog Tryz.f69 = some c69 := by kernel_rfl
end Go.Proofs.YtflalhdofhobmaaGreat
