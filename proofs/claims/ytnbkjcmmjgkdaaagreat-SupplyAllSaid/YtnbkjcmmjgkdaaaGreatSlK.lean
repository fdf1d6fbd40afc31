/-
  Regions that draw their order, where nothing that is done turns what is known of the memory: whatever the order, it comes to what the listed order comes to.
-/
import Derived.Test.YtnbkjcmmjgkdaaaGreatSlJ
set_option linter.unusedVariables false
set_option linter.unusedSimpArgs false
namespace Go.Proofs.YtnbkjcmmjgkdaaaGreat
open Go

/-- What is known of these temporaries. -/
def En.only (e : En) : List Nat → En
  | [] => []
  | t :: r => match e.get t with | some v => (t, v) :: En.only e r | none => En.only e r
theorem only_get {e : En} : ∀ {rs : List Nat} {t : Nat} {u : Value}, (e.only rs).get t = some u → t ∈ rs ∧ e.get t = some u
  | [], t, u, h => by simp [En.only, En.get] at h
  | a :: r, t, u, h => by
    unfold En.only at h
    split at h
    · rename_i v hv
      simp only [En.get] at h
      cases hb : Nat.beq a t with
      | true =>
        rw [hb, cond_true] at h
        have := Nat.eq_of_beq_eq_true hb
        subst this
        cases h
        exact ⟨by simp, hv⟩
      | false =>
        rw [hb, cond_false] at h
        have := only_get h
        exact ⟨by simp [this.1], this.2⟩
    · have := only_get h
      exact ⟨by simp [this.1], this.2⟩
theorem put_ne {e : En} {d : Option Nat} {v : Value} {t : Nat} (h : d ≠ some t) : (e.put d v).get t = e.get t := by
  cases d with
  | none => rfl
  | some i =>
    have hit : Nat.beq i t = false := by
      cases hb : Nat.beq i t with
      | false => rfl
      | true => exact absurd (by rw [Nat.eq_of_beq_eq_true hb]) h
    simp [En.put, En.get, hit]
theorem put_eq {e : En} {d : Nat} {v : Value} : (e.put (some d) v).get d = some v := by simp [En.put, En.get]

section
variable {P : Program} {N : Nat} {L F : St}
/-- One operation that comes to v and leaves what is known of the memory. -/
def Sc (P : Program) (N : Nat) (g : G) (e : En) (v : Value) (L : St) : Prop := ∀ K : En → St → Prop, K (e.put g.d v) L → Sx P N [g] e K L
/-- The listed order. -/
def Calm (P : Program) (N : Nat) (L : St) : List It → En → En → Prop
  | [], e, fin => fin = e
  | x :: r, e, fin => ∃ v, (∀ e', sub (e.only x.rs) e' → Sc P N x.g e' v L) ∧ Calm P N L r (e.put x.g.d v) fin
def dOK (d : Option Nat) (rs : List Nat) : Bool := match d with | none => true | some d => !(rs.any (Nat.beq d))
def okL : List It → Bool
  | [] => true
  | x :: r => (dOK x.g.d x.rs && r.all (fun y => dOK y.g.d x.rs && dOK y.g.d (match x.g.d with | some d => [d] | none => []))) && okL r
def okD (l : List It) : Bool := l.all fun x => l.all fun y => dOK y.g.d x.rs || bit x.ds y.i
def okI : Nat → List It → Bool
  | _, [] => true
  | n, x :: r => Nat.beq x.i n && okI (n + 1) r
def chk (l : List It) : Bool := okL l && (okD l && okI 0 l)
theorem dOK_iff {d : Option Nat} {rs : List Nat} (h : dOK d rs = true) : ∀ t, d = some t → t ∉ rs := by
  rintro t rfl ht
  simp only [dOK, Bool.not_eq_true', List.any_eq_false] at h
  exact h t ht (by simp)
theorem okI_inj : ∀ {l : List It} {n : Nat}, okI n l = true → ∀ x ∈ l, n ≤ x.i ∧ ∀ y ∈ l, x.i = y.i → x = y
  | [], _, _, x, hx => by cases hx
  | a :: r, n, h, x, hx => by
    simp only [okI, Bool.and_eq_true] at h
    have ha := Nat.eq_of_beq_eq_true h.1
    have ih := okI_inj h.2
    rcases List.mem_cons.1 hx with rfl | hxr
    · refine ⟨by omega, fun y hy he => ?_⟩
      rcases List.mem_cons.1 hy with rfl | hyr
      · rfl
      · have := (ih y hyr).1; omega
    · have h1 := ih x hxr
      refine ⟨by omega, fun y hy he => ?_⟩
      rcases List.mem_cons.1 hy with rfl | hyr
      · omega
      · exact h1.2 y hyr he
theorem calm_far : ∀ {l : List It} {e fin : En}, Calm P N L l e fin → ∀ t, (∀ y ∈ l, y.g.d ≠ some t) → fin.get t = e.get t
  | [], _, _, h, t, _ => by rw [show _ = _ from h]
  | x :: r, e, fin, ⟨v, _, hr⟩, t, ht => by
    rw [calm_far hr t (fun y hy => ht y (by simp [hy])), put_ne (ht x (by simp))]
theorem calm_each : ∀ {l : List It} {e fin : En}, okL l = true → Calm P N L l e fin → ∀ x ∈ l, ∃ v, (∀ d, x.g.d = some d → fin.get d = some v) ∧
    ∀ e' : En, (∀ t ∈ x.rs, ∀ u, fin.get t = some u → e'.get t = some u) → Sc P N x.g e' v L
  | [], _, _, _, _, x, hx => by cases hx
  | a :: r, e, fin, ho, ⟨v, ha, hr⟩, x, hx => by
    simp only [okL, Bool.and_eq_true, List.all_eq_true] at ho
    obtain ⟨⟨h1, h2⟩, h3⟩ := ho
    rcases List.mem_cons.1 hx with rfl | hxr
    · refine ⟨v, fun d hd => ?_, fun e' he => ha e' fun t u ht => ?_⟩
      · rw [calm_far hr d (fun y hy hyd => by
          have := dOK_iff (h2 y hy).2 d hyd
          rw [hd] at this
          simp at this)]
        rw [hd]; exact put_eq
      · obtain ⟨htr, hu⟩ := only_get ht
        refine he t htr u ?_
        rw [calm_far hr t (fun y hy hyd => dOK_iff (h2 y hy).1 t hyd htr), put_ne (fun hd => dOK_iff h1 t hd htr)]
        exact hu
    · exact calm_each h3 hr x hxr
theorem without_lt {rem : List It} {x : It} (hx : x ∈ rem) : (without rem x.i).length < rem.length := by
  unfold without
  exact List.length_filter_lt_length_iff_exists.2 ⟨x, hx, by simp⟩
theorem calm_run {l : List It} {fin : En} {K : En → St → Prop} (hi : okI 0 l = true) (hd : okD l = true)
    (hH : ∀ x ∈ l, ∃ v, (∀ d, x.g.d = some d → fin.get d = some v) ∧ ∀ e' : En, (∀ t ∈ x.rs, ∀ u, fin.get t = some u → e'.get t = some u) → Sc P N x.g e' v L) (hK : ∀ e', sub fin e' → K e' L) :
    ∀ (n : Nat) (rem : List It), rem.length = n → (∀ x ∈ rem, x ∈ l) → ∀ e', (∀ t u, fin.get t = some u → (∀ y ∈ rem, y.g.d ≠ some t) → e'.get t = some u) → Rx P N rem [] (fun _ => True) e' K L := by
  intro n
  induction n using Nat.strongRecOn with
  | _ n ih =>
    intro rem hn hsub e' he
    refine Rx.all (fun h0 => hK e' fun t u ht => he t u ht (by rw [h0]; simp)) fun x hx => ⟨by simp, ?_⟩
    have hx1 : x ∈ rem ∧ ready x rem = true := by simpa [readies] using hx
    have hrd : ∀ y ∈ rem, bit x.ds y.i = false := by
      have := hx1.2
      simpa [ready] using this
    obtain ⟨v, hv, hS⟩ := hH x (hsub x hx1.1)
    refine hS e' (fun t ht u hu => he t u hu fun y hy hyd => ?_) _ ⟨trivial, ?_⟩
    · simp only [okD, List.all_eq_true, Bool.or_eq_true] at hd
      rcases hd x (hsub x hx1.1) y (hsub y hy) with h | h
      · exact dOK_iff h t hyd ht
      · rw [hrd y hy] at h; cases h
    · refine ih _ (by rw [← hn]; exact without_lt hx1.1) (without rem x.i) rfl (fun y hy => hsub y (mem_without.1 hy).1) _ fun t u ht hw => ?_
      by_cases hxt : x.g.d = some t
      · have h1 := hv t hxt
        rw [ht] at h1
        rw [hxt, put_eq, ← h1]
      · rw [put_ne hxt]
        refine he t u ht fun y hy hyd => ?_
        by_cases hyx : y.i = x.i
        · have := (okI_inj hi y (hsub y hy)).2 x (hsub x hx1.1) hyx
          subst this
          exact hxt hyd
        · exact hw y (mem_without.2 ⟨hy, hyx⟩) hyd
/-- The listed order, and what comes behind it. -/
def Cm (P : Program) (N : Nat) (L : St) (l : List It) (e : En) (Kf : En → Prop) : Prop := ∃ fin, Calm P N L l e fin ∧ Kf fin
theorem Cx.calm {l : List It} {e : En} {d : C} {K : Kx} (hc : chk l = true) (h : Cm P N L l e fun fin => Cx P N d fin K L) : Cx P N (.rd l) e (Ksq P N d K) L := by
  obtain ⟨fin, hl, hk⟩ := h
  simp only [chk, Bool.and_eq_true] at hc
  refine Cx.rd (calm_run hc.2.2 hc.2.1 (calm_each hc.1 hl) (fun e' hs => ?_) _ l rfl (fun _ h => h) e fun t u ht hw => ?_)
  · exact Cx.less hs hk
  · rw [← calm_far hl t hw]; exact ht
theorem Cx.calmK {l : List It} {e : En} {K : Kx} (hm : ∀ e e', sub e e' → K .nm e L → K .nm e' L) (hc : chk l = true) (h : Cm P N L l e fun fin => K .nm fin L) : Cx P N (.rd l) e K L := by
  obtain ⟨fin, hl, hk⟩ := h
  simp only [chk, Bool.and_eq_true] at hc
  refine Cx.rd (calm_run hc.2.2 hc.2.1 (calm_each hc.1 hl) (fun e' hs => ?_) _ l rfl (fun _ h => h) e fun t u ht hw => ?_)
  · exact hm _ _ hs hk
  · rw [← calm_far hl t hw]; exact ht
theorem Kjn.mono {β : Type _} {K : Kx} {T : β → En} {S : β → St} : ∀ e e', sub e e' → Kjn K T S .nm e L → Kjn K T S .nm e' L :=
  fun e e' hs ⟨y, h1, h2⟩ => ⟨y, fun i v h => hs i v (h1 i v h), h2⟩
theorem Klp.mono {α : Type _} {K : Kx} {T : α → En} {S : α → St} {μ : α → Nat} {x : α} : ∀ e e', sub e e' → Klp K T S μ x .nm e L → Klp K T S μ x .nm e' L :=
  fun e e' hs ⟨y, h1, h2, h3⟩ => ⟨y, fun i v h => hs i v (h1 i v h), h2, h3⟩

section
variable {Kf : En → Prop} {e : En} {r : List It} {i ds : Nat} {rs : List Nat} {d : Option Nat} {g : Option (Nat × Bool)}
theorem Cm.nil (h : Kf e) : Cm P N L [] e Kf := ⟨e, rfl, h⟩
theorem Cm.done {c : C} {K : Kx} (h : Cx P N c e K L) : Cm P N L [] e (fun fin => Cx P N c fin K L) := .nil h
theorem Cm.cons {x : It} (v : Value) (h : ∀ e', sub (e.only x.rs) e' → Sc P N x.g e' v L) (k : Cm P N L r (e.put x.g.d v) Kf) : Cm P N L (x :: r) e Kf := by
  obtain ⟨fin, h1, h2⟩ := k
  exact ⟨fin, ⟨v, h, h1⟩, h2⟩
/-- Does the guard say yes? -/
def gon (e : En) (g : Option (Nat × Bool)) : Bool := match g with
  | none => true
  | some (t, b) => match e.get t with | some (.bool c) => c == b | _ => false
theorem Sc.gon {T e' : En} {s : S} {v : Value} (hg : gon T g = true) (hs : sub T e') (h : Sc P N ⟨d, none, s⟩ e' v L) : Sc P N ⟨d, g, s⟩ e' v L := by
  unfold Proofs.YtnbkjcmmjgkdaaaGreat.gon at hg
  split at hg
  · exact h
  · rename_i t b
    split at hg
    · rename_i c hc
      have hcb : c = b := by simpa using hg
      subst hcb
      exact fun K k => Sx.on (hs _ _ hc) (h K k)
    · cases hg
theorem Sc.pv {T e' : En} {s : S} {φ : Prop} {v : Value} (hp : Proofs.YtnbkjcmmjgkdaaaGreat.pv T s = some (φ, v)) (hφ : φ) (hs : sub T e') : Sc P N ⟨d, none, s⟩ e' v L :=
  fun K k => Sx.step fun o a w0 w hc ok st => ⟨v, w, L, .inl ((ok.sub hs).runs hc hp hφ w), st, Sx.nil k⟩
theorem Cm.pv {s : S} {φ : Prop} {v : Value} (hg : gon (e.only rs) g = true) (hp : Proofs.YtnbkjcmmjgkdaaaGreat.pv (e.only rs) s = some (φ, v)) (hφ : φ) (k : Cm P N L r (e.put d v) Kf) : Cm P N L (⟨i, ds, rs, ⟨d, g, s⟩⟩ :: r) e Kf :=
  .cons v (fun e' hs => .gon hg hs (.pv hp hφ hs)) k
theorem Cm.off {t : Nat} {b : Bool} {s : S} (hb : offs (e.only rs) t b = true) (k : Cm P N L r (e.put d undef) Kf) : Cm P N L (⟨i, ds, rs, ⟨d, some (t, b), s⟩⟩ :: r) e Kf :=
  .cons undef (fun e' hs K k => Sx.off (by
    unfold offs at hb ⊢
    cases h1 : (e.only rs).get t with
    | none => rw [h1] at hb; simp at hb
    | some u => rw [hs _ _ h1]; rw [h1] at hb; exact hb) (Sx.nil k)) k
theorem X.get_sub {T e' : En} {x : X} {v : Value} (h : x.get T = some v) (hs : sub T e') : x.get e' = some v := by
  cases x with
  | t i => exact hs _ _ h
  | c u => exact h
theorem gets_sub {T e' : En} (hs : sub T e') : ∀ {xs : List X} {vs : List Value}, gets T xs = some vs → gets e' xs = some vs
  | [], _, h => h
  | x :: l, vs, h => by
    simp only [gets] at h ⊢
    split at h
    · rename_i v hv
      split at h
      · rename_i us hus
        rw [X.get_sub hv hs]
        simp only
        rw [gets_sub hs hus]
        exact h
      · cases h
    · cases h
theorem Cm.pk {c x y : X} {p q z : Bool} (hg : gon (e.only rs) g = true) (hc : c.get (e.only rs) = some (.bool p)) (hx : x.get (e.only rs) = some (.bool q)) (hy : y.get (e.only rs) = some (.bool z))
    (k : Cm P N L r (e.put d (.bool (pick p q z))) Kf) : Cm P N L (⟨i, ds, rs, ⟨d, g, .pk c x y⟩⟩ :: r) e Kf :=
  .cons _ (fun e' hs => .gon hg hs fun K k => Sx.pk (X.get_sub hc hs) (X.get_sub hx hs) (X.get_sub hy hs) (Sx.nil k)) k
theorem Cm.ld {x : X} {n b off : Nat} {ag : Bool} {vs : List Value} {v : Value} (hg : gon (e.only rs) g = true) (hx : x.get (e.only rs) = some (.pointer (some ⟨b, off, none⟩))) (hh : Has L b off vs) (hv : ldv n ag vs = some v)
    (k : Cm P N L r (e.put d v) Kf) : Cm P N L (⟨i, ds, rs, ⟨d, g, .ld x n ag⟩⟩ :: r) e Kf :=
  .cons v (fun e' hs => .gon hg hs fun K k => Sx.ld (X.get_sub hx hs) hh hv (Sx.nil k)) k
theorem Cm.ldb {x : X} {b off : Nat} {T : TypeId} {cs : List Value} {v : Value} [t : Take L (some ⟨b, 0, none⟩) (Blk T cs) F] (hg : gon (e.only rs) g = true) (hx : x.get (e.only rs) = some (.pointer (some ⟨b, off, none⟩))) (hv : cs[off]? = some v)
    (k : Cm P N L r (e.put d v) Kf) : Cm P N L (⟨i, ds, rs, ⟨d, g, .ld x 1 false⟩⟩ :: r) e Kf :=
  .ld hg hx ((Has.blk (T := T) (cs := cs) (n := 1)).one (take_one hv)) rfl k
theorem Cm.ldbs {x : X} {b off n : Nat} {T : TypeId} {cs : List Value} [t : Take L (some ⟨b, 0, none⟩) (Blk T cs) F] (hg : gon (e.only rs) g = true) (hx : x.get (e.only rs) = some (.pointer (some ⟨b, off, none⟩))) (hn : Nat.ble (off + n) cs.length = true)
    (k : Cm P N L r (e.put d (.agg ((cs.drop off).take n).toArray)) Kf) : Cm P N L (⟨i, ds, rs, ⟨d, g, .ld x n true⟩⟩ :: r) e Kf :=
  .cons _ (fun e' hs => .gon hg hs fun K k => Sx.ldbs (X.get_sub hx hs) hn (Sx.nil k)) k
theorem Cm.ca {f : FuncId} {xs : List X} {vs : List Value} {v : Value} (hg : gon (e.only rs) g = true) (hx : gets (e.only rs) xs = some vs) (hf : Fx P f vs L (fun v' L' => v' = v ∧ L = L')) (k : Cm P N L r (e.put d v) Kf) :
    Cm P N L (⟨i, ds, rs, ⟨d, g, .ca f xs⟩⟩ :: r) e Kf :=
  .cons v (fun e' hs => .gon hg hs fun K k => Sx.ca (gets_sub hs hx) hf fun v' L' h => by
    obtain ⟨rfl, rfl⟩ := h
    exact Sx.nil k) k
def isPk : S → Bool
  | .pk _ _ _ => true
  | _ => false
def plainP (s : S) : Bool := isPk s || plain s
theorem isPk_pv {s : S} (h : isPk s = true) {φ : Prop} {v : Value} (hp : Proofs.YtnbkjcmmjgkdaaaGreat.pv e s = some (φ, v)) : φ := by
  obtain ⟨c, a, b, rfl⟩ : ∃ c a b, s = .pk c a b := by cases s <;> first | exact ⟨_, _, _, rfl⟩ | cases h
  simp only [Proofs.YtnbkjcmmjgkdaaaGreat.pv] at hp
  repeat' split at hp
  all_goals first | (cases hp; trivial) | cases hp
theorem plainP_pv {s : S} (h : plainP s = true) {φ : Prop} {v : Value} (hp : Proofs.YtnbkjcmmjgkdaaaGreat.pv e s = some (φ, v)) : φ := by
  rcases (Bool.or_eq_true _ _).mp h with h | h
  · exact isPk_pv h hp
  · exact plain_pv h hp
/-- Plain operations at the head. -/
def stepM (x : It) (e : En) : Option Value :=
  bif gon (e.only x.rs) x.g.g then
    (bif plainP x.g.s then (match Proofs.YtnbkjcmmjgkdaaaGreat.pv (e.only x.rs) x.g.s with | some (_, v) => some v | none => none) else none)
  else (match x.g.g with | some (t, b) => (bif offs (e.only x.rs) t b then some undef else none) | none => none)
def eagM : List It → En → Option (List It × En)
  | x :: r, e => match stepM x e with
    | some v => match eagM r (e.put x.g.d v) with
      | some q => some q
      | none => some (r, e.put x.g.d v)
    | none => none
  | [], _ => none
theorem Cm.step {x : It} {v : Value} (h : stepM x e = some v) (k : Cm P N L r (e.put x.g.d v) Kf) : Cm P N L (x :: r) e Kf := by
  obtain ⟨i, ds, rs, d, g, s⟩ := x
  unfold stepM at h
  simp only at h
  cases hg : gon (e.only rs) g with
  | true =>
    rw [hg, cond_true] at h
    cases hp : plainP s with
    | false => rw [hp] at h; cases h
    | true =>
      rw [hp, cond_true] at h
      split at h
      · rename_i φ u hu
        cases h
        exact Cm.pv hg hu (plainP_pv hp hu) k
      · cases h
  | false =>
    rw [hg, cond_false] at h
    split at h
    · rename_i t b
      cases hb : offs (e.only rs) t b with
      | true => rw [hb, cond_true] at h; cases h; exact Cm.off hb k
      | false => rw [hb] at h; cases h
    · cases h
theorem Cm.pvs : ∀ {l l' : List It} {e e' : En}, eagM l e = some (l', e') → Cm P N L l' e' Kf → Cm P N L l e Kf
  | [], _, _, _, h, _ => by cases h
  | x :: r, l', e, e', h, k => by
    simp only [eagM] at h
    split at h
    · rename_i v hv
      split at h
      · rename_i q hq
        cases h
        exact Cm.step hv (Cm.pvs hq k)
      · cases h
        exact Cm.step hv k
    · cases h
end
end
end Go.Proofs.YtnbkjcmmjgkdaaaGreat
