/-
  Parts of the proof, merged: what the statement leans on.
-/
import Derived.Test.YtlpikhdiiehcaaaDoorZJdB
/-
  Regions that draw their order in which many new blocks are taken, with no order between them.
-/
set_option linter.unusedVariables false
set_option linter.unusedSimpArgs false
namespace Go.Proofs.YtlpikhdiiehcaaaDoor
open Go
section
variable {P : Program} {N : Nat} {L F : St} {Kt : En → St → Prop} {Φ : St → Prop}
theorem Rx.sub {rem : List It} {sl : List Nat} {e e' : En} {K : En → St → Prop} (hs : sub e e') (k : Rx P N rem sl Φ e K L) : Rx P N rem sl Φ e' K L := by
  intro ops all Q pend a b w0 w fuel t listed A inv ok s hP kk
  exact k ops all Q pend a b w0 w fuel t listed A inv ⟨ok.size, ok.defers, fun i v h => ok.get i v (hs i v h)⟩ s hP kk
theorem Ent.perm {l m : St} (h : l.Perm m) : Ent (l ++ L) (m ++ L) := by
  induction h with
  | nil => exact Ent.refl _
  | cons x _ ih => exact Ent.cons ih
  | swap x y l => exact Ent.swap
  | trans _ _ a b => exact Ent.trans a b
theorem nbeq {a b : Nat} (h : a ≠ b) : Nat.beq a b = false := by
  cases hb : Nat.beq a b with
  | false => rfl
  | true => exact absurd (Nat.eq_of_beq_eq_true hb) h
def tgt (x : It) : Nat := x.g.d.getD 0
def blkOf (E : TypeId) (z : List Value) (γ : Nat → Nat) (t : Nat) : As := pt (some ⟨γ t, 0, none⟩) (Blk E z)
structure Als (E : TypeId) (z : List Value) (als rest : List It) : Prop where
  shape : ∀ x ∈ als, x.g = ⟨some (tgt x), none, .al E z⟩
  dep : ∀ y ∈ rest, ∀ x ∈ als, bit y.ds x.i = true ∧ y.i ≠ x.i
  one : ∀ x ∈ als, ∀ y ∈ als, (x.i = y.i → x = y) ∧ (tgt x = tgt y → x = y)
  nd : als.Nodup
theorem Als.less {E : TypeId} {z : List Value} {als rest : List It} (h : Als E z als rest) (i : Nat) : Als E z (without als i) rest :=
  ⟨fun x hx => h.shape x (mem_without.1 hx).1, fun y hy x hx => h.dep y hy x (mem_without.1 hx).1, fun x hx y hy => h.one x (mem_without.1 hx).1 y (mem_without.1 hy).1, h.nd.sublist List.filter_sublist⟩
theorem als_perm : ∀ {als : List It} {x : It}, x ∈ als → als.Nodup → (∀ y ∈ als, y.i = x.i → y = x) → als.Perm (x :: without als x.i)
  | [], x, h, _, _ => by cases h
  | a :: l, x, h, hn, ho => by
    rw [List.nodup_cons] at hn
    by_cases ha : a = x
    · subst ha
      have e : without (a :: l) a.i = l := by
        unfold without
        rw [List.filter_cons, if_neg (by simp)]
        rw [List.filter_eq_self]
        intro y hy
        have : y.i ≠ a.i := fun e => hn.1 (by rw [← ho y (List.mem_cons_of_mem _ hy) e]; exact hy)
        rw [nbeq this]; rfl
      rw [e]
    · have hx : x ∈ l := by
        rcases List.mem_cons.1 h with h | h
        · exact absurd h.symm ha
        · exact h
      have hi : a.i ≠ x.i := fun e => ha (ho a (by simp) e)
      have e : without (a :: l) x.i = a :: without l x.i := by
        unfold without
        rw [List.filter_cons, if_pos (by rw [nbeq hi]; rfl)]
      rw [e]
      exact ((als_perm hx hn.2 fun y hy => ho y (List.mem_cons_of_mem _ hy)).cons a).trans (List.Perm.swap _ _ _)
theorem Rx.alsN {E : TypeId} {z : List Value} {rest : List It} (hΦ : ∀ L M, Ent L M → Φ M → Φ L) : ∀ (n : Nat) (als : List It) (e : En) (L : St), als.length = n → Als E z als rest → Φ L →
    (∀ (e' : En) (L' : St) (γ : Nat → Nat), (∀ x ∈ als, e'.get (tgt x) = some (.pointer (some ⟨γ (tgt x), 0, none⟩))) → (∀ t, (∀ x ∈ als, tgt x ≠ t) → e'.get t = e.get t) → Ent L' (als.map (fun x => blkOf E z γ (tgt x)) ++ L) → Φ L' → Rx P N rest [] Φ e' Kt L') →
    Rx P N (als ++ rest) [] Φ e Kt L
  | 0, als, e, L, hn, hA, hL, k => by
    have := List.eq_nil_of_length_eq_zero hn
    subst this
    exact k e L (fun _ => 0) (fun x hx => by cases hx) (fun t _ => rfl) (Ent.refl _) hL
  | n + 1, als, e, L, hn, hA, hL, k => by
    have hne : als ≠ [] := fun h => by rw [h] at hn; cases hn
    refine Rx.all (fun h0 => absurd (List.append_eq_nil_iff.1 h0).1 hne) fun x hx => ⟨by simp, ?_⟩
    have hxA : x ∈ als := by
      have h1 : x ∈ als ++ rest ∧ ready x (als ++ rest) = true := by simpa only [readies, List.mem_filter] using hx
      rcases List.mem_append.1 h1.1 with h | h
      · exact h
      · obtain ⟨y, hy⟩ := List.exists_mem_of_ne_nil als hne
        have h3 := (hA.dep x h y hy).1
        have h4 := List.all_eq_true.1 h1.2 y (by simp [hy])
        rw [h3] at h4; cases h4
    have hw : without (als ++ rest) x.i = without als x.i ++ rest := without_app als rest x.i fun y hy => (hA.dep y hy x hxA).2
    rw [hw, hA.shape x hxA]
    refine Sx.al fun g => Sx.nil ⟨hΦ _ _ Ent.drop hL, ?_⟩
    have hp := als_perm hxA hA.nd fun y hy e => ((hA.one y hy x hxA).1 e)
    refine Rx.alsN hΦ n (without als x.i) _ _ (by have := hp.length_eq; rw [List.length_cons] at this; omega) (hA.less x.i) (hΦ _ _ Ent.drop hL) fun e' L' γ h1 h2 h3 h4 => ?_
    have hdiff : ∀ y ∈ without als x.i, tgt y ≠ tgt x := fun y hy e => (mem_without.1 hy).2 (by rw [(hA.one y (mem_without.1 hy).1 x hxA).2 e])
    have hγ : ∀ y ∈ without als x.i, (fun t => if t = tgt x then g else γ t) (tgt y) = γ (tgt y) := fun y hy => by show (if tgt y = tgt x then g else γ (tgt y)) = _; rw [if_neg (hdiff y hy)]
    refine k e' L' (fun t => if t = tgt x then g else γ t) (fun y hy => ?_) (fun t ht => ?_) ?_ h4
    · show e'.get (tgt y) = some (.pointer (some ⟨if tgt y = tgt x then g else γ (tgt y), 0, none⟩))
      by_cases hyx : tgt y = tgt x
      · rw [hyx, if_pos rfl, h2 (tgt x) fun z hz => hdiff z hz]
        exact put_eq
      · have hyw : y ∈ without als x.i := mem_without.2 ⟨hy, fun e => hyx (by rw [(hA.one y hy x hxA).1 e])⟩
        rw [if_neg hyx]
        exact h1 y hyw
    · rw [h2 t fun z hz => ht z (mem_without.1 hz).1, put_ne (fun h => ht x hxA (Option.some.inj h))]
    · refine Ent.trans h3 (Ent.trans ?_ (Ent.perm (hp.map fun y => blkOf E z (fun t => if t = tgt x then g else γ t) (tgt y)).symm))
      rw [List.map_cons]
      have hm : (without als x.i).map (fun y => blkOf E z (fun t => if t = tgt x then g else γ t) (tgt y)) = (without als x.i).map fun y => blkOf E z γ (tgt y) := by
        refine List.map_congr_left fun y hy => ?_
        show pt (some ⟨if tgt y = tgt x then g else γ (tgt y), 0, none⟩) (Blk E z) = _
        rw [show (if tgt y = tgt x then g else γ (tgt y)) = γ (tgt y) from hγ y hy]
        rfl
      rw [hm]
      have hb : blkOf E z (fun t => if t = tgt x then g else γ t) (tgt x) = pt (some ⟨g, 0, none⟩) (Blk E z) := by unfold blkOf; simp only [if_true]
      rw [hb]
      have : ∀ (l : St) (p : As), Ent (l ++ p :: L) (p :: l ++ L) := fun l p => by
        have := Ent.perm (L := L) (List.perm_append_singleton p l)
        simpa using this
      exact this _ _
/-- What is known behind so many new blocks. -/
def putsG (γ : Nat → Nat) : List Nat → En → En
  | [], e => e
  | t :: ts, e => (putsG γ ts e).put (some t) (.pointer (some ⟨γ t, 0, none⟩))
theorem putsG_get (γ : Nat → Nat) : ∀ (ts : List Nat) (e : En) (t : Nat) (u : Value), (putsG γ ts e).get t = some u → (t ∈ ts ∧ u = .pointer (some ⟨γ t, 0, none⟩)) ∨ (t ∉ ts ∧ e.get t = some u)
  | [], e, t, u, h => .inr ⟨by simp, h⟩
  | s :: ts, e, t, u, h => by
    unfold putsG at h
    by_cases hs : s = t
    · subst hs
      rw [put_eq] at h; cases h
      exact .inl ⟨by simp, rfl⟩
    · rw [put_ne (fun e => hs (Option.some.inj e))] at h
      rcases putsG_get γ ts e t u h with ⟨h1, h2⟩ | ⟨h1, h2⟩
      · exact .inl ⟨List.mem_cons_of_mem _ h1, h2⟩
      · exact .inr ⟨fun hm => (List.mem_cons.1 hm).elim (fun e => hs e.symm) h1, h2⟩
def alsB (als rest : List It) : Bool :=
  rest.all (fun y => als.all fun x => bit y.ds x.i && !(Nat.beq y.i x.i))
def difB : List It → Bool
  | [] => true
  | x :: l => l.all (fun y => !(Nat.beq y.i x.i) && !(Nat.beq (tgt y) (tgt x))) && difB l
theorem difB_one : ∀ {l : List It}, difB l = true → (∀ x ∈ l, ∀ y ∈ l, (x.i = y.i → x = y) ∧ (tgt x = tgt y → x = y)) ∧ l.Nodup
  | [], _ => ⟨fun x hx => (by cases hx), List.nodup_nil⟩
  | a :: l, h => by
    simp only [difB, Bool.and_eq_true, List.all_eq_true, Bool.not_eq_true'] at h
    obtain ⟨ih, hn⟩ := difB_one h.2
    have hne : ∀ y ∈ l, y.i ≠ a.i ∧ tgt y ≠ tgt a := fun y hy => ⟨fun e => by have := (h.1 y hy).1; rw [e] at this; simp at this, fun e => by have := (h.1 y hy).2; rw [e] at this; simp at this⟩
    refine ⟨fun x hx y hy => ?_, List.nodup_cons.2 ⟨fun ha => (hne a ha).1 rfl, hn⟩⟩
    rcases List.mem_cons.1 hx with hxa | hx' <;> rcases List.mem_cons.1 hy with hya | hy'
    · rw [hxa, hya]; exact ⟨fun _ => rfl, fun _ => rfl⟩
    · rw [hxa]; exact ⟨fun e => absurd e.symm (hne y hy').1, fun e => absurd e.symm (hne y hy').2⟩
    · rw [hya]; exact ⟨fun e => absurd e (hne x hx').1, fun e => absurd e (hne x hx').2⟩
    · exact ih x hx' y hy'
/-- Many new blocks, with no order between them. -/
theorem Rx.als {E : TypeId} {z : List Value} {rem als rest : List It} {ts : List Nat} {e : En} (hs : rem = als ++ rest) (hsh : als.map (·.g) = ts.map fun t => ⟨some t, none, .al E z⟩) (hb : alsB als rest = true) (hd : difB als = true)
    (hΦ : ∀ L M, Ent L M → Φ M → Φ L) (hL : Φ L)
    (k : ∀ γ : Nat → Nat, Rx P N rest [] Φ (putsG γ ts e) Kt (ts.map (blkOf E z γ) ++ L)) : Rx P N rem [] Φ e Kt L := by
  subst hs
  have htg : als.map tgt = ts := by
    have : als.map tgt = (als.map (·.g)).map fun g => g.d.getD 0 := by rw [List.map_map]; rfl
    rw [this, hsh, List.map_map]
    conv => rhs; rw [← List.map_id ts]
    exact List.map_congr_left fun _ _ => rfl
  obtain ⟨h1, h2⟩ := difB_one hd
  have hA : Als E z als rest := by
    refine ⟨fun x hx => ?_, fun y hy x hx => ?_, h1, h2⟩
    · have : x.g ∈ als.map (·.g) := List.mem_map_of_mem hx
      rw [hsh] at this
      obtain ⟨t, _, ht⟩ := List.mem_map.1 this
      have e1 : tgt x = t := by unfold tgt; rw [← ht]; rfl
      rw [e1]; exact ht.symm
    · have := List.all_eq_true.1 (List.all_eq_true.1 hb y hy) x hx
      simp only [Bool.and_eq_true, Bool.not_eq_true'] at this
      exact ⟨this.1, fun e => by have h := this.2; rw [e] at h; simp at h⟩
  refine Rx.alsN hΦ als.length als e L rfl hA hL fun e' L' γ g1 g2 g3 g4 => ?_
  have hbl : als.map (fun x => blkOf E z γ (tgt x)) = ts.map (blkOf E z γ) := by rw [← htg, List.map_map]; rfl
  rw [hbl] at g3
  refine Rx.sub (e := putsG γ ts e) (fun t u ht => ?_) (Rx.ent g3 (fun _ => ?_) rfl (k γ))
  · rcases putsG_get γ ts e t u ht with ⟨hm, rfl⟩ | ⟨hm, hu⟩
    · rw [← htg] at hm
      obtain ⟨x, hx, rfl⟩ := List.mem_map.1 hm
      exact g1 x hx
    · rw [g2 t (fun x hx e => hm (by rw [← htg, ← e]; exact List.mem_map_of_mem hx))]
      exact hu
  · have : ∀ l : St, Ent (l ++ L) L := fun l => by
      induction l with
      | nil => exact Ent.refl _
      | cons a l ih => exact Ent.trans Ent.drop ih
    exact hΦ _ _ (this _) hL
def blksG (E : TypeId) (z : List Value) (γ : Nat → Nat) : List Nat → St → St
  | [], L => L
  | t :: ts, L => pt (some ⟨γ t, 0, none⟩) (Blk E z) :: blksG E z γ ts L
theorem blksG_eq (E : TypeId) (z : List Value) (γ : Nat → Nat) : ∀ (ts : List Nat) (L : St), ts.map (blkOf E z γ) ++ L = blksG E z γ ts L
  | [], L => rfl
  | t :: ts, L => by
    rw [List.map_cons, List.cons_append, blksG_eq E z γ ts L]
    rfl
theorem Rx.alsAt {E : TypeId} {z : List Value} {rem : List It} {e : En} (n : Nat) (ts : List Nat) (hsh : (rem.take n).map (·.g) = ts.map fun t => ⟨some t, none, .al E z⟩) (hb : alsB (rem.take n) (rem.drop n) = true) (hd : difB (rem.take n) = true)
    (hΦ : ∀ L M, Ent L M → Φ M → Φ L) (hL : Φ L)
    (k : ∀ γ : Nat → Nat, Rx P N (rem.drop n) [] Φ (putsG γ ts e) Kt (blksG E z γ ts L)) : Rx P N rem [] Φ e Kt L :=
  Rx.als (List.take_append_drop n rem).symm hsh hb hd hΦ hL fun γ => by rw [blksG_eq]; exact k γ
end
end Go.Proofs.YtlpikhdiiehcaaaDoor

/-
  The laws of layer 18: OpEdges.
-/
set_option linter.unusedVariables false
set_option linter.unusedSimpArgs false
namespace Go.Proofs.YtlpikhdiiehcaaaDoor
open Go Go.RowKit
attribute [local irreducible] Sx Cx Rx Fx Krg Ksq Kbl Klp Kr
def edge (k : Int) : Int := if k = 1 then 3 else if (formK k).n then 65535 else 0
theorem edge_in (k : Int) : 0 ≤ edge k ∧ edge k ≤ 65535 := by unfold edge; (repeat' split) <;> omega
theorem edge_n {k : Int} (h : 1 ≤ k ∧ k ≤ 12) (h1 : k ≠ 1) : (formK k).n = decide (k = 2 ∨ (6 ≤ k ∧ k ≤ 9)) := by
  rcases kinds_12 h with rfl | rfl | rfl | rfl | rfl | rfl | rfl | rfl | rfl | rfl | rfl | rfl <;> first | exact absurd rfl h1 | decide
theorem edge_v {k : Int} (h : 1 ≤ k ∧ k ≤ 12) : (formK k).v = decide (7 ≤ k ∧ k ≤ 9) := by
  rcases kinds_12 h with rfl | rfl | rfl | rfl | rfl | rfl | rfl | rfl | rfl | rfl | rfl | rfl <;> decide
theorem may_no {o : Opn} (h : ¬ MayS o) : mayO o = false := by
  cases e : mayO o with
  | false => rfl
  | true => exact absurd (mayS e) h
theorem mostF_in (o : Opn) : 0 ≤ mostF o := by unfold mostF; split <;> omega
theorem mostA_in (o : Opn) : 0 ≤ mostA o := by unfold mostA; split <;> omega
section
variable {k d : Int} (hk : 1 ≤ k ∧ k ≤ 12) (hd : 1 ≤ d ∧ d ≤ 1000)
include hk
theorem ed_o : mayO ⟨k, 0, 0, 0, 0, 0⟩ = true :=
  MayS.may ⟨hk, ⟨by simp, mostF_in _⟩, ⟨by simp, mostA_in _⟩, ⟨by simp, (edge_in k).1⟩, fun _ => rfl, fun _ => rfl⟩
theorem ed_a : mayO ⟨k, 0, 0, edge k, 0, 0⟩ = true :=
  MayS.may ⟨hk, ⟨by simp, mostF_in _⟩, ⟨by simp, mostA_in _⟩, ⟨(edge_in k).1, Int.le_refl _⟩, fun _ => rfl, fun _ => rfl⟩
theorem ed_g : mayO ⟨k, 63, 999, 0, 0, 0⟩ = !decide ((formK k).of_ = 0) := by
  by_cases h : (formK k).of_ = 0
  · rw [decide_eq_true h]
    refine may_no fun m => ?_
    have := m.f.2
    have : mostF ⟨k, 63, 999, 0, 0, 0⟩ = 0 := by unfold mostF; rw [if_neg (by simpa using h)]
    have h3 : (63 : Int) ≤ 0 := by rw [← this]; exact m.f.2
    omega
  · rw [decide_eq_false h]
    have e1 : mostF ⟨k, 63, 999, 0, 0, 0⟩ = 63 := by unfold mostF; rw [if_pos h]
    have e2 : mostA ⟨k, 63, 999, 0, 0, 0⟩ = 999 := by unfold mostA; rw [if_pos h]
    exact MayS.may ⟨hk, ⟨by simp, by rw [e1]; simp⟩, ⟨by simp, by rw [e2]; simp⟩, ⟨by simp, (edge_in k).1⟩, fun _ => rfl, fun _ => rfl⟩
include hd
omit hk in
theorem ed_b : mayO ⟨k, 0, 0, edge k + d, 0, 0⟩ = false := may_no fun m => by
  have : edge k + d ≤ edge k := m.n.2
  omega
omit hk in
theorem ed_c : mayO ⟨k, 0, 0, -d, 0, 0⟩ = false := may_no fun m => by
  have : 0 ≤ -d := m.n.1
  omega
omit hk in
theorem ed_f : mayO ⟨k, 63 + d, 0, 0, 0, 0⟩ = false := may_no fun m => by
  have h1 : 63 + d ≤ mostF ⟨k, 63 + d, 0, 0, 0, 0⟩ := m.f.2
  have := mostF_le ⟨k, 63 + d, 0, 0, 0, 0⟩
  omega
omit hk in
theorem ed_h : mayO ⟨k, 0, 999 + d, 0, 0, 0⟩ = false := may_no fun m => by
  have h1 : 999 + d ≤ mostA ⟨k, 0, 999 + d, 0, 0, 0⟩ := m.a.2
  have := mostA_le ⟨k, 0, 999 + d, 0, 0, 0⟩
  omega
theorem ed_v : mayO ⟨k, 0, 0, 0, d.toNat, 0⟩ = decide (7 ≤ k ∧ k ≤ 9) := by
  have e := edge_v hk
  cases h : (formK k).v with
  | false =>
    rw [← e, h]
    refine may_no fun m => ?_
    have h1 : d.toNat = 0 := m.v h
    omega
  | true =>
    rw [← e, h]
    exact MayS.may ⟨hk, ⟨by simp, mostF_in _⟩, ⟨by simp, mostA_in _⟩, ⟨by simp, (edge_in k).1⟩, fun h' => (by have : (formK k).v = false := h'; rw [h] at this; cases this), fun _ => rfl⟩
theorem ed_w : mayO ⟨k, 0, 0, 0, 0, d.toNat⟩ = decide (k = 9) := by
  have e := w_nine k
  cases h : (formK k).w with
  | false =>
    rw [← e, h]
    refine may_no fun m => ?_
    have h1 : d.toNat = 0 := m.w h
    omega
  | true =>
    rw [← e, h]
    exact MayS.may ⟨hk, ⟨by simp, mostF_in _⟩, ⟨by simp, mostA_in _⟩, ⟨by simp, (edge_in k).1⟩, fun _ => rfl, fun h' => (by have : (formK k).w = false := h'; rw [h] at this; cases this)⟩
omit hk in
theorem ed_up : mayO ⟨12 + d, 0, 0, 0, 0, 0⟩ = false := may_no fun m => by
  have : 12 + d ≤ 12 := m.k.2
  omega
omit hk in
theorem ed_down : mayO ⟨1 - d, 0, 0, 0, 0, 0⟩ = false := may_no fun m => by
  have : 1 ≤ 1 - d := m.k.1
  omega
omit hk in
theorem fm_up : formK (12 + d) = ⟨[], 0, false, false, false⟩ := formK_out (by omega)
omit hk in
theorem fm_down : formK (1 - d) = ⟨[], 0, false, false, false⟩ := formK_out (by omega)
end
section
variable {L F G : St} {w : World}
theorem Has.blkAll {b : Nat} {T : TypeId} {cs : List Value} [t : Take L (some ⟨b, 0, none⟩) (Blk T cs) F] : Has L b 0 cs := by
  refine Has.eqv (Has.blk (t := t) (n := cs.length) (off := 0)) ?_
  rw [List.drop_zero, List.take_length]
set_option maxHeartbeats 4000000 in
theorem opEdges (l : LibOk w) (hL : Ent L [Old w]) (kind by_ : Int) :
    Fx Tryd.prog 7 [.int .i64 kind, .int .i64 by_] L (fun v L' => v = .bool true ∧ L = L') := by
  have hmx : maxLen = 9223372036854775807 := rfl
  refine Fx.mk Tryd.func7 k7 (Nat.le_of_ble_eq_true rfl) ?_
  dsimp only [c7, envOf, Nat.reduceAdd]
  refine go ?_
  refine Sx.ca rfl (opFirst (w := w) l (Ent.trans (M := L) ent hL)) ?_
  rintro v L' ⟨rfl, rfl⟩
  refine go ?_
  refine Sx.ca (vs := [.int .i64 kind, .int .i64 12]) rfl (number kind 12 (by omega) (by omega)) ?_
  rintro v L' ⟨rfl, rfl⟩
  refine go ?_
  rw [w64 (n := 1 + kind % 12) (by omega) (by omega)]
  have hk : 1 ≤ 1 + kind % 12 ∧ 1 + kind % 12 ≤ 12 := by omega
  generalize 1 + kind % 12 = k at hk
  refine go ?_
  refine Sx.ca (vs := [.int .i64 by_, .int .i64 1000]) rfl (number by_ 1000 (by omega) (by omega)) ?_
  rintro v L' ⟨rfl, rfl⟩
  refine go ?_
  rw [w64 (n := 1 + by_ % 1000) (by omega) (by omega)]
  have hd : 1 ≤ 1 + by_ % 1000 ∧ 1 + by_ % 1000 ≤ 1000 := by omega
  generalize 1 + by_ % 1000 = d' at hd
  obtain ⟨d, rfl⟩ : ∃ d : Nat, d' = d := ⟨d'.toNat, by omega⟩
  refine go ?_
  refine Sx.al fun g8 => ?_
  refine Sx.st (b := g8) (vs := (⟨k, 0, 0, 0, 0, 0⟩ : Opn).l) rfl rfl rfl rfl rfl rfl ?_
  refine Sx.reb (⟨k, 0, 0, 0, 0, 0⟩ : Opn).l rfl ?_
  refine Sx.nil ?_
  refine Krg.i ?_
  refine Ksq.nm ?_
  refine Cx.sq ?_
  refine Cx.rg ?_
  refine Sx.pv rfl trivial ?_
  refine Sx.nil ?_
  refine Krg.i ?_
  refine Ksq.nm ?_
  refine Cx.sq ?_
  refine Cx.jn (β := Unit) (fun _ => [(5, .bool true), (6, .int .i64 k), (7, .int .i64 (d : Nat)), (8, .pointer (some ⟨g8, 0, none⟩)), (9, .int .i64 (edge k))]) (fun _ => pt (some ⟨g8, 0, none⟩) (Blk 24 (⟨k, 0, 0, 0, 0, 0⟩ : Opn).l) :: L) ?_ ?_
  · refine go ?_
    by_cases h1 : k = 1
    · refine Cx.cyes rfl (decide_eq_true h1) ?_
      have e1 : edge k = 3 := by unfold edge; rw [if_pos h1]
      refine go ?_
      exact Kjn.nm () (sub.cons rfl (sub.cons rfl (sub.cons rfl (sub.cons rfl (sub.cons (by rw [e1]; rfl) sub.nil))))) (Ent.refl _)
    · refine Cx.cno rfl (decide_eq_false h1) ?_
      have e0 := edge_n hk h1
      have e1 : edge k = if k = 2 ∨ (6 ≤ k ∧ k ≤ 9) then 65535 else 0 := by unfold edge; rw [if_neg h1, e0]; by_cases h : k = 2 ∨ (6 ≤ k ∧ k ≤ 9) <;> simp [h]
      refine go ?_
      by_cases h2 : k = 2
      · refine Sx.gno rfl (decide_eq_true h2) ?_
        refine go ?_
        exact Kjn.nm () (sub.cons rfl (sub.cons rfl (sub.cons rfl (sub.cons rfl (sub.cons (by rw [e1, if_pos (.inl h2)]; rfl) sub.nil))))) (Ent.refl _)
      · refine Sx.gyes rfl (decide_eq_false h2) ?_
        refine go ?_
        by_cases h6 : 6 ≤ k
        · refine Sx.gyes rfl (decide_eq_true h6) ?_
          refine go ?_
          by_cases h9 : k ≤ 9
          · refine Cx.cyes rfl (decide_eq_true h9) ?_
            refine go ?_
            exact Kjn.nm () (sub.cons rfl (sub.cons rfl (sub.cons rfl (sub.cons rfl (sub.cons (by rw [e1, if_pos (.inr ⟨h6, h9⟩)]; rfl) sub.nil))))) (Ent.refl _)
          · refine Cx.cno rfl (decide_eq_false h9) ?_
            refine go ?_
            exact Kjn.nm () (sub.cons rfl (sub.cons rfl (sub.cons rfl (sub.cons rfl (sub.cons (by rw [e1, if_neg (by omega)]; rfl) sub.nil))))) (Ent.refl _)
        · refine Sx.gno rfl (decide_eq_false h6) ?_
          refine go ?_
          exact Kjn.nm () (sub.cons rfl (sub.cons rfl (sub.cons rfl (sub.cons rfl (sub.cons (by rw [e1, if_neg (by omega)]; rfl) sub.nil))))) (Ent.refl _)
  rintro -
  have hm := edge_in k
  have m1 := ed_o hk
  have m2 := ed_a hk
  have m3 := ed_b (k := k) hd
  have m4 := ed_c (k := k) hd
  have m5 := ed_f (k := k) hd
  have m6 := ed_h (k := k) hd
  have m7 := ed_v hk hd
  have m8 := ed_w hk hd
  rw [Int.toNat_natCast] at m7 m8
  have m9 := ed_g hk
  have m10 := ed_up hd
  have m11 := ed_down hd
  have m12 := fm_up hd
  have m13 := fm_down hd
  generalize edge k = m at hm m2 m3
  refine go ?_
  have tr : ∀ {a b : St}, Ent a b → Has b g8 0 (⟨k, 0, 0, 0, 0, 0⟩ : Opn).l → Has a g8 0 (⟨k, 0, 0, 0, 0, 0⟩ : Opn).l := fun e h => h.ent e
  refine Cx.rd ?_
  iterate 6 (refine Rx.ldK (vs := (⟨k, 0, 0, 0, 0, 0⟩ : Opn).l) 0 rfl rfl rfl Has.blkAll rfl rfl rfl ?_)
  refine Rx.alsAt 6 [10, 11, 12, 13, 14, 15] rfl rfl rfl (fun a b e h => ⟨⟨⟨⟨⟨⟨trivial, tr e h.1.1.1.1.1.2⟩, tr e h.1.1.1.1.2⟩, tr e h.1.1.1.2⟩, tr e h.1.1.2⟩, tr e h.1.2⟩, tr e h.2⟩) ⟨⟨⟨⟨⟨⟨trivial, Has.blkAll⟩, Has.blkAll⟩, Has.blkAll⟩, Has.blkAll⟩, Has.blkAll⟩, Has.blkAll⟩ ?_
  intro γ
  dsimp only [putsG, blksG]
  generalize γ 10 = p0
  generalize γ 11 = p1
  generalize γ 12 = p2
  generalize γ 13 = p3
  generalize γ 14 = p4
  generalize γ 15 = p5
  refine Rx.one rfl rfl rfl ?_
  refine Sx.st (b := p0) (vs := (⟨k, 0, 0, 0, 0, 0⟩ : Opn).l) rfl rfl rfl rfl rfl rfl ?_
  refine Sx.reb (⟨k, 0, 0, 0, 0, 0⟩ : Opn).l rfl ?_
  refine Sx.nil ⟨⟨⟨⟨⟨⟨⟨trivial, Has.blkAll⟩, Has.blkAll⟩, Has.blkAll⟩, Has.blkAll⟩, Has.blkAll⟩, Has.blkAll⟩, ?_⟩
  refine Rx.one rfl rfl rfl ?_
  refine Sx.st (b := p1) (vs := (⟨k, 0, 0, 0, 0, 0⟩ : Opn).l) rfl rfl rfl rfl rfl rfl ?_
  refine Sx.reb (⟨k, 0, 0, 0, 0, 0⟩ : Opn).l rfl ?_
  refine Sx.nil ⟨⟨⟨⟨⟨⟨⟨trivial, Has.blkAll⟩, Has.blkAll⟩, Has.blkAll⟩, Has.blkAll⟩, Has.blkAll⟩, Has.blkAll⟩, ?_⟩
  refine Rx.one rfl rfl rfl ?_
  refine Sx.st (b := p2) (vs := (⟨k, 0, 0, 0, 0, 0⟩ : Opn).l) rfl rfl rfl rfl rfl rfl ?_
  refine Sx.reb (⟨k, 0, 0, 0, 0, 0⟩ : Opn).l rfl ?_
  refine Sx.nil ⟨⟨⟨⟨⟨⟨⟨trivial, Has.blkAll⟩, Has.blkAll⟩, Has.blkAll⟩, Has.blkAll⟩, Has.blkAll⟩, Has.blkAll⟩, ?_⟩
  refine Rx.one rfl rfl rfl ?_
  refine Sx.st (b := p3) (vs := (⟨k, 0, 0, 0, 0, 0⟩ : Opn).l) rfl rfl rfl rfl rfl rfl ?_
  refine Sx.reb (⟨k, 0, 0, 0, 0, 0⟩ : Opn).l rfl ?_
  refine Sx.nil ⟨⟨⟨⟨⟨⟨⟨trivial, Has.blkAll⟩, Has.blkAll⟩, Has.blkAll⟩, Has.blkAll⟩, Has.blkAll⟩, Has.blkAll⟩, ?_⟩
  refine Rx.one rfl rfl rfl ?_
  refine Sx.st (b := p4) (vs := (⟨k, 0, 0, 0, 0, 0⟩ : Opn).l) rfl rfl rfl rfl rfl rfl ?_
  refine Sx.reb (⟨k, 0, 0, 0, 0, 0⟩ : Opn).l rfl ?_
  refine Sx.nil ⟨⟨⟨⟨⟨⟨⟨trivial, Has.blkAll⟩, Has.blkAll⟩, Has.blkAll⟩, Has.blkAll⟩, Has.blkAll⟩, Has.blkAll⟩, ?_⟩
  refine Rx.one rfl rfl rfl ?_
  refine Sx.st (b := p5) (vs := (⟨k, 0, 0, 0, 0, 0⟩ : Opn).l) rfl rfl rfl rfl rfl rfl ?_
  refine Sx.reb (⟨k, 0, 0, 0, 0, 0⟩ : Opn).l rfl ?_
  refine Sx.nil ⟨⟨⟨⟨⟨⟨⟨trivial, Has.blkAll⟩, Has.blkAll⟩, Has.blkAll⟩, Has.blkAll⟩, Has.blkAll⟩, Has.blkAll⟩, ?_⟩
  refine Rx.nil ?_
  refine Krg.i ?_
  refine Ksq.nm ?_
  refine go ?_
  rw [w64 (n := m + (d : Nat)) (by omega) (by omega), w64 (n := 0 - ((d : Nat) : Int)) (by omega) (by omega), w64 (n := 63 + ((d : Nat) : Int)) (by omega) (by omega), wu64 (n := ((d : Nat) : Int)) (by omega) (by omega), show (0 : Int) - (d : Nat) = -(d : Nat) by omega]
  refine Cx.rd ?_
  iterate 2 (refine Rx.ldK (vs := (⟨k, 0, 0, 0, 0, 0⟩ : Opn).l) 0 rfl rfl rfl Has.blkAll rfl rfl rfl ?_)
  refine Rx.alsAt 2 [16, 17] rfl rfl rfl (fun a b e h => ⟨⟨trivial, tr e h.1.2⟩, tr e h.2⟩) ⟨⟨trivial, Has.blkAll⟩, Has.blkAll⟩ ?_
  intro γ2
  dsimp only [putsG, blksG]
  generalize γ2 16 = p6
  generalize γ2 17 = p7
  refine Rx.one rfl rfl rfl ?_
  refine Sx.st (b := p6) (vs := (⟨k, 0, 0, 0, 0, 0⟩ : Opn).l) rfl rfl rfl rfl rfl rfl ?_
  refine Sx.reb (⟨k, 0, 0, 0, 0, 0⟩ : Opn).l rfl ?_
  refine Sx.nil ⟨⟨⟨trivial, Has.blkAll⟩, Has.blkAll⟩, ?_⟩
  refine Rx.one rfl rfl rfl ?_
  refine Sx.st (b := p7) (vs := (⟨k, 0, 0, 0, 0, 0⟩ : Opn).l) rfl rfl rfl rfl rfl rfl ?_
  refine Sx.reb (⟨k, 0, 0, 0, 0, 0⟩ : Opn).l rfl ?_
  refine Sx.nil ⟨⟨⟨trivial, Has.blkAll⟩, Has.blkAll⟩, ?_⟩
  refine Rx.nil ?_
  refine Krg.i ?_
  refine Ksq.nm ?_
  refine go ?_
  rw [w64 (n := 999 + ((d : Nat) : Int)) (by omega) (by omega)]
  refine Sx.ca (vs := [.int .i64 k]) rfl (opOf k) ?_
  rintro v L' ⟨rfl, rfl⟩
  refine go ?_
  refine Sx.ca (vs := [.agg (⟨k, 0, 0, 0, 0, 0⟩ : Opn).l.toArray]) rfl (opMay ⟨k, 0, 0, 0, 0, 0⟩) ?_
  rintro v L' ⟨rfl, rfl⟩
  rw [m1]
  refine go ?_
  refine Sx.ca (vs := [.agg (⟨k, 0, 0, m, 0, 0⟩ : Opn).l.toArray]) rfl (opMay ⟨k, 0, 0, m, 0, 0⟩) ?_
  rintro v L' ⟨rfl, rfl⟩
  rw [m2]
  refine go ?_
  refine Sx.ca (vs := [.agg (⟨k, 0, 0, m + (d : Nat), 0, 0⟩ : Opn).l.toArray]) rfl (opMay ⟨k, 0, 0, m + (d : Nat), 0, 0⟩) ?_
  rintro v L' ⟨rfl, rfl⟩
  rw [m3]
  refine go ?_
  refine Sx.ca (vs := [.agg (⟨k, 0, 0, -(d : Nat), 0, 0⟩ : Opn).l.toArray]) rfl (opMay ⟨k, 0, 0, -(d : Nat), 0, 0⟩) ?_
  rintro v L' ⟨rfl, rfl⟩
  rw [m4]
  refine go ?_
  refine Sx.ca (vs := [.agg (⟨k, 63 + (d : Nat), 0, 0, 0, 0⟩ : Opn).l.toArray]) rfl (opMay ⟨k, 63 + (d : Nat), 0, 0, 0, 0⟩) ?_
  rintro v L' ⟨rfl, rfl⟩
  rw [m5]
  refine go ?_
  refine Sx.ca (vs := [.agg (⟨k, 0, 0, 0, d, 0⟩ : Opn).l.toArray]) rfl (opMay ⟨k, 0, 0, 0, d, 0⟩) ?_
  rintro v L' ⟨rfl, rfl⟩
  rw [m7]
  refine go ?_
  by_cases h7 : 7 ≤ k
  · refine Sx.gyes rfl (decide_eq_true h7) ?_
    refine go ?_
    refine Sx.gyes rfl (by simp [h7]) ?_
    refine go ?_
    refine Sx.ca (vs := [.agg (⟨k, 0, 0, 0, 0, d⟩ : Opn).l.toArray]) rfl (opMay ⟨k, 0, 0, 0, 0, d⟩) ?_
    rintro v L' ⟨rfl, rfl⟩
    rw [m8]
    refine go ?_
    refine Sx.gyes rfl (by simp) ?_
    refine go ?_
    refine Sx.ca (vs := [.agg (⟨k, 63, 999, 0, 0, 0⟩ : Opn).l.toArray]) rfl (opMay ⟨k, 63, 999, 0, 0, 0⟩) ?_
    rintro v L' ⟨rfl, rfl⟩
    rw [m9]
    refine go ?_
    refine Sx.gyes rfl (by simp) ?_
    refine go ?_
    refine Sx.ca (vs := [.agg (⟨k, 0, 999 + (d : Nat), 0, 0, 0⟩ : Opn).l.toArray]) rfl (opMay ⟨k, 0, 999 + (d : Nat), 0, 0, 0⟩) ?_
    rintro v L' ⟨rfl, rfl⟩
    rw [m6]
    refine go ?_
    rw [w64 (n := 12 + ((d : Nat) : Int)) (by omega) (by omega)]
    refine Sx.ca (vs := [.agg (⟨12 + (d : Nat), 0, 0, 0, 0, 0⟩ : Opn).l.toArray]) rfl (opMay ⟨12 + (d : Nat), 0, 0, 0, 0, 0⟩) ?_
    rintro v L' ⟨rfl, rfl⟩
    rw [m10]
    refine go ?_
    rw [w64 (n := 1 - ((d : Nat) : Int)) (by omega) (by omega)]
    refine Sx.ca (vs := [.agg (⟨1 - (d : Nat), 0, 0, 0, 0, 0⟩ : Opn).l.toArray]) rfl (opMay ⟨1 - (d : Nat), 0, 0, 0, 0, 0⟩) ?_
    rintro v L' ⟨rfl, rfl⟩
    rw [m11]
    refine go ?_
    rw [w64 (n := 12 + ((d : Nat) : Int)) (by omega) (by omega)]
    refine Sx.ca (vs := [.int .i64 (12 + (d : Nat))]) rfl (opName (12 + (d : Nat))) ?_
    rintro v L' ⟨rfl, rfl⟩
    rw [m12]
    refine go ?_
    rw [w64 (n := 1 - ((d : Nat) : Int)) (by omega) (by omega)]
    refine Sx.ca (vs := [.int .i64 (1 - (d : Nat))]) rfl (opName (1 - (d : Nat))) ?_
    rintro v L' ⟨rfl, rfl⟩
    rw [m13]
    refine go ?_
    rw [w64 (n := 12 + ((d : Nat) : Int)) (by omega) (by omega)]
    refine Sx.ca (vs := [.int .i64 (12 + (d : Nat))]) rfl (opOf (12 + (d : Nat))) ?_
    rintro v L' ⟨rfl, rfl⟩
    rw [m12]
    refine go ?_
    exact Kr.one (.inr rfl) rfl (L' := L) ent ⟨rfl, rfl⟩
  · refine Sx.gno rfl (decide_eq_false h7) ?_
    refine go ?_
    refine Sx.gyes rfl (by simp [h7]) ?_
    refine go ?_
    refine Sx.ca (vs := [.agg (⟨k, 0, 0, 0, 0, d⟩ : Opn).l.toArray]) rfl (opMay ⟨k, 0, 0, 0, 0, d⟩) ?_
    rintro v L' ⟨rfl, rfl⟩
    rw [m8]
    refine go ?_
    refine Sx.gyes rfl (by simp) ?_
    refine go ?_
    refine Sx.ca (vs := [.agg (⟨k, 63, 999, 0, 0, 0⟩ : Opn).l.toArray]) rfl (opMay ⟨k, 63, 999, 0, 0, 0⟩) ?_
    rintro v L' ⟨rfl, rfl⟩
    rw [m9]
    refine go ?_
    refine Sx.gyes rfl (by simp) ?_
    refine go ?_
    refine Sx.ca (vs := [.agg (⟨k, 0, 999 + (d : Nat), 0, 0, 0⟩ : Opn).l.toArray]) rfl (opMay ⟨k, 0, 999 + (d : Nat), 0, 0, 0⟩) ?_
    rintro v L' ⟨rfl, rfl⟩
    rw [m6]
    refine go ?_
    rw [w64 (n := 12 + ((d : Nat) : Int)) (by omega) (by omega)]
    refine Sx.ca (vs := [.agg (⟨12 + (d : Nat), 0, 0, 0, 0, 0⟩ : Opn).l.toArray]) rfl (opMay ⟨12 + (d : Nat), 0, 0, 0, 0, 0⟩) ?_
    rintro v L' ⟨rfl, rfl⟩
    rw [m10]
    refine go ?_
    rw [w64 (n := 1 - ((d : Nat) : Int)) (by omega) (by omega)]
    refine Sx.ca (vs := [.agg (⟨1 - (d : Nat), 0, 0, 0, 0, 0⟩ : Opn).l.toArray]) rfl (opMay ⟨1 - (d : Nat), 0, 0, 0, 0, 0⟩) ?_
    rintro v L' ⟨rfl, rfl⟩
    rw [m11]
    refine go ?_
    rw [w64 (n := 12 + ((d : Nat) : Int)) (by omega) (by omega)]
    refine Sx.ca (vs := [.int .i64 (12 + (d : Nat))]) rfl (opName (12 + (d : Nat))) ?_
    rintro v L' ⟨rfl, rfl⟩
    rw [m12]
    refine go ?_
    rw [w64 (n := 1 - ((d : Nat) : Int)) (by omega) (by omega)]
    refine Sx.ca (vs := [.int .i64 (1 - (d : Nat))]) rfl (opName (1 - (d : Nat))) ?_
    rintro v L' ⟨rfl, rfl⟩
    rw [m13]
    refine go ?_
    rw [w64 (n := 12 + ((d : Nat) : Int)) (by omega) (by omega)]
    refine Sx.ca (vs := [.int .i64 (12 + (d : Nat))]) rfl (opOf (12 + (d : Nat))) ?_
    rintro v L' ⟨rfl, rfl⟩
    rw [m12]
    refine go ?_
    exact Kr.one (.inr rfl) rfl (L' := L) ent ⟨rfl, rfl⟩
end
end Go.Proofs.YtlpikhdiiehcaaaDoor
