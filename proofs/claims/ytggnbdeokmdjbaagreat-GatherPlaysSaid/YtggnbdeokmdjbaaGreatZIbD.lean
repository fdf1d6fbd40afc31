/-
  Parts of the proof, merged: what the statement leans on.
-/
import Derived.Test.YtggnbdeokmdjbaaGreatZIbC
set_option linter.unusedVariables false
set_option linter.unusedSimpArgs false

namespace Go.Proofs.YtggnbdeokmdjbaaGreat
theorem Pool.tick {k : Sk} {m : Mm} {l : List Int} (h : Pool k m l) : Pool k m.tick l := ⟨h.c.congr fun _ _ => rfl, h.nd⟩
structure PopI (k : Sk) (m : Mm) (l : List Int) (q : PopS) : Prop where
 le : hdT q.was ≤ hdT (m.at_ k.head)
 eq : hdT q.was = hdT (m.at_ k.head) → q.was = m.at_ k.head
 pre : q.was = m.at_ k.head → (∃ r, l = q.got ++ r) ∧ (q.at_ = 2 → q.under = (l.drop q.got.length).headD (-1))
def PopH (k : Sk) (m : Mm) (l : List Int) (q : PopS) : Prop := q.done = false → q.at_ ≠ 0 → PopI k m l q
structure PushI (k : Sk) (m : Mm) (p : PushS) : Prop where
 links : ∀ i, i + 1 < p.l.length → i < p.at_ → m.at_ (k.links + (itI p.l i).toNat) = (itI p.l (i + 1) + 1).toNat
 last : p.at_ = p.l.length + 1 → m.at_ (k.links + (itI p.l (p.l.length - 1)).toNat) = (k.top p.was + 1).toNat
 le : p.l.length ≤ p.at_ → hdT p.was ≤ hdT (m.at_ k.head)
 eq : p.l.length ≤ p.at_ → hdT p.was = hdT (m.at_ k.head) → p.was = m.at_ k.head
def PushH (k : Sk) (m : Mm) (p : PushS) : Prop := p.done = false → PushI k m p
def HeadGoes (k : Sk) (m m' : Mm) (l l' : List Int) : Prop := (m'.at_ k.head = m.at_ k.head ∧ l' = l) ∨ hdT (m.at_ k.head) < hdT (m'.at_ k.head)
theorem PopH.frame {k : Sk} {m m' : Mm} {l l' : List Int} {q : PopS} (h : PopH k m l q) (g : HeadGoes k m m' l l') : PopH k m' l' q := by
 intro hd ha
 have h := h hd ha
 rcases g with ⟨e, rfl⟩ | g
 ·exact ⟨by rw [e]; exact h.le, by rw [e]; exact h.eq, by rw [e]; exact h.pre⟩
 ·have hl := h.le
  exact ⟨by omega, fun e => by omega, fun e => by rw [← e] at g; omega⟩
theorem PushH.frame {k : Sk} {m m' : Mm} {l l' : List Int} {p : PushS} (h : PushH k m p) (g : HeadGoes k m m' l l') (hl : ∀ x ∈ p.l, m'.at_ (k.links + x.toNat) = m.at_ (k.links + x.toNat)) (hne : p.done = false → p.l ≠ []) : PushH k m' p := by
 intro hd
 have hlp := List.length_pos_iff.2 (hne hd)
 have h := h hd
 refine ⟨fun i h1 h2 => by rw [hl _ (itI_mem (by omega))]; exact h.links i h1 h2, fun ha => by rw [hl _ (itI_mem (by omega))]; exact h.last ha, fun ha => ?_, fun ha => ?_⟩
 ·have := h.le ha
  rcases g with ⟨e, _⟩ | g
  ·rw [e]; exact this
  ·omega
 ·have := h.le ha
  rcases g with ⟨e, _⟩ | g
  ·rw [e]; exact h.eq ha
  ·intro e; omega
def Tagged (k : Sk) (m : Mm) : Prop := hdT (m.at_ k.head) < 4294967295
theorem laterT_gt {t : Nat} (h : t < 4294967295) : laterT t = t + 1 := by unfold laterT; rw [if_pos h]
theorem popStep_inv {k : Sk} {m : Mm} {l : List Int} {q : PopS} {len : Nat} (hk : k.ok len) (hml : m.ws.length = len) (hp : Pool k m l) (hq : q.ok k) (ht : Tagged k m) (h : PopH k m l q) :
  ∃ l', Pool k (popStep k m q).2 l' ∧ PopH k (popStep k m q).2 l' (popStep k m q).1 ∧ HeadGoes k m (popStep k m q).2 l l' ∧ (∀ a, a ≠ k.head → (popStep k m q).2.at_ a = m.at_ a) ∧ hdT ((popStep k m q).2.at_ k.head) ≤ hdT (m.at_ k.head) + 1 ∧
   ((popStep k m q).1.done = false → l' = l) ∧ (q.done = false → (popStep k m q).1.done = true → l = (popStep k m q).1.got ++ l') := by
 have h8 := hk.n2
 cases hd : q.done with
 | true =>
   have e : popStep k m q = (q, m) := by unfold popStep; rw [if_pos hd]
   rw [e]
   exact ⟨l, hp, h, .inl ⟨rfl, rfl⟩, fun _ _ => rfl, Nat.le_succ _, fun _ => rfl, fun h => by cases h⟩
 | false =>
   have ha := hq.a
   rcases (show q.at_ = 0 ∨ q.at_ = 1 ∨ q.at_ = 2 by omega) with h0 | h0 | h0
   ·by_cases ht0 : 0 ≤ k.top (m.at_ k.head)
    ·have e : popStep k m q = ({ q with was := m.at_ k.head, got := [k.top (m.at_ k.head)], at_ := 1 }, m.tick) := by
      unfold popStep; rw [hd, h0]; simp only [Bool.false_eq_true, if_false]; rw [if_pos ht0]
     rw [e]
     refine ⟨l, hp.tick, fun _ _ => ⟨Nat.le_refl _, fun _ => rfl, fun _ => ⟨?_, fun h => by cases h⟩⟩, .inl ⟨rfl, rfl⟩, fun _ _ => rfl, by show hdT (m.at_ k.head) ≤ _; omega, fun _ => rfl, fun _ h => by simp only at h; rw [hd] at h; cases h⟩
     cases l with
     | nil => have : k.top (m.at_ k.head) = -1 := hp.c; omega
     | cons x r => exact ⟨r, by rw [hp.c.1]; rfl⟩
    ·have e : popStep k m q = ({ q with was := m.at_ k.head, got := [], done := true }, m.tick) := by
      unfold popStep; rw [hd, h0]; simp only [Bool.false_eq_true, if_false]; rw [if_neg ht0]
     rw [e]
     exact ⟨l, hp.tick, fun h => (by cases h), .inl ⟨rfl, rfl⟩, fun _ _ => rfl, by show hdT (m.at_ k.head) ≤ _; omega, fun _ => rfl, fun _ _ => rfl⟩
   ·have hI := h hd (by omega)
    have hne := hq.ne hd (by omega)
    have hlp := List.length_pos_iff.2 hne
    have hnext : q.was = m.at_ k.head → k.below (m.at_ (k.links + (lastI q.got).toNat)) = (l.drop q.got.length).headD (-1) := fun hw => by
     obtain ⟨⟨r, hr⟩, _⟩ := hI.pre hw
     have hj : q.got.length - 1 < l.length := by rw [hr, List.length_append]; omega
     have hd' := (hp.c.drop_ (j := q.got.length - 1) hj).head_
     rw [show q.got.length - 1 + 1 = q.got.length by omega] at hd'
     rw [← hd']
     have e1 : l[q.got.length - 1] = lastI q.got := by
      have : l[q.got.length - 1]? = some (lastI q.got) := by
       rw [hr, List.getElem?_append_left (by omega)]
       unfold lastI
       rw [List.getLastD_eq_getLast?, List.getLast?_eq_getElem?, List.getElem?_eq_getElem (by omega)]; rfl
      rw [List.getElem?_eq_getElem hj] at this
      exact Option.some.inj this
     rw [e1]
    by_cases hb : 0 ≤ k.below (m.at_ (k.links + (lastI q.got).toNat)) ∧ (q.got.length : Int) < q.most
    ·have e : popStep k m q = ({ q with under := k.below (m.at_ (k.links + (lastI q.got).toNat)), got := q.got ++ [k.below (m.at_ (k.links + (lastI q.got).toNat))] }, m.tick) := by
      unfold popStep; rw [hd, h0]; simp only [Bool.false_eq_true, if_false]; rw [if_pos hb]
     rw [e]
     refine ⟨l, hp.tick, fun _ _ => ⟨hI.le, hI.eq, fun hw => ⟨?_, fun h => by simp only at h; omega⟩⟩, .inl ⟨rfl, rfl⟩, fun _ _ => rfl, by show hdT (m.at_ k.head) ≤ _; omega, fun _ => rfl, fun _ h => by simp only at h; rw [hd] at h; cases h⟩
     obtain ⟨⟨r, hr⟩, _⟩ := hI.pre hw
     have hn := hnext hw
     rw [hr, List.drop_left] at hn
     cases r with
     | nil => rw [hn] at hb; simp at hb
     | cons y r => exact ⟨r, by simp only; rw [hn, hr]; simp⟩
    ·have e : popStep k m q = ({ q with under := k.below (m.at_ (k.links + (lastI q.got).toNat)), at_ := 2 }, m.tick) := by
      unfold popStep; rw [hd, h0]; simp only [Bool.false_eq_true, if_false]; rw [if_neg hb]
     rw [e]
     exact ⟨l, hp.tick, fun _ _ => ⟨hI.le, hI.eq, fun hw => ⟨(hI.pre hw).1, fun _ => hnext hw⟩⟩, .inl ⟨rfl, rfl⟩, fun _ _ => rfl, by show hdT (m.at_ k.head) ≤ _; omega, fun _ => rfl, fun _ h => by simp only at h; rw [hd] at h; cases h⟩
   ·have hI := h hd (by omega)
    have e : popStep k m q = ({ q with at_ := 0, done := decide (m.at_ k.head = q.was) }, m.cas k.head q.was (nextW q.was q.under)) := by
     unfold popStep; rw [hd, h0]; rfl
    rw [e]
    by_cases hw : m.at_ k.head = q.was
    ·obtain ⟨⟨r, hr⟩, hu⟩ := hI.pre hw.symm
     have hu := hu h0
     rw [hr, List.drop_left] at hu
     have hu1 := hq.u1; have hu2 := hq.u2
     have hput : ∀ a v, (m.put k.head v).at_ a = if k.head = a then v else m.at_ a := fun a v => Mm.at_put _ (by have := hk.h; omega)
     have hcas : m.cas k.head q.was (nextW q.was q.under) = m.put k.head (nextW q.was q.under) := by unfold Mm.cas; rw [if_pos hw]
     have htag : hdT (nextW q.was q.under) = hdT (m.at_ k.head) + 1 := by rw [hdT_next hu1 (by omega), ← hw, laterT_gt ht]
     dsimp only
     rw [hcas, decide_eq_true hw]
     refine ⟨r, ⟨?_, ?_⟩, fun h => (by cases h), .inr ?_, fun a ha => by rw [hput, if_neg (fun h => ha h.symm)], ?_, fun h => (by cases h), fun _ _ => hr⟩
     ·have e1 : k.top ((m.put k.head (nextW q.was q.under)).at_ k.head) = r.headD (-1) := by
       rw [hput, if_pos rfl, ← hu]
       unfold Sk.top
       rw [hdI_next hu1 (by omega), if_pos hu2]
      rw [e1]
      have hlp := List.length_pos_iff.2 (hq.ne hd (by omega))
      have hj : q.got.length - 1 < l.length := by rw [hr, List.length_append]; omega
      have hc := hp.c.drop_ (j := q.got.length - 1) hj
      have hdr : l.drop q.got.length = r := by rw [hr, List.drop_left]
      rw [show q.got.length - 1 + 1 = q.got.length by omega, hdr] at hc
      have hh := hc.head_
      rw [hh] at hc
      refine hc.congr fun x hx => ?_
      have hx2 := hp.c.mem x (by rw [hr]; exact List.mem_append_right _ hx)
      rw [hput, if_neg (hk.head_ne hx2)]
     ·have := hp.nd; rw [hr] at this; exact (List.nodup_append.1 this).2.1
     ·rw [hput, if_pos rfl, htag]; omega
     ·rw [hput, if_pos rfl, htag]; omega
    ·have hcas : m.cas k.head q.was (nextW q.was q.under) = m.tick := by unfold Mm.cas; rw [if_neg hw]
     dsimp only
     rw [hcas, decide_eq_false hw]
     exact ⟨l, hp.tick, fun _ h => absurd rfl h, .inl ⟨rfl, rfl⟩, fun _ _ => rfl, by show hdT (m.at_ k.head) ≤ _; omega, fun _ => rfl, fun _ h => by cases h⟩
theorem pushStep_inv {k : Sk} {m : Mm} {l : List Int} {p : PushS} {len : Nat} (hk : k.ok len) (hml : m.ws.length = len) (hp : Pool k m l) (hq : p.ok k) (hnd : p.l.Nodup) (hdj : ∀ x ∈ p.l, x ∉ l) (ht : Tagged k m) (h : PushH k m p) :
  ∃ l', Pool k (pushStep k m p).2 l' ∧ PushH k (pushStep k m p).2 (pushStep k m p).1 ∧ HeadGoes k m (pushStep k m p).2 l l' ∧ (∀ a, a ≠ k.head → (∀ x ∈ p.l, a ≠ k.links + x.toNat) → (pushStep k m p).2.at_ a = m.at_ a) ∧ hdT ((pushStep k m p).2.at_ k.head) ≤ hdT (m.at_ k.head) + 1 ∧
   (pushStep k m p).1.l = p.l ∧ ((pushStep k m p).1.done = false → l' = l) ∧ (p.done = false → (pushStep k m p).1.done = true → l' = p.l ++ l) := by
 have h8 := hk.n2; have hkl := hk.l; have hkh := hk.h
 cases hd : p.done with
 | true =>
   have e : pushStep k m p = (p, m) := by unfold pushStep; rw [if_pos hd]
   rw [e]
   exact ⟨l, hp, h, .inl ⟨rfl, rfl⟩, fun _ _ _ => rfl, Nat.le_succ _, rfl, fun _ => rfl, fun h => by cases h⟩
 | false =>
   have hI := h hd
   have ha := hq.a
   have hne := hq.ne hd
   have hlp := List.length_pos_iff.2 hne
   have hg : ∀ i, i < p.l.length → 0 ≤ itI p.l i ∧ itI p.l i < k.n := fun i hi => hq.g _ (itI_mem hi)
   have hinj : ∀ a b, a < p.l.length → b < p.l.length → a ≠ b → k.links + (itI p.l a).toNat ≠ k.links + (itI p.l b).toNat := by
    intro a b ha hb hab e
    have ra := hg a ha; have rb := hg b hb
    have : itI p.l a = itI p.l b := by omega
    rw [itI_eq ha, itI_eq hb] at this
    exact hab (nodup_inj hnd ha hb this)
   have hhl : ∀ i, i < p.l.length → k.head ≠ k.links + (itI p.l i).toNat := fun i hi => hk.head_ne (hg i hi)
   -- the store of a link that is one's own
   have hst : ∀ i v, i < p.l.length → (∀ a, (m.put (k.links + (itI p.l i).toNat) v).at_ a = if k.links + (itI p.l i).toNat = a then v else m.at_ a) ∧ Pool k (m.put (k.links + (itI p.l i).toNat) v) l := fun i v hi => by
    have hput : ∀ a, (m.put (k.links + (itI p.l i).toNat) v).at_ a = if k.links + (itI p.l i).toNat = a then v else m.at_ a := fun a => Mm.at_put _ (by have := hg i hi; omega)
    refine ⟨hput, ?_, hp.nd⟩
    rw [hput, if_neg (fun e => hhl i hi e.symm)]
    refine hp.c.congr fun x hx => ?_
    have hx2 := hp.c.mem x hx
    rw [hput, if_neg (toNat_ne (hg i hi).1 hx2.1 (fun e => hdj _ (itI_mem hi) (by rw [e]; exact hx)))]
   by_cases h1 : p.at_ + 1 < p.l.length
   ·have e : pushStep k m p = ({ p with at_ := p.at_ + 1 }, m.put (k.links + (itI p.l p.at_).toNat) (itI p.l (p.at_ + 1) + 1).toNat) := by
     unfold pushStep; rw [hd]; simp only [Bool.false_eq_true, if_false]; rw [if_pos h1]
    rw [e]
    obtain ⟨hput, hpool⟩ := hst p.at_ (itI p.l (p.at_ + 1) + 1).toNat (by omega)
    refine ⟨l, hpool, fun _ => ⟨fun i hi1 hi2 => ?_, fun hh => by simp only at hh; omega, fun hh => by simp only at hh; omega, fun hh => by simp only at hh; omega⟩, .inl ⟨?_, rfl⟩, fun a _ hx => ?_, ?_, rfl, fun _ => rfl, fun _ h => by simp only at h; rw [hd] at h; cases h⟩
    ·simp only at hi1 hi2 ⊢
     rw [hput]
     by_cases hip : i = p.at_
     ·rw [hip, if_pos rfl]
     ·rw [if_neg (hinj p.at_ i (by omega) (by omega) (by omega))]
      exact hI.links i hi1 (by omega)
    ·rw [hput, if_neg (fun e => hhl _ (by omega) e.symm)]
    ·rw [hput, if_neg (fun e => hx _ (itI_mem (l := p.l) (i := p.at_) (by omega)) e.symm)]
    ·dsimp only
     rw [hput, if_neg (fun e => hhl _ (by omega) e.symm)]; omega
   ·by_cases h2 : p.at_ + 1 = p.l.length
    ·have e : pushStep k m p = ({ p with at_ := p.at_ + 1, was := m.at_ k.head }, m.tick) := by
      unfold pushStep; rw [hd]; simp only [Bool.false_eq_true, if_false]; rw [if_neg h1, if_pos h2]
     rw [e]
     exact ⟨l, hp.tick, fun _ => ⟨fun i hi1 hi2 => hI.links i hi1 (by simp only at hi1 hi2; omega), fun hh => by simp only at hh; omega, fun _ => Nat.le_refl _, fun _ _ => rfl⟩, .inl ⟨rfl, rfl⟩, fun _ _ _ => rfl, by show hdT (m.at_ k.head) ≤ _; omega, rfl, fun _ => rfl, fun _ h => by simp only at h; rw [hd] at h; cases h⟩
    ·by_cases h3 : p.at_ = p.l.length
     ·have e : pushStep k m p = ({ p with at_ := p.at_ + 1 }, m.put (k.links + (itI p.l (p.l.length - 1)).toNat) (k.top p.was + 1).toNat) := by
       unfold pushStep; rw [hd]; simp only [Bool.false_eq_true, if_false]; rw [if_neg h1, if_neg h2, if_pos h3]
      rw [e]
      obtain ⟨hput, hpool⟩ := hst (p.l.length - 1) (k.top p.was + 1).toNat (by omega)
      have hh0 : (m.put (k.links + (itI p.l (p.l.length - 1)).toNat) (k.top p.was + 1).toNat).at_ k.head = m.at_ k.head := by rw [hput, if_neg (fun e => hhl _ (by omega) e.symm)]
      refine ⟨l, hpool, fun _ => ⟨fun i hi1 hi2 => ?_, fun _ => ?_, fun _ => ?_, fun _ => ?_⟩, .inl ⟨hh0, rfl⟩, fun a _ hx => ?_, ?_, rfl, fun _ => rfl, fun _ h => by simp only at h; rw [hd] at h; cases h⟩
      ·simp only at hi1 hi2 ⊢
       rw [hput, if_neg (hinj (p.l.length - 1) i (by omega) (by omega) (by omega))]
       exact hI.links i hi1 (by omega)
      ·simp only
       rw [hput, if_pos rfl]
      ·simp only; rw [hh0]; exact hI.le (by omega)
      ·simp only; rw [hh0]; exact hI.eq (by omega)
      ·rw [hput, if_neg (fun e => hx _ (itI_mem (l := p.l) (i := p.l.length - 1) (by omega)) e.symm)]
      ·dsimp only; rw [hh0]; omega
     ·have h4 : p.at_ = p.l.length + 1 := by omega
      have e : pushStep k m p = ({ p with at_ := p.l.length - 1, done := decide (m.at_ k.head = p.was) }, m.cas k.head p.was (nextW p.was (itI p.l 0))) := by
       unfold pushStep; rw [hd]; simp only [Bool.false_eq_true, if_false]; rw [if_neg h1, if_neg h2, if_neg h3]
      rw [e]
      by_cases hw : m.at_ k.head = p.was
      ·have h00 := hg 0 hlp
       have hput : ∀ a v, (m.put k.head v).at_ a = if k.head = a then v else m.at_ a := fun a v => Mm.at_put _ (by omega)
       have hcas : m.cas k.head p.was (nextW p.was (itI p.l 0)) = m.put k.head (nextW p.was (itI p.l 0)) := by unfold Mm.cas; rw [if_pos hw]
       have htag : hdT (nextW p.was (itI p.l 0)) = hdT (m.at_ k.head) + 1 := by rw [hdT_next (by omega) (by omega), ← hw, laterT_gt ht]
       dsimp only
       rw [hcas, decide_eq_true hw]
       refine ⟨p.l ++ l, ⟨?_, ?_⟩, fun h => (by cases h), .inr ?_, fun a ha _ => by rw [hput, if_neg (fun h => ha h.symm)], ?_, rfl, fun h => (by cases h), fun _ _ => rfl⟩
       ·have e1 : k.top ((m.put k.head (nextW p.was (itI p.l 0))).at_ k.head) = itI p.l 0 := by
         rw [hput, if_pos rfl]
         unfold Sk.top
         rw [hdI_next (by omega) (by omega), if_pos h00.2]
        rw [e1]
        refine chain_app (t := k.top p.was) p.l hne hq.g (fun i hi => ?_) ?_ ?_
        ·rw [hput, if_neg (hhl i (by omega)), hI.links i hi (by omega)]
         have := hg (i + 1) hi
         exact k.below_link (by omega) this.2
        ·rw [hput, if_neg (hhl _ (by omega)), hI.last h4]
         exact k.below_link (k.top_ge _) (k.top_lt _)
        ·rw [← hw]
         refine hp.c.congr fun x hx => ?_
         rw [hput, if_neg (hk.head_ne (hp.c.mem x hx))]
       ·rw [List.nodup_append]
        exact ⟨hnd, hp.nd, fun a ha b hb e => hdj a ha (by rw [e]; exact hb)⟩
       ·rw [hput, if_pos rfl, htag]; omega
       ·rw [hput, if_pos rfl, htag]; omega
      ·have hcas : m.cas k.head p.was (nextW p.was (itI p.l 0)) = m.tick := by unfold Mm.cas; rw [if_neg hw]
       dsimp only
       rw [hcas, decide_eq_false hw]
       exact ⟨l, hp.tick, fun _ => ⟨fun i hi1 hi2 => hI.links i hi1 (by simp only at hi1 hi2; omega), fun hh => by simp only at hh; omega, fun hh => by simp only at hh; omega, fun hh => by simp only at hh; omega⟩, .inl ⟨rfl, rfl⟩, fun _ _ _ => rfl, by show hdT (m.at_ k.head) ≤ _; omega, rfl, fun _ => rfl, fun _ h => by cases h⟩
end Go.Proofs.YtggnbdeokmdjbaaGreat


namespace Go.Proofs.YtggnbdeokmdjbaaGreat
open Go
attribute [local irreducible] Sx Cx Rx Fx Krg Ksq Kbl Klp Kr
theorem itI_some {l : List Int} {i : Nat} (h : i < l.length) : (ints l)[i]? = some (.int .i64 (itI l i)) := by simp [ints, itI, h]
section
variable {L F G : St}
theorem Rd.pre {a : Option Addr} {n m : Nat} {vs : List Value} (h : Rd L 1 a n vs) (hm : m ≤ n) : Rd L 1 a m (vs.take m) := by
 obtain ⟨h1, h2⟩ := h
 refine ⟨by rw [List.length_take]; omega, ?_⟩
 rcases h2 with h0 | ⟨b, o, rfl, hh⟩
 ·left; omega
 ·right
  have := hh.sub (i := 0) (n := m)
  exact ⟨b, o, rfl, by simpa using this⟩
theorem Rd.get1 {a : Option Addr} {n i : Nat} {vs : List Value} {v : Value} (h : Rd L 1 a n vs) (hv : vs[i]? = some v) : ∃ b o, a = some ⟨b, o, none⟩ ∧ Has L b (o + i) [v] := by
 have hlt := (List.getElem?_eq_some_iff.1 hv).1
 obtain ⟨h1, h0 | ⟨b, o, rfl, h2⟩⟩ := h
 ·omega
 ·exact ⟨b, o, rfl, (h2.sub (i := i) (n := 1)).one (take_one hv)⟩
theorem sliceIndex {a : Option Addr} {n c : Nat} {xs : List Int} (x : Int) (hr : Rd L 1 a n (ints xs)) (hn : n ≤ 1000000000) :
  Fx Tryz.prog 292 [.slice a n c, .int .i64 x] L (fun v L' => (∃ i : Int, v = .int .i64 i ∧ (0 ≤ i ↔ x ∈ xs)) ∧ L = L') := by
 have hl : xs.length = n := by have := hr.1; simpa [ints] using this
 refine Fx.mk Tryz.func292 k292 nb_ ?_
 dsimp only [c292, kG, kS, kH, kM, kN, kF, kL, envOf, Nat.reduceAdd]
 refine go ?_
 refine Cx.lp (α := {i : Nat // i ≤ n ∧ x ∉ xs.take i}) (fun i => [(0, .slice a n c), (1, .int .i64 x), (7, .int .i64 n), (8, .int .i64 i.1)]) (fun _ => L) (fun i => n - i.1) ⟨0, by omega, by simp⟩ (sub.cons rfl (sub.cons rfl (sub.cons rfl (sub.cons rfl sub.nil)))) (Ent.refl _) ?_
 rintro ⟨i, hi, hni⟩
 dsimp only
 refine go ?_
 refine Cx.ifp rfl (fun h => ?_) (fun h => ?_)
 ·have hv := itI_some (l := xs) (i := i) (by omega)
  obtain ⟨b, o, rfl, hh⟩ := hr.get1 hv
  refine go ?_
  refine Sx.pv rfl ⟨by omega, by omega⟩ ?_
  refine Sx.ld rfl (by simpa using hh) rfl ?_
  refine go ?_
  refine Cx.ifp rfl (fun e => ?_) (fun e => ?_)
  ·refine go ?_
   refine Kr.one (.inr rfl) rfl (Ent.refl _) ⟨⟨i, rfl, fun _ => ?_, fun _ => by omega⟩, rfl⟩
   rw [e]
   exact itI_mem (by omega)
  ·refine go ?_
   rw [w64 (by omega) (by omega)]
   refine Klp.nm ⟨i + 1, by omega, ?_⟩ (sub.cons rfl (sub.cons rfl (sub.cons rfl (sub.cons rfl sub.nil)))) (Ent.refl _) (by dsimp only; omega)
   rw [List.take_succ_eq_append_getElem (by omega), List.mem_append]
   rintro (h1 | h1)
   ·exact hni h1
   ·rw [List.mem_singleton] at h1
    exact e (h1.trans (by simp [itI, show i < xs.length by omega]))
 ·obtain rfl : i = n := by omega
  rw [← hl, List.take_length] at hni
  refine go ?_
  exact Kr.one (.inr rfl) rfl (Ent.refl _) ⟨⟨-1, rfl, by simp [hni]⟩, rfl⟩
theorem sliceContains {a : Option Addr} {n c : Nat} {xs : List Int} (x : Int) (hr : Rd L 1 a n (ints xs)) (hn : n ≤ 1000000000) :
  Fx Tryz.prog 268 [.slice a n c, .int .i64 x] L (fun v L' => v = .bool (decide (x ∈ xs)) ∧ L = L') := by
 refine Fx.mk Tryz.func268 k268 nb_ ?_
 dsimp only [c268, kG, kS, kH, kM, kN, kF, kL, envOf, Nat.reduceAdd]
 refine go ?_
 refine Sx.ca rfl (sliceIndex (a := a) (n := n) (c := c) (xs := xs) x hr hn) ?_
 rintro v L' ⟨⟨i, rfl, hi⟩, rfl⟩
 refine go ?_
 exact Kr.one (.inr rfl) rfl (Ent.refl _) ⟨congrArg Value.bool (decide_eq_decide.2 hi), rfl⟩
def pushI (p : PushS) : Nat := min p.at_ (p.l.length - 1)
def pushFn (p : PushS) : FuncId := if p.at_ + 1 < p.l.length then 270 else if p.at_ + 1 = p.l.length then 269 else if p.at_ = p.l.length then 293 else 297
def pushNx (a : Option Addr) (p : PushS) : Value := bif p.done then .nilFunc else .func (.func (pushFn p)) #[.pointer a] #[]
def pushL (T : TypeId) (sb : Nat) (k : Sk) (p : PushS) (a : Option Addr) (y : (Option Addr × Nat) × Int) : St :=
 [lift (p.ok k), pt a (Blk T [pushNx a p, .nilFunc, .nilFunc, .nilFunc, .int .i64 y.2, .pointer (some ⟨sb, 0, none⟩), .slice y.1.1 p.l.length y.1.2, .int .i64 (pushI p : Nat), wd p.was]), pt y.1.1 (Row 3 1 p.l.length y.1.2 (ints p.l))]
def PushT (T : TypeId) (sb : Nat) (k : Sk) (p : PushS) (a : Option Addr) : As := exs (pushL T sb k p a)
abbrev PushO := PushT 325
theorem PushO.close {T : TypeId} {sb : Nat} {k : Sk} {a r : Option Addr} {c n : Nat} {cnt : Int} {v0 v1 v2 : Value} {w : List Value} {F G : St} (p : PushS) (hp : p.ok k)
  [t : Take L a (Blk T [v0, .nilFunc, .nilFunc, .nilFunc, .int .i64 cnt, .pointer (some ⟨sb, 0, none⟩), .slice r n c, v1, v2]) F] [u : Take F r (Row 3 1 n c w) G]
  (h0 : v0 = pushNx a p) (h1 : v1 = .int .i64 (pushI p : Nat)) (h2 : v2 = wd p.was) (hn : n = p.l.length) (hw : w = ints p.l) : Ent L (pt a (PushT T sb k p) :: G) := by
 subst h0; subst h1; subst h2; subst hn; subst hw
 refine Ent.trans (Ent.take1 (t := t) (Ent.of u.out)) ?_
 refine Ent.trans (Ent.lift hp (Ent.refl _)) ?_
 exact Ent.close (f := pushL T sb k p a) rfl ((r, c), cnt)
set_option maxHeartbeats 2000000 in
theorem stackPush {sb mp : Nat} {k : Sk} {a : Option Addr} {n c : Nat} {l : List Int} (hr : Rd L 1 a n (ints l)) (hc : n ≤ c) (hn : n ≤ 1000000000) [s : Take L (some ⟨sb, 0, none⟩) (SkO mp k) F] :
  Fx Tryz.prog 228 [.pointer (some ⟨sb, 0, none⟩), .slice a n c] L (fun v L' =>
   (¬ (l.Nodup ∧ ∀ x ∈ l, 0 ≤ x ∧ x < k.n) ∧ v = .tuple #[.pointer none, .int .i64 1] ∧ L = L') ∨
   ((l.Nodup ∧ ∀ x ∈ l, 0 ≤ x ∧ x < k.n) ∧ ∃ g, v = .tuple #[.pointer (some ⟨g, 0, none⟩), .int .i64 0] ∧ L' = pt (some ⟨g, 0, none⟩) (PushO sb k (PushS.init l)) :: L)) := by
 have hl : l.length = n := by have := hr.1; simpa [ints] using this
 refine Fx.mk Tryz.func228 k228 nb_ ?_
 dsimp only [c228, kG, kS, kH, kM, kN, kF, kL, envOf, Nat.reduceAdd]
 refine go ?_
 refine Cx.lp (α := {i : Nat // i ≤ n ∧ (l.take i).Nodup ∧ ∀ x ∈ l.take i, 0 ≤ x ∧ x < k.n}) (fun i => [(0, .pointer (some ⟨sb, 0, none⟩)), (1, .slice a n c), (9, .slice a n c), (10, .int .i64 n), (11, .int .i64 i.1)]) (fun _ => L) (fun i => n - i.1)
  ⟨0, by omega, by simp, by simp⟩ (sub.cons rfl (sub.cons rfl (sub.cons rfl (sub.cons rfl (sub.cons rfl sub.nil))))) (Ent.refl _) ?_
 rintro ⟨i, hi, hnd, hrg⟩
 dsimp only
 refine go ?_
 refine Cx.ifp rfl (fun h => ?_) (fun h => ?_)
 ·have hv := itI_some (l := l) (i := i) (by omega)
  obtain ⟨b, o, rfl, hh⟩ := hr.get1 hv
  have hmem := itI_mem (l := l) (i := i) (by omega)
  have hbad : ∀ (hb : ¬ ((0 ≤ itI l i ∧ itI l i < k.n) ∧ itI l i ∉ l.take i)), ¬ (l.Nodup ∧ ∀ x ∈ l, 0 ≤ x ∧ x < k.n) := by
   rintro hb ⟨g1, g2⟩
   refine hb ⟨g2 _ hmem, fun hin => ?_⟩
   obtain ⟨j, hj, e⟩ := List.getElem_of_mem hin
   have hj' : j < i := by rw [List.length_take] at hj; omega
   rw [List.getElem_take] at e
   have e2 : itI l i = l[i]'(by omega) := by simp [itI, show i < l.length by omega]
   have := (List.getElem_inj g1).1 (e.trans e2)
   omega
  refine go ?_
  refine Sx.pv rfl ⟨by omega, by omega⟩ ?_
  refine Sx.ld rfl (by simpa using hh) rfl ?_
  refine go ?_
  refine Sx.ifp rfl (fun h1 => ?_) (fun h1 => ?_)
  ·refine go ?_
   exact Kr.two (.inr rfl) rfl rfl (Ent.refl _) (.inl ⟨hbad fun hg => by omega, rfl, rfl⟩)
  ·refine go ?_
   refine Sx.ifp rfl (fun h2 => ?_) (fun h2 => ?_)
   ·refine go ?_
    exact Kr.two (.inr rfl) rfl rfl (Ent.refl _) (.inl ⟨hbad fun hg => by omega, rfl, rfl⟩)
   ·refine go ?_
    refine Sx.pv rfl ⟨by omega, by omega⟩ ?_
    refine go ?_
    have hpre : Rd L 1 (some ⟨b, o, none⟩) (i : Int).toNat (ints (l.take i)) := by
     have := hr.pre (m := i) (by omega)
     rw [show (i : Int).toNat = i by omega]
     rwa [show (ints l).take i = ints (l.take i) by simp [ints]] at this
    refine Sx.ca rfl (sliceContains (xs := l.take i) (itI l i) hpre (by omega)) ?_
    rintro v L' ⟨rfl, rfl⟩
    refine go ?_
    refine Cx.ifp rfl (fun h3 => ?_) (fun h3 => ?_)
    ·refine go ?_
     exact Kr.two (.inr rfl) rfl rfl (Ent.refl _) (.inl ⟨hbad fun hg => hg.2 h3, rfl, rfl⟩)
    ·refine go ?_
     rw [w64 (by omega) (by omega)]
     have ht : l.take (i + 1) = l.take i ++ [itI l i] := by
      rw [List.take_succ_eq_append_getElem (by omega)]; simp [itI, show i < l.length by omega]
     refine Klp.nm ⟨i + 1, by omega, ?_, ?_⟩ (sub.cons rfl (sub.cons rfl (sub.cons rfl (sub.cons rfl (sub.cons rfl sub.nil))))) (Ent.refl _) (by dsimp only; omega)
     ·rw [ht, List.nodup_append]
      refine ⟨hnd, by simp, ?_⟩
      intro x hx y hy e
      rw [List.mem_singleton] at hy
      exact h3 (by rw [← hy, ← e]; exact hx)
     ·rw [ht]
      intro x hx
      rcases List.mem_append.1 hx with hx | hx
      ·exact hrg x hx
      ·rw [List.mem_singleton] at hx
       subst hx
       omega
 ·obtain rfl : i = n := by omega
  rw [← hl, List.take_length] at hnd hrg
  refine go ?_
  refine Sx.ca rfl (clone hr (ones_ints _) hn) ?_
  rintro v L' ⟨ra, ca, rfl, rfl⟩
  refine go ?_
  refine Sx.bx rfl rfl fun g => ?_
  refine go ?_
  have hok : (PushS.init l).ok k := PushS.ok_init hrg
  refine Cx.ifp rfl (fun h0 => ?_) (fun h0 => ?_)
  ·refine go ?_
   refine Kr.two (.inr rfl) rfl rfl ?_ (.inr ⟨⟨hnd, hrg⟩, g, rfl, rfl⟩)
   have hl0 : l = [] := List.length_eq_zero_iff.1 (by omega)
   refine Ent.trans (PushO.close (a := some ⟨g, 0, none⟩) (r := ra) (sb := sb) (k := k) (PushS.init l) hok ?_ ?_ rfl hl.symm rfl) ?_
   ·simp [pushNx, PushS.init, hl0]
   ·simp [pushI, PushS.init, hl0]
   ·exact ent
  ·refine go ?_
   refine Cx.ifp rfl (fun h1 => ?_) (fun h1 => ?_)
   ·refine go ?_
    refine Sx.ca rfl (machGo (b := g)) ?_
    rintro v L' ⟨rfl, rfl⟩
    refine go ?_
    refine Kr.two (.inr rfl) rfl rfl ?_ (.inr ⟨⟨hnd, hrg⟩, g, rfl, rfl⟩)
    have hl0 : l ≠ [] := fun e => by subst e; simp at hl; omega
    refine Ent.trans (PushO.close (a := some ⟨g, 0, none⟩) (r := ra) (sb := sb) (k := k) (PushS.init l) hok ?_ ?_ rfl hl.symm rfl) ?_
    ·simp [pushNx, pushFn, PushS.init, hl0, hl, show i = 1 by omega]
    ·simp [pushI, PushS.init]
    ·exact ent
   ·refine go ?_
    refine Sx.ca rfl (machGo (b := g)) ?_
    rintro v L' ⟨rfl, rfl⟩
    refine go ?_
    refine Kr.two (.inr rfl) rfl rfl ?_ (.inr ⟨⟨hnd, hrg⟩, g, rfl, rfl⟩)
    have hl0 : l ≠ [] := fun e => by subst e; simp at hl; omega
    refine Ent.trans (PushO.close (a := some ⟨g, 0, none⟩) (r := ra) (sb := sb) (k := k) (PushS.init l) hok ?_ ?_ rfl hl.symm rfl) ?_
    ·simp [pushNx, pushFn, PushS.init, hl0, hl, show 1 < i by omega]
    ·simp [pushI, PushS.init]
    ·exact ent
end
end Go.Proofs.YtggnbdeokmdjbaaGreat


namespace Go.Proofs.YtggnbdeokmdjbaaGreat
open Go
attribute [local irreducible] Sx Cx Rx Fx Krg Ksq Kbl Klp Kr
section
variable {L F G : St}
abbrev pushF (b sb mp : Nat) (k : Sk) (m : Mm) (p : PushS) (r : Option Addr) (c : Nat) (cnt : Int) (G : St) : St :=
 pt (some ⟨b, 0, none⟩) (Blk 325 [.nilFunc, .nilFunc, .nilFunc, .nilFunc, .int .i64 cnt, .pointer (some ⟨sb, 0, none⟩), .slice r p.l.length c, .int .i64 (pushI p : Nat), wd p.was]) ::
 pt r (Row 3 1 p.l.length c (ints p.l)) :: pt (some ⟨mp, 0, none⟩) (MemO m) :: pt (some ⟨sb, 0, none⟩) (SkO mp k) :: G
abbrev pushR (b sb mp : Nat) (k : Sk) (m : Mm) (p : PushS) (G : St) (v : Value) (L' : St) : Prop :=
 L' = pt (some ⟨b, 0, none⟩) (PushO sb k (pushStep k m p).1) :: pt (some ⟨mp, 0, none⟩) (MemO (pushStep k m p).2) :: pt (some ⟨sb, 0, none⟩) (SkO mp k) :: G
theorem wrapS {x : Int} (h1 : 0 ≤ x) (h2 : x ≤ 9223372036854775807) : IntKind.u64.wrap (IntKind.i64.wrap x) = ((x.toNat : Nat) : Int) := by
 rw [w64 (by omega) h2, wu64 h1 (by omega)]; omega
theorem push_link_ {b sb mp : Nat} {k : Sk} {m : Mm} {p : PushS} {r : Option Addr} {c : Nat} {cnt : Int} (hm : m.ok) (hk : k.ok m.ws.length) (hp : p.ok k) (ha : p.at_ + 1 < p.l.length) (hd : p.done = false) :
  Fx Tryz.prog 270 [.pointer (some ⟨b, 0, none⟩)] (pushF b sb mp k m p r c cnt G) (pushR b sb mp k m p G) := by
 have hok := pushStep_ok (k := k) hm hp
 have e : pushStep k m p = ({ p with at_ := p.at_ + 1 }, m.put (k.links + (itI p.l p.at_).toNat) (itI p.l (p.at_ + 1) + 1).toNat) := by
  unfold pushStep; rw [hd]; simp only [Bool.false_eq_true, if_false]; rw [if_pos ha]
 have hI : pushI p = p.at_ := by unfold pushI; omega
 have hv1 := itI_some (l := p.l) (i := p.at_) (by omega)
 have hv2 := itI_some (l := p.l) (i := p.at_ + 1) (by omega)
 have hr1 := hp.g _ (itI_mem (l := p.l) (i := p.at_) (by omega))
 have hr2 := hp.g _ (itI_mem (l := p.l) (i := p.at_ + 1) (by omega))
 obtain ⟨k1, k2, k3, k4, k5, k6⟩ := hk
 obtain ⟨x, hx⟩ : ∃ x : Nat, itI p.l p.at_ = x := ⟨(itI p.l p.at_).toNat, by omega⟩
 obtain ⟨y, hy⟩ : ∃ y : Nat, itI p.l (p.at_ + 1) = y := ⟨(itI p.l (p.at_ + 1)).toNat, by omega⟩
 have e' : pushStep k m p = ({ p with at_ := p.at_ + 1 }, m.put (k.links + x) (y + 1)) := by rw [e, hx, hy]; rfl
 rw [hx] at hr1 hv1
 rw [hy] at hr2 hv2
 refine Fx.mk Tryz.func270 k270 nb_ ?_
 dsimp only [c270, kG, kS, kH, kM, kN, kF, kL, envOf, Nat.reduceAdd]
 unfold pushF
 rw [hI]
 refine Cx.rowkey (a := r) fun hxl hc1 hc2 hkr => ?_
 have hc3 : c ≤ 18446744073709551616 := by have := hc2; unfold maxLen at this; omega
 obtain ⟨rg, rfl⟩ : ∃ g, r = some ⟨g, 0, none⟩ := by
  rcases hkr with h | h
  ·omega
  ·exact h
 have hlm : p.l.length ≤ 9223372036854775807 := by unfold maxLen at hc2; omega
 refine go ?_
 refine Cx.ordc rfl kr_ ?_
 refine ge ?_
 refine Ev.ldrH (b := rg) kr_ rfl rfl (v := .int .i64 (x : Nat)) (by rw [show 0 + ((p.at_ : Int)).toNat * 1 = p.at_ by omega]; exact hv1) ?_
 refine ge ?_
 rw [w64 (n := (p.at_ : Int) + 1) (by omega) (by omega)]
 refine Ev.pvH kr_ rfl rfl ⟨by omega, by omega⟩ ?_
 refine Ev.ldrH (b := rg) kr_ rfl rfl (v := .int .i64 (y : Nat)) (by rw [show 0 + ((p.at_ : Int) + 1).toNat * 1 = p.at_ + 1 by omega]; exact hv2) ?_
 refine ge ?_
 rw [w64 (n := (k.links : Int) + x) (by omega) (by omega), show (k.links : Int) + x = ((k.links + x : Nat) : Int) by omega, wrapS (x := (y : Int) + 1) (by omega) (by omega), show ((y : Int) + 1).toNat = y + 1 by omega]
 refine Ev.caH kr_ rfl rfl (cellsStore (b := mp) (m := m) (k.links + x) (y + 1) (by omega) (by omega)) (Pres.deps kr_) ?_
 rintro v L' ⟨rfl, rfl⟩
 refine ge ?_
 refine go ?_
 rw [w64 (n := (p.at_ : Int) + 1) (by omega) (by omega)]
 refine go ?_
 refine Cx.ordc rfl kr_ ?_
 refine ge ?_
 rw [w64 (n := (p.l.length : Int) - 1) (by omega) (by omega)]
 rw [e'] at hok
 have hI2 : pushI { p with at_ := p.at_ + 1 } = p.at_ + 1 := by unfold pushI; dsimp only; omega
 refine Cx.ifp rfl (fun h => ?_) (fun h => ?_)
 ·refine go ?_
  refine Sx.ca rfl (machGo (b := b)) ?_
  rintro v L' ⟨rfl, rfl⟩
  refine go ?_
  refine Kr.none (.inl rfl) ?_ rfl
  rw [e']
  refine Ent.trans (PushO.close (a := some ⟨b, 0, none⟩) (r := some ⟨rg, 0, none⟩) (sb := sb) (k := k) _ hok ?_ ?_ rfl rfl rfl) ?_
  ·simp [pushNx, pushFn, hd, show p.at_ + 1 + 1 < p.l.length by omega]
  ·rw [hI2]; rfl
  ·exact ent
 ·refine go ?_
  refine Sx.ca rfl (machGo (b := b)) ?_
  rintro v L' ⟨rfl, rfl⟩
  refine go ?_
  refine Kr.none (.inl rfl) ?_ rfl
  rw [e']
  refine Ent.trans (PushO.close (a := some ⟨b, 0, none⟩) (r := some ⟨rg, 0, none⟩) (sb := sb) (k := k) _ hok ?_ ?_ rfl rfl rfl) ?_
  ·simp [pushNx, pushFn, hd, show ¬ p.at_ + 1 + 1 < p.l.length by omega, show p.at_ + 1 + 1 = p.l.length by omega]
  ·rw [hI2]; rfl
  ·exact ent
theorem push_load_ {b sb mp : Nat} {k : Sk} {m : Mm} {p : PushS} {r : Option Addr} {c : Nat} {cnt : Int} (hm : m.ok) (hk : k.ok m.ws.length) (hp : p.ok k) (ha : p.at_ + 1 = p.l.length) (hd : p.done = false) :
  Fx Tryz.prog 269 [.pointer (some ⟨b, 0, none⟩)] (pushF b sb mp k m p r c cnt G) (pushR b sb mp k m p G) := by
 have hok := pushStep_ok (k := k) hm hp
 have e : pushStep k m p = ({ p with at_ := p.at_ + 1, was := m.at_ k.head }, m.tick) := by
  unfold pushStep; rw [hd]; simp only [Bool.false_eq_true, if_false]; rw [if_neg (by omega), if_pos ha]
 rw [e] at hok
 have hI : pushI p = p.at_ := by unfold pushI; omega
 obtain ⟨k1, k2, k3, k4, k5, k6⟩ := hk
 refine Fx.mk Tryz.func269 k269 nb_ ?_
 dsimp only [c269, kG, kS, kH, kM, kN, kF, kL, envOf, Nat.reduceAdd]
 unfold pushF
 rw [hI]
 refine go ?_
 refine Cx.ordc rfl kr_ ?_
 refine ge ?_
 refine Ev.caH kr_ rfl rfl (cellsLoad (b := mp) (m := m) k.head k3) (Pres.deps kr_) ?_
 rintro v L' ⟨rfl, rfl⟩
 refine ge ?_
 refine Ev.stbH (b := b) kr_ rfl rfl rfl rfl rfl (by rfl) rfl (Pres.deps kr_) ?_
 refine ge ?_
 refine go ?_
 refine Sx.ca rfl (machGo (b := b)) ?_
 rintro v L' ⟨rfl, rfl⟩
 refine go ?_
 refine Kr.none (.inl rfl) ?_ rfl
 rw [e]
 refine Ent.trans (PushO.close (a := some ⟨b, 0, none⟩) (r := r) (sb := sb) (k := k) _ hok ?_ ?_ rfl rfl rfl) ?_
 ·simp [pushNx, pushFn, hd, ha]
 ·rw [show pushI { p with at_ := p.at_ + 1, was := m.at_ k.head } = p.at_ by unfold pushI; dsimp only; omega]
 ·exact ent
theorem push_last_ {b sb mp : Nat} {k : Sk} {m : Mm} {p : PushS} {r : Option Addr} {c : Nat} {cnt : Int} (hm : m.ok) (hk : k.ok m.ws.length) (hp : p.ok k) (ha : p.at_ = p.l.length) (hd : p.done = false) :
  Fx Tryz.prog 293 [.pointer (some ⟨b, 0, none⟩)] (pushF b sb mp k m p r c cnt G) (pushR b sb mp k m p G) := by
 have hok := pushStep_ok (k := k) hm hp
 have hlp := List.length_pos_iff.2 (hp.ne hd)
 have hv1 := itI_some (l := p.l) (i := p.l.length - 1) (by omega)
 have hr1 := hp.g _ (itI_mem (l := p.l) (i := p.l.length - 1) (by omega))
 have ht1 := k.top_ge p.was
 have ht2 := k.top_lt p.was
 obtain ⟨k1, k2, k3, k4, k5, k6⟩ := hk
 obtain ⟨x, hx⟩ : ∃ x : Nat, itI p.l (p.l.length - 1) = x := ⟨(itI p.l (p.l.length - 1)).toNat, by omega⟩
 have e : pushStep k m p = ({ p with at_ := p.at_ + 1 }, m.put (k.links + x) (k.top p.was + 1).toNat) := by
  unfold pushStep; rw [hd]; simp only [Bool.false_eq_true, if_false]; rw [if_neg (by omega), if_neg (by omega), if_pos ha, hx]; rfl
 rw [e] at hok
 rw [hx] at hr1 hv1
 have hI : pushI p = p.l.length - 1 := by unfold pushI; omega
 refine Fx.mk Tryz.func293 k293 nb_ ?_
 dsimp only [c293, kG, kS, kH, kM, kN, kF, kL, envOf, Nat.reduceAdd]
 unfold pushF
 rw [hI]
 refine Cx.rowkey (a := r) fun hxl hc1 hc2 hkr => ?_
 obtain ⟨rg, rfl⟩ : ∃ g, r = some ⟨g, 0, none⟩ := by
  rcases hkr with h | h
  ·omega
  ·exact h
 have hlm : p.l.length ≤ 9223372036854775807 := by unfold maxLen at hc2; omega
 refine go ?_
 refine Cx.ordc rfl kr_ ?_
 refine ge ?_
 rw [w64 (n := (p.l.length : Int) - 1) (by omega) (by omega)]
 refine Ev.pvH kr_ rfl rfl ⟨by omega, by omega⟩ ?_
 refine Ev.ldrH (b := rg) kr_ rfl rfl (v := .int .i64 (x : Nat)) (by rw [show 0 + ((p.l.length : Int) - 1).toNat * 1 = p.l.length - 1 by omega]; exact hv1) ?_
 refine ge ?_
 refine Ev.cakH kr_ rfl rfl (stackTop (sb := sb) (mp := mp) (k := k) p.was hp.w) ?_
 refine ge ?_
 rw [w64 (n := (k.links : Int) + x) (by omega) (by omega), show (k.links : Int) + x = ((k.links + x : Nat) : Int) by omega, wrapS (x := k.top p.was + 1) (by omega) (by omega)]
 refine Ev.caH kr_ rfl rfl (cellsStore (b := mp) (m := m) (k.links + x) (k.top p.was + 1).toNat (by omega) (by omega)) (Pres.deps kr_) ?_
 rintro v L' ⟨rfl, rfl⟩
 refine ge ?_
 refine go ?_
 refine Sx.ca rfl (machGo (b := b)) ?_
 rintro v L' ⟨rfl, rfl⟩
 refine go ?_
 refine Kr.none (.inl rfl) ?_ rfl
 rw [e]
 refine Ent.trans (PushO.close (a := some ⟨b, 0, none⟩) (r := some ⟨rg, 0, none⟩) (sb := sb) (k := k) _ hok ?_ ?_ rfl rfl rfl) ?_
 ·(unfold pushNx pushFn; dsimp only; rw [hd]; (first | rw [if_pos (by omega)] | rw [if_neg (by omega), if_pos (by omega)] | rw [if_neg (by omega), if_neg (by omega), if_pos (by omega)] | rw [if_neg (by omega), if_neg (by omega), if_neg (by omega)]); rfl)
 ·rw [show pushI { p with at_ := p.at_ + 1 } = p.l.length - 1 by unfold pushI; dsimp only; omega]
 ·exact ent
theorem push_cas_ {b sb mp : Nat} {k : Sk} {m : Mm} {p : PushS} {r : Option Addr} {c : Nat} {cnt : Int} (hm : m.ok) (hk : k.ok m.ws.length) (hp : p.ok k) (ha : p.at_ = p.l.length + 1) (hd : p.done = false) :
  Fx Tryz.prog 297 [.pointer (some ⟨b, 0, none⟩)] (pushF b sb mp k m p r c cnt G) (pushR b sb mp k m p G) := by
 have hok := pushStep_ok (k := k) hm hp
 have hlp := List.length_pos_iff.2 (hp.ne hd)
 have hv1 := itI_some (l := p.l) (i := 0) (by omega)
 have hr1 := hp.g _ (itI_mem (l := p.l) (i := 0) (by omega))
 have e : pushStep k m p = ({ p with at_ := p.l.length - 1, done := decide (m.at_ k.head = p.was) }, m.cas k.head p.was (nextW p.was (itI p.l 0))) := by
  unfold pushStep; rw [hd]; simp only [Bool.false_eq_true, if_false]; rw [if_neg (by omega), if_neg (by omega), if_neg (by omega)]
 rw [e] at hok
 have hI : pushI p = p.l.length - 1 := by unfold pushI; omega
 refine Fx.mk Tryz.func297 k297 nb_ ?_
 dsimp only [c297, kG, kS, kH, kM, kN, kF, kL, envOf, Nat.reduceAdd]
 unfold pushF
 rw [hI]
 refine Cx.rowkey (a := r) fun hxl hc1 hc2 hkr => ?_
 obtain ⟨rg, rfl⟩ : ∃ g, r = some ⟨g, 0, none⟩ := by
  rcases hkr with h | h
  ·omega
  ·exact h
 refine go ?_
 refine Cx.ordc rfl kr_ ?_
 refine ge ?_
 refine Ev.ldrH (b := rg) kr_ rfl rfl (v := .int .i64 (itI p.l 0)) hv1 ?_
 refine ge ?_
 refine Ev.caH kr_ rfl rfl (stackExchange (sb := sb) (mp := mp) (k := k) (m := m) p.was (itI p.l 0) hk hp.w (by omega) hr1.2) (Pres.deps kr_) ?_
 rintro v L' ⟨rfl, rfl⟩
 refine ge ?_
 have hI2 : ∀ d, pushI { p with at_ := p.l.length - 1, done := d } = p.l.length - 1 := fun d => by unfold pushI; dsimp only; omega
 refine Cx.ifn rfl (fun h => ?_) (fun h => ?_)
 ·rw [decide_eq_false h] at e hok
  refine go ?_
  refine Sx.ca rfl (machGo (b := b)) ?_
  rintro v L' ⟨rfl, rfl⟩
  refine go ?_
  refine Kr.none (.inl rfl) ?_ rfl
  rw [e]
  refine Ent.trans (PushO.close (a := some ⟨b, 0, none⟩) (r := some ⟨rg, 0, none⟩) (sb := sb) (k := k) _ hok ?_ ?_ rfl rfl rfl) ?_
  ·simp [pushNx, pushFn, show ¬ p.l.length - 1 + 1 < p.l.length by omega, show p.l.length - 1 + 1 = p.l.length by omega]
  ·rw [hI2]
  ·exact ent
 ·rw [decide_eq_true h] at e hok
  refine go ?_
  refine Kr.none (.inl rfl) ?_ rfl
  rw [e]
  refine Ent.trans (PushO.close (a := some ⟨b, 0, none⟩) (r := some ⟨rg, 0, none⟩) (sb := sb) (k := k) _ hok ?_ ?_ rfl rfl rfl) ?_
  ·simp [pushNx]
  ·rw [hI2]
  ·exact ent
theorem pushStepC {b sb mp : Nat} {k : Sk} {m : Mm} {p : PushS} {F1 F2 : St} (hk : k.ok m.ws.length) [tp : Take L (some ⟨b, 0, none⟩) (PushO sb k p) F1] [t : Take F1 (some ⟨mp, 0, none⟩) (MemO m) F2] [s : Take F2 (some ⟨sb, 0, none⟩) (SkO mp k) G] :
  Fx Tryz.prog 229 [.pointer (some ⟨b, 0, none⟩)] L (fun v L' => v = .bool (!p.done) ∧ L' = pt (some ⟨b, 0, none⟩) (PushO sb k (pushStep k m p).1) :: pt (some ⟨mp, 0, none⟩) (MemO (pushStep k m p).2) :: F2) := by
 refine Fx.mk Tryz.func229 k229 nb_ ?_
 dsimp only [c229, kG, kS, kH, kM, kN, kF, kL, envOf, Nat.reduceAdd]
 refine Cx.ent (Ent.trans (Ent.of tp.out) (Ent.cons (Ent.trans (Ent.of t.out) (Ent.cons (Ent.of s.out))))) ?_
 refine Cx.pure (memKey (b := mp) (m := m)) fun hm => ?_
 refine Cx.openp (a := some ⟨b, 0, none⟩) rfl ?_
 rintro ⟨⟨r, c⟩, cnt⟩
 simp only [pushL, List.cons_append, List.nil_append]
 refine Cx.liftp fun hp => ?_
 cases hd : p.done with
 | true =>
   have e : pushStep k m p = (p, m) := by unfold pushStep; rw [hd]; rfl
   rw [e, show pushNx (some ⟨b, 0, none⟩) p = .nilFunc by simp [pushNx, hd]]
   refine go ?_
   refine Sx.ca rfl (machStepDone (b := b)) ?_
   rintro v L' ⟨rfl, rfl⟩
   refine go ?_
   refine Kr.one (.inr rfl) rfl ?_ ⟨rfl, rfl⟩
   refine Ent.trans (PushO.close (a := some ⟨b, 0, none⟩) (r := r) (sb := sb) (k := k) p hp ?_ rfl rfl rfl rfl) (Ent.cons (Ent.cons (Ent.of s.back)))
   simp [pushNx, hd]
 | false =>
   have hcase := hp.a
   rcases (show p.at_ + 1 < p.l.length ∨ p.at_ + 1 = p.l.length ∨ p.at_ = p.l.length ∨ p.at_ = p.l.length + 1 by omega) with ha | ha | ha | ha
   ·rw [show pushNx (some ⟨b, 0, none⟩) p = .func (.func 270) #[.pointer (some ⟨b, 0, none⟩)] #[] by (unfold pushNx pushFn; rw [hd]; (first | rw [if_pos (by omega)] | rw [if_neg (by omega), if_pos (by omega)] | rw [if_neg (by omega), if_neg (by omega), if_pos (by omega)] | rw [if_neg (by omega), if_neg (by omega), if_neg (by omega)]); rfl)]
    refine go ?_
    refine Sx.ca rfl (machStep (b := b) kr_ (push_link_ (G := G) hm.1 hk hp ha hd)) ?_
    rintro v L' ⟨rfl, u, rfl⟩
    refine go ?_
    exact Kr.one (.inr rfl) rfl (Ent.cons (Ent.cons (Ent.of s.back))) ⟨rfl, rfl⟩
   ·rw [show pushNx (some ⟨b, 0, none⟩) p = .func (.func 269) #[.pointer (some ⟨b, 0, none⟩)] #[] by (unfold pushNx pushFn; rw [hd]; (first | rw [if_pos (by omega)] | rw [if_neg (by omega), if_pos (by omega)] | rw [if_neg (by omega), if_neg (by omega), if_pos (by omega)] | rw [if_neg (by omega), if_neg (by omega), if_neg (by omega)]); rfl)]
    refine go ?_
    refine Sx.ca rfl (machStep (b := b) kr_ (push_load_ (G := G) hm.1 hk hp ha hd)) ?_
    rintro v L' ⟨rfl, u, rfl⟩
    refine go ?_
    exact Kr.one (.inr rfl) rfl (Ent.cons (Ent.cons (Ent.of s.back))) ⟨rfl, rfl⟩
   ·rw [show pushNx (some ⟨b, 0, none⟩) p = .func (.func 293) #[.pointer (some ⟨b, 0, none⟩)] #[] by (unfold pushNx pushFn; rw [hd]; (first | rw [if_pos (by omega)] | rw [if_neg (by omega), if_pos (by omega)] | rw [if_neg (by omega), if_neg (by omega), if_pos (by omega)] | rw [if_neg (by omega), if_neg (by omega), if_neg (by omega)]); rfl)]
    refine go ?_
    refine Sx.ca rfl (machStep (b := b) kr_ (push_last_ (G := G) hm.1 hk hp ha hd)) ?_
    rintro v L' ⟨rfl, u, rfl⟩
    refine go ?_
    exact Kr.one (.inr rfl) rfl (Ent.cons (Ent.cons (Ent.of s.back))) ⟨rfl, rfl⟩
   ·rw [show pushNx (some ⟨b, 0, none⟩) p = .func (.func 297) #[.pointer (some ⟨b, 0, none⟩)] #[] by (unfold pushNx pushFn; rw [hd]; (first | rw [if_pos (by omega)] | rw [if_neg (by omega), if_pos (by omega)] | rw [if_neg (by omega), if_neg (by omega), if_pos (by omega)] | rw [if_neg (by omega), if_neg (by omega), if_neg (by omega)]); rfl)]
    refine go ?_
    refine Sx.ca rfl (machStep (b := b) kr_ (push_cas_ (G := G) hm.1 hk hp ha hd)) ?_
    rintro v L' ⟨rfl, u, rfl⟩
    refine go ?_
    exact Kr.one (.inr rfl) rfl (Ent.cons (Ent.cons (Ent.of s.back))) ⟨rfl, rfl⟩
theorem pushDoneC {b sb : Nat} {k : Sk} {p : PushS} {F1 : St} [tp : Take L (some ⟨b, 0, none⟩) (PushO sb k p) F1] : Fx Tryz.prog 230 [.pointer (some ⟨b, 0, none⟩)] L (fun v L' => v = .bool p.done ∧ L = L') := by
 refine Fx.kept (t := tp) ?_
 refine Fx.mk Tryz.func230 k230 nb_ ?_
 dsimp only [c230, kG, kS, kH, kM, kN, kF, kL, envOf, Nat.reduceAdd]
 refine Cx.openp (t := tp) rfl ?_
 rintro ⟨⟨r, c⟩, cnt⟩
 simp only [pushL, List.cons_append, List.nil_append]
 refine Cx.liftp fun hp => ?_
 cases hd : p.done with
 | true =>
   have e : pushNx (some ⟨b, 0, none⟩) p = .nilFunc := by simp [pushNx, hd]
   rw [e]
   refine go ?_
   refine Sx.ca rfl (machDoneYes (b := b)) ?_
   rintro v L' ⟨rfl, rfl⟩
   refine go ?_
   exact Kr.one (.inr rfl) rfl (PushO.close (a := some ⟨b, 0, none⟩) (r := r) (sb := sb) (k := k) p hp e.symm rfl rfl rfl rfl) ⟨rfl, rfl⟩
 | false =>
   have e : pushNx (some ⟨b, 0, none⟩) p = .func (.func (pushFn p)) #[.pointer (some ⟨b, 0, none⟩)] #[] := by simp [pushNx, hd]
   rw [e]
   refine go ?_
   refine Sx.ca rfl (machDoneNo (b := b)) ?_
   rintro v L' ⟨rfl, rfl⟩
   refine go ?_
   exact Kr.one (.inr rfl) rfl (PushO.close (a := some ⟨b, 0, none⟩) (r := r) (sb := sb) (k := k) p hp e.symm rfl rfl rfl rfl) ⟨rfl, rfl⟩
end
end Go.Proofs.YtggnbdeokmdjbaaGreat


namespace Go.Proofs.YtggnbdeokmdjbaaGreat
open Go
attribute [local irreducible] Sx Cx Rx Fx Krg Ksq Kbl Klp Kr
open Classical in
noncomputable def giveInit (k : Sk) (l : List Int) : PushS := if l.Nodup ∧ ∀ x ∈ l, 0 ≤ x ∧ x < k.n then PushS.init l else ⟨l, 0, 0, true⟩
theorem giveInit_yes {k : Sk} {l : List Int} (h : l.Nodup ∧ ∀ x ∈ l, 0 ≤ x ∧ x < k.n) : giveInit k l = PushS.init l := if_pos h
theorem giveInit_no {k : Sk} {l : List Int} (h : ¬ (l.Nodup ∧ ∀ x ∈ l, 0 ≤ x ∧ x < k.n)) : giveInit k l = ⟨l, 0, 0, true⟩ := if_neg h
theorem pushStep_l (k : Sk) (m : Mm) (p : PushS) : (pushStep k m p).1.l = p.l := by
 unfold pushStep
 (repeat' split) <;> rfl
section
variable {L F G : St}
abbrev gvB (b : Nat) (nx n1 n2 n3 : Value) (cnt : Int) (sl : Value) : As := pt (some ⟨b, 0, none⟩) (Blk 256 [nx, n1, n2, n3, .int .i64 cnt, sl])
def giveDL (T : TypeId) (a : Option Addr) (y : Value × Value × Value × Int × Value) : St := [pt a (Blk T [.nilFunc, y.1, y.2.1, y.2.2.1, .int .i64 y.2.2.2.1, y.2.2.2.2])]
def givePL (T : TypeId) (pb : Nat) (k : Sk) (p : PushS) (a : Option Addr) (y : Nat × Int × (Option Addr × Nat)) : St :=
 [pt a (Blk T [.func (.func 238) #[.pointer a] #[], mth 229 y.1, mth 230 y.1, .func (.func 231) #[.pointer a] #[], .int .i64 y.2.1, .slice y.2.2.1 p.l.length y.2.2.2]),
  pt (some ⟨y.1, 0, none⟩) (PushO pb k p), pt y.2.2.1 (Row 3 1 p.l.length y.2.2.2 (ints p.l))]
def GiveT (T : TypeId) (pb : Nat) (k : Sk) (p : PushS) (a : Option Addr) : As := bif p.done then exs (giveDL T a) else exs (givePL T pb k p a)
abbrev GiveO := GiveT 256
theorem GiveO.d {T : TypeId} {pb : Nat} {k : Sk} {p : PushS} {a : Option Addr} (h : p.done = true) : GiveT T pb k p a = exs (giveDL T a) := by unfold GiveT; rw [h]; rfl
theorem GiveO.p {T : TypeId} {pb : Nat} {k : Sk} {p : PushS} {a : Option Addr} (h : p.done = false) : GiveT T pb k p a = exs (givePL T pb k p a) := by unfold GiveT; rw [h]; rfl
theorem GiveO.closeD {b pb : Nat} {k : Sk} (p : PushS) (h : p.done = true) {n1 n2 n3 sl : Value} {cnt : Int} : Ent (gvB b .nilFunc n1 n2 n3 cnt sl :: G) (pt (some ⟨b, 0, none⟩) (GiveO pb k p) :: G) :=
 Ent.close (f := giveDL 256 (some ⟨b, 0, none⟩)) (GiveO.d h) (n1, n2, n3, cnt, sl)
theorem GiveO.closeP {b pb g : Nat} {k : Sk} {r : Option Addr} {c n : Nat} {vs : List Value} {q : PushS} (p : PushS) (h : p.done = false) {cnt : Int} (hq : q = p) (hn : n = p.l.length) (hv : vs = ints p.l) :
  Ent (gvB b (mth 238 b) (mth 229 g) (mth 230 g) (mth 231 b) cnt (.slice r n c) :: pt (some ⟨g, 0, none⟩) (PushO pb k q) :: pt r (Row 3 1 n c vs) :: G) (pt (some ⟨b, 0, none⟩) (GiveO pb k p) :: G) := by
 subst hq; subst hn; subst hv
 exact Ent.close (f := givePL 256 pb k q (some ⟨b, 0, none⟩)) (GiveO.p h) (g, cnt, r, c)
theorem giveEnd {v : Value} : Fx Tryz.prog 231 [v] L (fun v L' => v = .tuple #[] ∧ L = L') := by
 refine Fx.mk Tryz.func231 k231 nb_ ?_
 dsimp only [c231, kG, kS, kH, kM, kN, kF, kL, envOf, Nat.reduceAdd]
 refine Cx.sk ?_
 exact Kr.none (.inl rfl) (Ent.refl _) ⟨rfl, rfl⟩
theorem supGive {u mp pb : Nat} {x : Cn} {s : SupS} {l : List Int} {r : Option Addr} {n c : Nat} {F : St} (hl : n = l.length) (hn : n ≤ 1000000000) [t : Take L (some ⟨u, 0, none⟩) (SupO mp pb x s) F] [tr : Take F r (Row 3 1 n c (ints l)) G] {F3 : St} [tb : Take G (some ⟨pb, 0, none⟩) (SkO mp x.pool) F3] :
  Fx Tryz.prog 168 [.pointer (some ⟨u, 0, none⟩), .slice r n c] L (fun v L' => ∃ b, v = .pointer (some ⟨b, 0, none⟩) ∧ L' = pt (some ⟨b, 0, none⟩) (GiveO pb x.pool (giveInit x.pool l)) :: pt (some ⟨u, 0, none⟩) (SupO mp pb x s) :: G) := by
 subst hl
 refine Fx.mk Tryz.func168 k168 nb_ ?_
 dsimp only [c168, kG, kS, kH, kM, kN, kF, kL, envOf, Nat.reduceAdd]
 refine Cx.ent (Ent.trans (Ent.of t.out) (Ent.cons (Ent.of tr.out))) ?_
 refine Cx.openp (a := some ⟨u, 0, none⟩) rfl ?_
 rintro ⟨sh, lm⟩
 simp only [supL, List.cons_append, List.nil_append]
 refine Cx.rowkey (a := r) fun hxl hc1 _ hkr => ?_
 refine go ?_
 refine Sx.bx rfl rfl fun b => ?_
 refine go ?_
 refine Sx.ca rfl (stackPush (sb := pb) (mp := mp) (k := x.pool) (l := l) (Rd.any (a := r) hxl (hkr.imp (fun h => h.2.1) id)) hc1 hn) ?_
 rintro v L' (⟨hno, rfl, rfl⟩ | ⟨hyes, g, rfl, rfl⟩)
 ·rw [giveInit_no hno]
  refine go ?_
  refine Kr.one (.inr rfl) rfl ?_ ⟨b, rfl, rfl⟩
  refine Ent.trans (GiveO.closeD ⟨l, 0, 0, true⟩ rfl) (Ent.cons ?_)
  refine Ent.trans (SupO.close (a := some ⟨u, 0, none⟩) (sh := sh) (lm := lm) (mp := mp) (pb := pb) (x := x) s rfl rfl rfl) (Ent.cons ?_)
  exact ent
 ·rw [giveInit_yes hyes]
  refine go ?_
  by_cases hl0 : l = []
  ·have hd : (PushS.init l).done = true := by simp [PushS.init, hl0]
   refine Sx.ca rfl (machThrough (b := b) (machOnYes (b := b) kr_ ((pushDoneC (b := g) (sb := pb) (k := x.pool) (p := PushS.init l)).mono (by rintro v L' ⟨rfl, rfl⟩; exact ⟨by rw [hd], rfl⟩)) kr_ giveEnd)) ?_
   rintro v L' ⟨rfl, w, rfl, w2, rfl, rfl⟩
   refine go ?_
   refine Kr.one (.inr rfl) rfl ?_ ⟨b, rfl, rfl⟩
   refine Ent.trans (GiveO.closeD (PushS.init l) hd) (Ent.cons ?_)
   refine Ent.trans Ent.drop ?_
   refine Ent.trans (SupO.close (a := some ⟨u, 0, none⟩) (sh := sh) (lm := lm) (mp := mp) (pb := pb) (x := x) s rfl rfl rfl) (Ent.cons ?_)
   exact ent
  ·have hd : (PushS.init l).done = false := by simp [PushS.init, hl0]
   refine Sx.ca rfl (machThrough (b := b) (machOnNo (b := b) kr_ ((pushDoneC (b := g) (sb := pb) (k := x.pool) (p := PushS.init l)).mono (by rintro v L' ⟨rfl, rfl⟩; exact ⟨by rw [hd], rfl⟩)))) ?_
   rintro v L' ⟨rfl, w, rfl, rfl⟩
   refine go ?_
   refine Kr.one (.inr rfl) rfl ?_ ⟨b, rfl, rfl⟩
   refine Ent.trans (Ent.cons (Ent.cons (Ent.take (a := r)))) ?_
   refine Ent.trans (GiveO.closeP (PushS.init l) hd rfl rfl rfl) (Ent.cons ?_)
   refine Ent.trans (SupO.close (a := some ⟨u, 0, none⟩) (sh := sh) (lm := lm) (mp := mp) (pb := pb) (x := x) s rfl rfl rfl) (Ent.cons ?_)
   exact ent
theorem supAll {u mp pb : Nat} {x : Cn} {s : SupS} {F : St} (hn : s.xs.length ≤ 1000000000) [t : Take L (some ⟨u, 0, none⟩) (SupO mp pb x s) F] {F3 : St} [tb : Take F (some ⟨pb, 0, none⟩) (SkO mp x.pool) F3] :
  Fx Tryz.prog 77 [.pointer (some ⟨u, 0, none⟩)] L (fun v L' => ∃ b, v = .pointer (some ⟨b, 0, none⟩) ∧ L' = pt (some ⟨b, 0, none⟩) (GiveO pb x.pool (giveInit x.pool s.xs)) :: pt (some ⟨u, 0, none⟩) (SupO mp pb x { s with xs := [] }) :: F) := by
 refine Fx.mk Tryz.func77 k77 nb_ ?_
 dsimp only [c77, kG, kS, kH, kM, kN, kF, kL, envOf, Nat.reduceAdd]
 refine Cx.ent (Ent.of t.out) ?_
 refine Cx.openp (a := some ⟨u, 0, none⟩) rfl ?_
 rintro ⟨sh, lm⟩
 simp only [supL, List.cons_append, List.nil_append]
 refine go ?_
 refine Sx.ca rfl (stashAll (b := sh) (most := s.most) (xs := s.xs) hn) ?_
 rintro v L' ⟨r, c, rfl, rfl⟩
 refine Sx.ent (Ent.trans (Ent.cons (SupO.close (a := some ⟨u, 0, none⟩) (sh := sh) (lm := lm) (mp := mp) (pb := pb) (x := x) { s with xs := [] } rfl rfl rfl)) Ent.swap) ?_
 refine go ?_
 refine Sx.ca rfl (supGive (u := u) (mp := mp) (pb := pb) (x := x) (s := { s with xs := [] }) (l := s.xs) (r := r) rfl hn) ?_
 rintro v L' ⟨b, rfl, rfl⟩
 refine go ?_
 exact Kr.one (.inr rfl) rfl (Ent.refl _) ⟨b, rfl, rfl⟩
theorem giveStep {b mp pb : Nat} {k : Sk} {m : Mm} {p : PushS} {F1 F2 : St} (hk : k.ok m.ws.length) [t1 : Take L (some ⟨b, 0, none⟩) (GiveO pb k p) F1] [t2 : Take F1 (some ⟨mp, 0, none⟩) (MemO m) F2] [t3 : Take F2 (some ⟨pb, 0, none⟩) (SkO mp k) G] :
  Fx Tryz.prog 71 [.pointer (some ⟨b, 0, none⟩)] L (fun v L' => v = .bool (!p.done) ∧ L' = pt (some ⟨b, 0, none⟩) (GiveO pb k (pushStep k m p).1) :: pt (some ⟨mp, 0, none⟩) (MemO (pushStep k m p).2) :: F2) := by
 refine Fx.mk Tryz.func71 k71 nb_ ?_
 dsimp only [c71, kG, kS, kH, kM, kN, kF, kL, envOf, Nat.reduceAdd]
 refine Cx.ent (Ent.trans (Ent.of t1.out) (Ent.cons (Ent.trans (Ent.of t2.out) (Ent.cons (Ent.of t3.out))))) ?_
 cases hd : p.done with
 | true =>
   have e : pushStep k m p = (p, m) := by unfold pushStep; rw [hd]; rfl
   rw [e]
   refine Cx.openp (a := some ⟨b, 0, none⟩) (GiveO.d hd) ?_
   rintro ⟨n1, n2, n3, cnt, sl⟩
   simp only [giveDL, List.cons_append, List.nil_append]
   refine go ?_
   refine Sx.ca rfl (machStepDone (b := b)) ?_
   rintro v L' ⟨rfl, rfl⟩
   refine go ?_
   exact Kr.one (.inr rfl) rfl (Ent.trans (GiveO.closeD p hd) (Ent.cons (Ent.cons (Ent.of t3.back)))) ⟨rfl, rfl⟩
 | false =>
   refine Cx.openp (a := some ⟨b, 0, none⟩) (GiveO.p hd) ?_
   rintro ⟨g, cnt, r, c⟩
   simp only [givePL, List.cons_append, List.nil_append]
   have hpl := pushStep_l k m p
   cases hq : (pushStep k m p).1.done with
   | true =>
     refine go ?_
     refine Sx.ca rfl (machStep (b := b) kr_ (machGoes (b := b) kr_ (pushStepC (b := g) (mp := mp) (sb := pb) (k := k) (m := m) (p := p) hk) (R2 := fun v L' => v = .tuple #[] ∧ ∃ w : Value, w = .tuple #[] ∧ pt (some ⟨g, 0, none⟩) (PushO pb k (pushStep k m p).1) :: pt (some ⟨mp, 0, none⟩) (MemO (pushStep k m p).2) :: gvB b .nilFunc (mth 229 g) (mth 230 g) (mth 231 b) (IntKind.i64.wrap (cnt + 1)) (.slice r p.l.length c) :: pt r (Row 3 1 p.l.length c (ints p.l)) :: pt (some ⟨pb, 0, none⟩) (SkO mp k) :: G = L') ?_)) ?_
     ·rintro v L1 ⟨rfl, rfl⟩
      exact machOnYes (b := b) kr_ ((pushDoneC (b := g) (sb := pb) (k := k) (p := (pushStep k m p).1)).mono (by rintro v L' ⟨rfl, rfl⟩; exact ⟨by rw [hq], rfl⟩)) kr_ giveEnd
     ·rintro v L' ⟨rfl, w, rfl, w2, _, w3, _, rfl⟩
      refine go ?_
      refine Kr.one (.inr rfl) rfl ?_ ⟨rfl, rfl⟩
      refine Ent.trans (Ent.take (a := some ⟨b, 0, none⟩)) ?_
      refine Ent.trans (GiveO.closeD (pushStep k m p).1 hq) (Ent.cons ?_)
      refine Ent.trans (Ent.take (a := some ⟨mp, 0, none⟩)) (Ent.cons ?_)
      refine Ent.trans ?_ (Ent.of t3.back)
      exact ent
   | false =>
     refine go ?_
     refine Sx.ca rfl (machStep (b := b) kr_ (machGoes (b := b) kr_ (pushStepC (b := g) (mp := mp) (sb := pb) (k := k) (m := m) (p := p) hk) (R2 := fun v L' => v = .tuple #[] ∧ L' = gvB b (mth 238 b) (mth 229 g) (mth 230 g) (mth 231 b) (IntKind.i64.wrap (cnt + 1)) (.slice r p.l.length c) ::
       pt (some ⟨g, 0, none⟩) (PushO pb k (pushStep k m p).1) :: pt (some ⟨mp, 0, none⟩) (MemO (pushStep k m p).2) :: pt r (Row 3 1 p.l.length c (ints p.l)) :: pt (some ⟨pb, 0, none⟩) (SkO mp k) :: G) ?_)) ?_
     ·rintro v L1 ⟨rfl, rfl⟩
      refine (machOnNo (b := b) kr_ ((pushDoneC (b := g) (sb := pb) (k := k) (p := (pushStep k m p).1)).mono (by rintro v L' ⟨rfl, rfl⟩; exact ⟨by rw [hq], rfl⟩))).mono ?_
      rintro v L' ⟨rfl, rfl⟩
      exact ⟨rfl, rfl⟩
     ·rintro v L' ⟨rfl, w, _, w2, _, rfl⟩
      refine go ?_
      refine Kr.one (.inr rfl) rfl ?_ ⟨rfl, rfl⟩
      refine Ent.trans (Ent.cons (Ent.cons (Ent.take (a := r)))) ?_
      refine Ent.trans (GiveO.closeP (pushStep k m p).1 hq rfl (by rw [hpl]) (by rw [hpl])) (Ent.cons ?_)
      refine Ent.cons ?_
      exact Ent.of t3.back
theorem giveDone {b pb : Nat} {k : Sk} {p : PushS} {F1 : St} [t1 : Take L (some ⟨b, 0, none⟩) (GiveO pb k p) F1] : Fx Tryz.prog 166 [.pointer (some ⟨b, 0, none⟩)] L (fun v L' => v = .bool p.done ∧ L = L') := by
 refine Fx.kept (t := t1) ?_
 refine Fx.mk Tryz.func166 k166 nb_ ?_
 dsimp only [c166, kG, kS, kH, kM, kN, kF, kL, envOf, Nat.reduceAdd]
 refine Cx.ent (Ent.of t1.out) ?_
 cases hd : p.done with
 | true =>
   refine Cx.openp (a := some ⟨b, 0, none⟩) (GiveO.d hd) ?_
   rintro ⟨n1, n2, n3, cnt, sl⟩
   simp only [giveDL, List.cons_append, List.nil_append]
   refine go ?_
   refine Sx.ca rfl (machDoneYes (b := b)) ?_
   rintro v L' ⟨rfl, rfl⟩
   refine go ?_
   exact Kr.one (.inr rfl) rfl (GiveO.closeD p hd) ⟨rfl, rfl⟩
 | false =>
   refine Cx.openp (a := some ⟨b, 0, none⟩) (GiveO.p hd) ?_
   rintro ⟨g, cnt, r, c⟩
   simp only [givePL, List.cons_append, List.nil_append]
   refine go ?_
   refine Sx.ca rfl (machDoneNo (b := b)) ?_
   rintro v L' ⟨rfl, rfl⟩
   refine go ?_
   exact Kr.one (.inr rfl) rfl (GiveO.closeP p hd rfl rfl rfl) ⟨rfl, rfl⟩
end
end Go.Proofs.YtggnbdeokmdjbaaGreat


namespace Go.Proofs.YtggnbdeokmdjbaaGreat
def Lm.all (m : Lm) : List Int := m.x0 ++ (m.x1 ++ m.x2)
theorem all_len (m : Lm) : m.all.length = m.size := by unfold Lm.all Lm.size; simp only [List.length_append]; omega
theorem all_ready (now : Int) (m : Lm) (y : Int) : (readyAll now m).1.count y + (readyAll now m).2.all.count y = m.all.count y := by
 by_cases h : 2 ≤ now
 ·obtain ⟨h1, h2⟩ := readyAll_spec (m := m) h
  rw [h1, h2.count_eq]
  unfold Lm.all closeAll opened
  simp only [List.count_append]
  split <;> split <;> split <;> simp <;> omega
 ·unfold readyAll
  rw [if_neg h]
  exact Nat.zero_add _
theorem all_retire (m : Lm) (tag : Int) (ys : List Int) (y : Int) : (retireM m tag ys).all.count y + (outM m tag).count y = m.all.count y + ys.count y := by
 have hlt : bucketOf tag < 3 := Nat.mod_lt _ (by omega)
 unfold retireM outM
 generalize bucketOf tag = q at *
 rcases (show q = 0 ∨ q = 1 ∨ q = 2 by omega) with rfl | rfl | rfl <;> simp only [Lm.put, Lm.all, Lm.items, Lm.tag, List.count_append] <;> split <;> simp <;> omega
theorem count_dropLast {l : List Int} (h : l ≠ []) (y : Int) : l.dropLast.count y + [lastI l].count y = l.count y := by
 have e : l.dropLast ++ [lastI l] = l := by
  have := List.dropLast_concat_getLast h
  have e2 : lastI l = l.getLast h := by unfold lastI; rw [List.getLastD_eq_getLast?, List.getLast?_eq_some_getLast h]; rfl
  rw [e2]; exact this
 rw [← List.count_append, e]
structure Sw where
 s : SupS
 l : List Int
 tag : Int
 k : Nat
 t : TakeS
 g : PushS
def Sw.own (w : Sw) : List Int := w.s.xs ++ (w.s.lm.all ++ (w.l ++ (if w.k = 2 then w.g.l else [])))
structure SwI (x : Cn) (m : Mm) (P : List Int) (w : Sw) : Prop where
 m0 : 0 ≤ w.s.most
 m2 : w.s.most ≤ 64
 k : w.k ≤ 2
 tk : w.k = 1 → w.t.done = false ∧ w.t.chunk = 0 ∧ w.t.is_ = false ∧ (w.t.at_ = 0 ∨ (w.t.at_ = 1 ∧ w.t.q.ok x.pool ∧ w.t.q.done = false ∧ PopH x.pool m P w.t.q))
 gv : w.k = 2 → w.g.ok x.pool ∧ w.g.done = false ∧ PushH x.pool m w.g
def updG {α : Type} (f : Nat → α) (i : Nat) (v : α) : Nat → α := fun j => if j = i then v else f j
theorem updG_at {α : Type} (f : Nat → α) (i : Nat) (v : α) : updG f i v i = v := if_pos rfl
theorem updG_ne {α : Type} {f : Nat → α} {i j : Nat} {v : α} (h : j ≠ i) : updG f i v j = f j := if_neg h
def ownC (ws : Nat → Sw) (y : Int) : Nat := (ws 0).own.count y + (ws 1).own.count y + (ws 2).own.count y
structure SpI (x : Cn) (m : Mm) (ws : Nat → Sw) (P : List Int) (T : Nat) : Prop where
 len : m.ws.length = x.len
 ok : m.ok
 pool : Pool x.pool m P
 tag : hdT (m.at_ x.pool.head) ≤ T + 10
 one : ∀ y, P.count y + ownC ws y ≤ 1
 rng : ∀ y, 0 < P.count y + ownC ws y → 0 ≤ y ∧ y < (x.c : Int)
 wk : ∀ i, i < 3 → SwI x m P (ws i)
section
variable {x : Cn} {T i : Nat} {m m' : Mm} {ws : Nat → Sw} {P P' : List Int} {w' : Sw}
theorem Cn.link3 (x : Cn) : 3 ≤ x.link := by unfold Cn.link; omega
def takeN (x : Cn) (w : Sw) : Sw := if (takeInit x.ba w.s).2.done then { w with s := (takeInit x.ba w.s).1, l := w.l ++ [(takeInit x.ba w.s).2.chunk], k := 0, t := (takeInit x.ba w.s).2 } else { w with s := (takeInit x.ba w.s).1, k := 1, t := (takeInit x.ba w.s).2 }
theorem own_kept {w : Sw} {t : TakeS} {g : PushS} (h : w.s.xs ≠ []) (hk : w.k ≠ 2) (y : Int) : (Sw.own ⟨w.s.kept, w.l ++ [lastI w.s.xs], w.tag, 0, t, g⟩).count y = w.own.count y := by
 have := count_dropLast h y
 unfold Sw.own SupS.kept
 rw [if_neg hk]
 simp only [List.count_append, List.append_nil]
 rw [if_neg (by decide)]
 simp only [List.count_append, List.count_nil]
 omega
def takeG (x : Cn) (m : Mm) (w : Sw) : Sw := if (takeStep x.pool x.ba m w.s w.t).2.2.done then { w with s := (takeStep x.pool x.ba m w.s w.t).2.1, l := if (takeStep x.pool x.ba m w.s w.t).2.2.is_ then w.l ++ [(takeStep x.pool x.ba m w.s w.t).2.2.chunk] else w.l, k := 0, t := (takeStep x.pool x.ba m w.s w.t).2.2 }
 else { w with s := (takeStep x.pool x.ba m w.s w.t).2.1, t := (takeStep x.pool x.ba m w.s w.t).2.2 }
theorem own_ready {w : Sw} (now : Int) (y : Int) : (Sw.own { w with s := w.s.ready now }).count y = w.own.count y := by
 have := all_ready now w.s.lm y
 unfold Sw.own SupS.ready
 simp only [List.count_append]
 omega
noncomputable def giveN (x : Cn) (q : Nat) (w : Sw) : Sw := if (giveInit x.pool (w.s.xs.take q)).done then { w with s := { w.s with xs := w.s.xs.drop q }, k := 0, g := giveInit x.pool (w.s.xs.take q) } else { w with s := { w.s with xs := w.s.xs.drop q }, k := 2, g := giveInit x.pool (w.s.xs.take q) }
def giveG (x : Cn) (m : Mm) (w : Sw) : Sw := { w with k := if (pushStep x.pool m w.g).1.done then 0 else 2, g := (pushStep x.pool m w.g).1 }
end
end Go.Proofs.YtggnbdeokmdjbaaGreat


namespace Go.Proofs.YtggnbdeokmdjbaaGreat
open Go
attribute [local irreducible] Sx Cx Rx Fx Krg Ksq Kbl Klp Kr
section
variable {L F G : St}
def poolM (x : Cn) : Mm := fillM x.pool (zeroM x)
theorem poolM_len (x : Cn) : (poolM x).ws.length = x.len := by unfold poolM; rw [fillM_len, zeroM_len]
end
end Go.Proofs.YtggnbdeokmdjbaaGreat


namespace Go.Proofs.YtggnbdeokmdjbaaGreat
open Go
attribute [local irreducible] Sx Cx Rx Fx Krg Ksq Kbl Klp Kr
theorem ints_last {l : List Int} (h : l ≠ []) : (ints l)[l.length - 1]? = some (.int .i64 (lastI l)) := by
 unfold ints lastI
 rw [List.getElem?_map, List.getLastD_eq_getLast?, ← List.getLast?_eq_getElem?, List.getLast?_eq_some_getLast h]
 rfl
section
variable {L F G : St}
def rpopL (T : TypeId) (sb : Nat) (q : PopS) (a : Option Addr) (y : Option Addr × Nat) : St :=
 [pt a (Blk T [.pointer (some ⟨sb, 0, none⟩), .int .i64 q.most, .int .i64 (q.at_ : Nat), .int .i64 q.under, wd q.was, .slice y.1 q.got.length y.2, .bool q.done]), pt y.1 (Row 3 1 q.got.length y.2 (ints q.got))]
def RPopT (T : TypeId) (sb : Nat) (q : PopS) (a : Option Addr) : As := exs (rpopL T sb q a)
abbrev RPopO := RPopT 254
theorem RPopO.close {T : TypeId} {sb : Nat} {a r : Option Addr} {c n : Nat} {v0 v1 v2 v3 v4 v6 : Value} {w : List Value} {F G : St} (q : PopS) [t : Take L a (Blk T [v0, v1, v2, v3, v4, .slice r n c, v6]) F] [u : Take F r (Row 3 1 n c w) G]
  (h0 : v0 = .pointer (some ⟨sb, 0, none⟩)) (h1 : v1 = .int .i64 q.most) (h2 : v2 = .int .i64 (q.at_ : Nat)) (h3 : v3 = .int .i64 q.under) (h4 : v4 = wd q.was) (h5 : n = q.got.length) (h6 : v6 = .bool q.done) (hw : w = ints q.got) : Ent L (pt a (RPopT T sb q) :: G) := by
 subst h0 h1 h2 h3 h4 h5 h6 hw
 refine Ent.trans (Ent.take1 (t := t) (Ent.of u.out)) ?_
 exact Ent.close (f := rpopL T sb q a) rfl (r, c)
theorem refPopNew {sb rm : Nat} {k : Sk} (most : Int) [t : Take L (some ⟨sb, 0, none⟩) (RSkO rm k) F] :
  Fx Tryz.prog 196 [.pointer (some ⟨sb, 0, none⟩), .int .i64 most] L (fun v L' => ∃ b, v = .pointer (some ⟨b, 0, none⟩) ∧ L' = pt (some ⟨b, 0, none⟩) (RPopO sb (PopS.init most)) :: L) := by
 refine Fx.mk Tryz.func196 k196 nb_ ?_
 dsimp only [c196, kG, kS, kH, kM, kN, kF, kL, envOf, Nat.reduceAdd]
 refine go ?_
 refine Sx.bx rfl rfl fun b => ?_
 refine go ?_
 refine Kr.one (.inr rfl) rfl ?_ ⟨b, rfl, rfl⟩
 refine Ent.trans (Ent.rownil 3 1) ?_
 refine RPopO.close (a := some ⟨b, 0, none⟩) (r := none) (PopS.init most) rfl (congrArg (Value.int .i64) ?_) rfl rfl rfl rfl rfl rfl
 simp only [PopS.init, cond_true, cond_false]
 (repeat' split) <;> omega
set_option maxHeartbeats 1000000 in
theorem refPopStep {b sb rm : Nat} {k : Sk} {m : Mm} {q : PopS} {F1 F2 : St} (hk : k.ok m.ws.length) (hq : q.ok k) [t1 : Take L (some ⟨b, 0, none⟩) (RPopO sb q) F1] [t2 : Take F1 (some ⟨rm, 0, none⟩) (RMemO m) F2] [t3 : Take F2 (some ⟨sb, 0, none⟩) (RSkO rm k) G] :
  Fx Tryz.prog 164 [.pointer (some ⟨b, 0, none⟩)] L (fun v L' => v = .bool (!q.done) ∧ L' = pt (some ⟨b, 0, none⟩) (RPopO sb (popStep k m q).1) :: pt (some ⟨rm, 0, none⟩) (RMemO (popStep k m q).2) :: F2) := by
 obtain ⟨k1, k2, k3, k4, k5, k6⟩ := hk
 refine Fx.mk Tryz.func164 k164 nb_ ?_
 dsimp only [c164, kG, kS, kH, kM, kN, kF, kL, envOf, Nat.reduceAdd]
 refine Cx.ent (Ent.trans (Ent.of t1.out) (Ent.cons (Ent.trans (Ent.of t2.out) (Ent.cons (Ent.of t3.out))))) ?_
 refine Cx.pure (rmemKey (rm := rm) (m := m)) fun hm => ?_
 refine Cx.openp (a := some ⟨b, 0, none⟩) rfl ?_
 rintro ⟨r, c⟩
 simp only [rpopL, List.cons_append, List.nil_append]
 cases hd : q.done with
 | true =>
   have e1 : popStep k m q = (q, m) := by unfold popStep; rw [hd]; rfl
   rw [e1]
   refine go ?_
   refine Kr.one (.inr rfl) rfl (Ent.trans (RPopO.close (sb := sb) (a := some ⟨b, 0, none⟩) (r := r) q rfl rfl rfl rfl rfl rfl (by rw [hd]) rfl) (Ent.cons (Ent.cons (Ent.of t3.back)))) ⟨rfl, rfl⟩
 | false =>
   have ha := hq.a
   rcases (show q.at_ = 0 ∨ q.at_ = 1 ∨ q.at_ = 2 by omega) with h0 | h0 | h0
   ·have hwl := Mm.at_lt hm.1 k.head
    rw [h0]
    refine go ?_
    refine Cx.ordc rfl kr_ ?_
    refine ge ?_
    refine Ev.caH kr_ rfl rfl (refLoad (rm := rm) (m := m) k.head k3) (Pres.deps kr_) ?_
    rintro v L' ⟨rfl, rfl⟩
    refine ge ?_
    refine Ev.stbH (b := b) kr_ rfl rfl rfl rfl rfl (by rfl) rfl (Pres.deps kr_) ?_
    refine ge ?_
    refine go ?_
    refine Sx.ca rfl (refTop (sb := sb) (rm := rm) (k := k) (m.at_ k.head) hwl) ?_
    rintro v L' ⟨rfl, rfl⟩
    refine go ?_
    refine Cx.ifp rfl (fun h => ?_) (fun h => ?_)
    ·have e1 : popStep k m q = ({ q with was := m.at_ k.head, got := [], done := true }, m.tick) := by unfold popStep; rw [hd, h0]; simp only [Bool.false_eq_true, if_false]; rw [if_neg (by omega)]
     rw [e1]
     refine go ?_
     refine Kr.one (.inr rfl) rfl ?_ ⟨rfl, rfl⟩
     refine Ent.trans (Ent.rownil 3 1) ?_
     refine Ent.trans (RPopO.close (sb := sb) (a := some ⟨b, 0, none⟩) (r := none) { q with was := m.at_ k.head, got := [], done := true } rfl rfl (by rw [h0]) rfl rfl rfl rfl rfl) ?_
     refine Ent.cons ?_
     refine Ent.trans ?_ (Ent.cons (Ent.of t3.back))
     exact ent
    ·have e1 : popStep k m q = ({ q with was := m.at_ k.head, got := [k.top (m.at_ k.head)], at_ := 1 }, m.tick) := by unfold popStep; rw [hd, h0]; simp only [Bool.false_eq_true, if_false]; rw [if_pos (by omega)]
     rw [e1]
     refine go ?_
     refine Sx.bs (sz := 1) rfl rfl fun g => ?_
     refine go ?_
     refine Sx.apn rfl rfl (Rd.row (b := g) (E := 3) (cap := 1) rfl) rfl (by simp [maxLen]) (by omega) fun r' c' hc => ?_
     refine go ?_
     refine Kr.one (.inr rfl) rfl ?_ ⟨rfl, rfl⟩
     refine Ent.trans (RPopO.close (sb := sb) (a := some ⟨b, 0, none⟩) (r := r') { q with was := m.at_ k.head, got := [k.top (m.at_ k.head)], at_ := 1 } rfl rfl rfl rfl rfl rfl (by rw [hd]) rfl) ?_
     refine Ent.cons ?_
     refine Ent.trans ?_ (Ent.cons (Ent.of t3.back))
     exact ent
   ·have hne := hq.ne hd (by omega)
    have hlp := List.length_pos_iff.2 hne
    have hlen8 := hq.len
    have hlast := hq.g _ (lastI_mem hne)
    have hm8 := hq.m2
    have hwl := Mm.at_lt hm.1 (k.links + (lastI q.got).toNat)
    obtain ⟨bl, hbl⟩ : ∃ bl, k.below (m.at_ (k.links + (lastI q.got).toNat)) = bl := ⟨_, rfl⟩
    have hbl1 : -1 ≤ bl := hbl ▸ k.below_ge _
    have hbl2 : bl < k.n := hbl ▸ k.below_lt _
    refine Cx.rowkey (a := r) fun hx0 hn0 hc0 hk1 => ?_
    obtain ⟨rg, rfl⟩ := row_some hlp (hk1.imp (fun h => ⟨h.1, h.2.1, h.2.2⟩) id)
    rw [h0]
    refine go ?_
    refine Cx.ordc rfl kr_ ?_
    refine ge ?_
    rw [w64 (n := (q.got.length : Int) - 1) (by omega) (by omega)]
    refine ge ?_
    refine Ev.ldrH (b := rg) (v := .int .i64 (lastI q.got)) kr_ rfl rfl (by rw [show 0 + ((q.got.length : Int) - 1).toNat * 1 = q.got.length - 1 by omega]; exact ints_last hne) ?_
    refine ge ?_
    rw [w64 (n := (k.links : Int) + lastI q.got) (by omega) (by omega), show (k.links : Int) + lastI q.got = ((k.links + (lastI q.got).toNat : Nat) : Int) by omega]
    refine Ev.caH kr_ rfl rfl (refLoad (rm := rm) (m := m) (k.links + (lastI q.got).toNat) (by omega)) (Pres.deps kr_) ?_
    rintro v L' ⟨rfl, rfl⟩
    refine ge ?_
    refine Ev.cakH kr_ rfl rfl (refBelow (sb := sb) (rm := rm) (k := k) _ hwl k2) ?_
    rw [hbl]
    refine ge ?_
    refine Ev.stbH (b := b) kr_ rfl rfl rfl rfl rfl (by rfl) rfl (Pres.deps kr_) ?_
    refine ge ?_
    refine Cx.sq ?_
    refine Cx.ordc rfl kr_ ?_
    refine ge ?_
    by_cases hb0 : 0 ≤ bl
    ·refine Ev.yes 120 rfl (decide_eq_true hb0) ?_
     refine ge ?_
     refine Cx.ifp rfl (fun h => ?_) (fun h => ?_)
     ·have e1 : popStep k m q = ({ q with under := bl, got := q.got ++ [bl] }, m.tick) := by unfold popStep; rw [hd, h0]; simp only [Bool.false_eq_true, if_false, hbl]; rw [if_pos ⟨hb0, h⟩]
      rw [e1]
      refine go ?_
      refine Cx.orde rfl kr_ ?_
      refine ge ?_
      refine Ev.bsH (sz := 1) kr_ rfl rfl rfl (.dep rfl (.keep (fun v L' ⟨_, _, e⟩ => by subst e; exact Has.cell rfl) .nil)) fun g => ?_
      refine ge ?_
      refine Ev.apH (ra := some ⟨rg, 0, none⟩) kr_ rfl rfl rfl (Rd.row (b := g) (E := 3) (cap := 1) rfl) rfl (by simp [maxLen]; omega) (by omega) (Pres.deps kr_) fun r' c' hc hk2 => ?_
      refine ge ?_
      refine Ev.stbH (b := b) kr_ rfl rfl rfl rfl rfl (by rfl) rfl (Pres.deps kr_) ?_
      refine ge ?_
      refine go ?_
      refine Kr.one (.inr rfl) rfl ?_ ⟨rfl, rfl⟩
      refine Ent.trans (RPopO.close (sb := sb) (a := some ⟨b, 0, none⟩) (r := r') { q with under := bl, got := q.got ++ [bl] } rfl rfl (by rw [h0]) rfl rfl (by simp) (by rw [hd]) (by simp [ints, lay])) ?_
      refine Ent.cons ?_
      refine Ent.trans ?_ (Ent.cons (Ent.of t3.back))
      exact ent
     ·have e1 : popStep k m q = ({ q with under := bl, at_ := 2 }, m.tick) := by unfold popStep; rw [hd, h0]; simp only [Bool.false_eq_true, if_false, hbl]; rw [if_neg (fun hh => h hh.2)]
      rw [e1]
      refine go ?_
      refine Kr.one (.inr rfl) rfl ?_ ⟨rfl, rfl⟩
      refine Ent.trans (RPopO.close (sb := sb) (a := some ⟨b, 0, none⟩) (r := some ⟨rg, 0, none⟩) { q with under := bl, at_ := 2 } rfl rfl rfl rfl rfl rfl (by rw [hd]) rfl) ?_
      refine Ent.cons ?_
      refine Ent.trans ?_ (Ent.cons (Ent.of t3.back))
      exact ent
    ·refine Ev.no 120 rfl (decide_eq_false hb0) ?_
     have e1 : popStep k m q = ({ q with under := bl, at_ := 2 }, m.tick) := by unfold popStep; rw [hd, h0]; simp only [Bool.false_eq_true, if_false, hbl]; rw [if_neg (fun hh => hb0 hh.1)]
     rw [e1]
     refine ge ?_
     refine go ?_
     refine Kr.one (.inr rfl) rfl ?_ ⟨rfl, rfl⟩
     refine Ent.trans (RPopO.close (sb := sb) (a := some ⟨b, 0, none⟩) (r := some ⟨rg, 0, none⟩) { q with under := bl, at_ := 2 } rfl rfl rfl rfl rfl rfl (by rw [hd]) rfl) ?_
     refine Ent.cons ?_
     refine Ent.trans ?_ (Ent.cons (Ent.of t3.back))
     exact ent
   ·have hu1 := hq.u1
    have hu2 := hq.u2
    have hw := hq.w
    have hnw := nextW_lt (i := q.under) hw (by omega)
    have e1 : popStep k m q = ({ q with at_ := 0, done := decide (m.at_ k.head = q.was) }, m.cas k.head q.was (nextW q.was q.under)) := by unfold popStep; rw [hd, h0]; rfl
    rw [e1, h0]
    refine go ?_
    refine Cx.ordc rfl kr_ ?_
    refine ge ?_
    refine Ev.cakH kr_ rfl rfl (refNextW q.was q.under hw hu1 (by omega)) ?_
    refine ge ?_
    refine Ev.caH kr_ rfl rfl (refCas (rm := rm) (m := m) k.head q.was (nextW q.was q.under) k3 hw hnw) (Pres.deps kr_) ?_
    rintro v L' ⟨rfl, rfl⟩
    refine ge ?_
    refine Ev.stbH (b := b) kr_ rfl rfl rfl rfl rfl (by rfl) rfl (Pres.deps kr_) ?_
    refine ge ?_
    refine go ?_
    refine Kr.one (.inr rfl) rfl ?_ ⟨rfl, rfl⟩
    refine Ent.trans (RPopO.close (sb := sb) (a := some ⟨b, 0, none⟩) (r := r) { q with at_ := 0, done := decide (m.at_ k.head = q.was) } rfl rfl rfl rfl rfl rfl rfl rfl) ?_
    refine Ent.cons ?_
    refine Ent.trans ?_ (Ent.cons (Ent.of t3.back))
    exact ent
theorem refPopGot {b sb rm : Nat} {k : Sk} {q : PopS} {F1 : St} (hd : q.done = true) (hb : q.got.length ≤ 8) [t1 : Take L (some ⟨b, 0, none⟩) (RPopO sb q) F1] :
  Fx Tryz.prog 165 [.pointer (some ⟨b, 0, none⟩)] L (fun v L' => ∃ r c, v = .slice r q.got.length c ∧ L' = pt r (Row 3 1 q.got.length c (ints q.got)) :: pt (some ⟨b, 0, none⟩) (RPopO sb q) :: F1) := by
 refine Fx.mk Tryz.func165 k165 nb_ ?_
 dsimp only [c165, kG, kS, kH, kM, kN, kF, kL, envOf, Nat.reduceAdd]
 refine Cx.openp (t := t1) rfl ?_
 rintro ⟨r, c⟩
 simp only [rpopL, List.cons_append, List.nil_append]
 rw [hd]
 refine Cx.rowkey (a := r) fun hx0 hn0 hc0 hk1 => ?_
 refine go ?_
 refine Sx.apn rfl rfl (Rd.any (a := r) hx0 (hk1.imp (fun h => h.2.1) id)) (ones_ints _) (by simp [maxLen]; omega) (by omega) fun r' c' hc => ?_
 refine go ?_
 refine Kr.one (.inr rfl) rfl (Ent.cons ?_) ⟨r', c', rfl, rfl⟩
 exact RPopO.close (sb := sb) (a := some ⟨b, 0, none⟩) (r := r) q rfl rfl rfl rfl rfl rfl (by rw [hd]) rfl
end
end Go.Proofs.YtggnbdeokmdjbaaGreat


namespace Go.Proofs.YtggnbdeokmdjbaaGreat
open Go
attribute [local irreducible] Sx Cx Rx Fx Krg Ksq Kbl Klp Kr
section
variable {L F : St}
theorem anyOpen_least {now : Int} {m : Lm} (h : 2 ≤ now) : decide (0 ≤ leastI (leastUp now m 3)) = anyOpen now m := by
 refine decide_eq_decide.2 ?_
 cases hl : leastUp now m 3 with
 | none =>
   have hn := leastUp_none hl
   simp [leastI, hn 0 (by omega), hn 1 (by omega), hn 2 (by omega)]
 | some j =>
   have hj := leastUp_lt hl
   have h1 := hj.1
   simp only [leastI]
   refine ⟨fun _ => ⟨h, ?_⟩, fun _ => by omega⟩
   rcases (show j = 0 ∨ j = 1 ∨ j = 2 by omega) with rfl | rfl | rfl
   ·exact .inl hj.2
   ·exact .inr (.inl hj.2)
   ·exact .inr (.inr hj.2)
theorem refOpen {b : Nat} {m : Lm} {now : Int} {F : St} [t : Take L (some ⟨b, 0, none⟩) (RLimboO m) F] (h3 : now ≤ 9223372036854775807) :
  Fx Tryz.prog 234 [.pointer (some ⟨b, 0, none⟩), .int .i64 now] L (fun v L' => v = .bool (anyOpen now m) ∧ L = L') := by
 refine Fx.mk Tryz.func234 k234 nb_ ?_
 dsimp only [c234, kG, kS, kH, kM, kN, kF, kL, envOf, Nat.reduceAdd]
 refine go ?_
 refine Sx.ifp rfl (fun h => ?_) (fun h => ?_)
 ·refine go ?_
  refine Sx.ca rfl (refLeast (b := b) (m := m) (F := F) h h3) ?_
  rintro v L' ⟨rfl, rfl⟩
  refine go ?_
  exact Kr.one (.inr rfl) rfl (Ent.refl _) ⟨congrArg Value.bool (anyOpen_least h), rfl⟩
 ·have h' : ¬ 2 ≤ now := h
  refine go ?_
  exact Kr.one (.inr rfl) rfl (Ent.refl _) ⟨by simp [anyOpen, h'], rfl⟩
theorem refLimboLen {b : Nat} {m : Lm} {F : St} [t : Take L (some ⟨b, 0, none⟩) (RLimboO m) F] (hb : m.size ≤ 1000000000) :
  Fx Tryz.prog 167 [.pointer (some ⟨b, 0, none⟩)] L (fun v L' => v = .int .i64 m.size ∧ L = L') := by
 have hs : m.size = m.x0.length + m.x1.length + m.x2.length := rfl
 refine Fx.kept (t := t) ?_
 refine Fx.mk Tryz.func167 k167 nb_ ?_
 dsimp only [c167, kG, kS, kH, kM, kN, kF, kL, envOf, Nat.reduceAdd]
 refine Cx.openp (t := t) rfl ?_
 rintro ⟨⟨⟨r0, c0⟩, ⟨r1, c1⟩, ⟨r2, c2⟩⟩, ⟨u0, u1, u2, l⟩⟩
 simp only [refL, List.cons_append, List.nil_append]
 refine Cx.liftp fun hT => ?_
 refine go ?_
 refine Cx.ordc rfl kr_ ?_
 refine ge ?_
 rw [w64 (n := (m.x0.length : Int) + m.x1.length) (by omega) (by omega), w64 (n := (m.x0.length : Int) + m.x1.length + m.x2.length) (by omega) (by omega)]
 refine go ?_
 refine Kr.one (.inr rfl) rfl (RLimboO.close (a := some ⟨b, 0, none⟩) (r0 := r0) (r1 := r1) (r2 := r2) m hT rfl rfl rfl rfl rfl rfl rfl rfl rfl rfl) ⟨?_, rfl⟩
 refine congrArg (Value.int .i64) ?_
 omega
theorem refBucket {b : Nat} {m : Lm} {k : Int} {F : St} [t : Take L (some ⟨b, 0, none⟩) (RLimboO m) F] (hb : m.size ≤ 1000000000) :
  Fx Tryz.prog 29 [.pointer (some ⟨b, 0, none⟩), .int .i64 k] L (fun v L' =>
   ((k < 0 ∨ 3 ≤ k ∨ m.items k.toNat = []) ∧ v = .tuple #[.int .i64 0, .slice none 0 0] ∧ L' = pt (some ⟨b, 0, none⟩) (RLimboO m) :: F) ∨
   (¬ (k < 0 ∨ 3 ≤ k ∨ m.items k.toNat = []) ∧ ∃ ro co, v = .tuple #[.int .i64 (m.tag k.toNat), .slice ro (m.items k.toNat).length co] ∧ L' = pt ro (Row 3 1 (m.items k.toNat).length co (ints (m.items k.toNat))) :: pt (some ⟨b, 0, none⟩) (RLimboO m) :: F)) := by
 have hs : m.size = m.x0.length + m.x1.length + m.x2.length := rfl
 refine Fx.mk Tryz.func29 k29 nb_ ?_
 dsimp only [c29, kG, kS, kH, kM, kN, kF, kL, envOf, Nat.reduceAdd]
 refine Cx.openp (t := t) rfl ?_
 rintro ⟨⟨⟨r0, c0⟩, ⟨r1, c1⟩, ⟨r2, c2⟩⟩, ⟨u0, u1, u2, l⟩⟩
 simp only [refL, List.cons_append, List.nil_append]
 refine Cx.liftp fun hT => ?_
 refine Cx.rowkey (a := r0) fun hx0 hn0 _ hk0 => ?_
 refine Cx.rowkey (a := r1) fun hx1 hn1 _ hk1 => ?_
 refine Cx.rowkey (a := r2) fun hx2 hn2 _ hk2 => ?_
 refine go ?_
 refine Sx.ifp rfl (fun h1 => ?_) (fun h1 => ?_)
 ·refine go ?_
  exact Kr.two (.inr rfl) rfl rfl (RLimboO.close (a := some ⟨b, 0, none⟩) (r0 := r0) (r1 := r1) (r2 := r2) m hT rfl rfl rfl rfl rfl rfl rfl rfl rfl rfl) (.inl ⟨.inl h1, rfl, rfl⟩)
 refine go ?_
 refine Sx.ifp rfl (fun h2 => ?_) (fun h2 => ?_)
 ·refine go ?_
  exact Kr.two (.inr rfl) rfl rfl (RLimboO.close (a := some ⟨b, 0, none⟩) (r0 := r0) (r1 := r1) (r2 := r2) m hT rfl rfl rfl rfl rfl rfl rfl rfl rfl rfl) (.inl ⟨.inr (.inl (by omega)), rfl, rfl⟩)
 rcases (show k = 0 ∨ k = 1 ∨ k = 2 by omega) with rfl | rfl | rfl
 ·refine gg ?_
  refine Cx.ifp rfl (fun h3 => ?_) (fun h3 => ?_)
  ·refine go ?_
   exact Kr.two (.inr rfl) rfl rfl (RLimboO.close (a := some ⟨b, 0, none⟩) (r0 := r0) (r1 := r1) (r2 := r2) m hT rfl rfl rfl rfl rfl rfl rfl rfl rfl rfl) (.inl ⟨.inr (.inr (List.eq_nil_of_length_eq_zero (by simpa [Lm.items] using h3))), rfl, rfl⟩)
  have h4 : m.x0 ≠ [] := fun e => h3 (by rw [e]; rfl)
  have hu := hT.h0 h4
  refine go ?_
  refine Cx.ordc rfl kr_ ?_
  refine ge ?_
  refine Ev.apnH kr_ rfl rfl rfl (Rd.any (a := r0) hx0 (hk0.imp (fun h => h.2.1) id)) (ones_ints _) (by simp [maxLen]; omega) (by omega) (.dep rfl (.keep (fun v L' ⟨_, _, _, _, _, e⟩ => by subst e; exact Has.cell rfl) .nil)) fun ra ca hc _ => ?_
  refine ge ?_
  refine go ?_
  refine Kr.two (.inr rfl) rfl rfl ?_ (.inr ⟨?_, ra, ca, by rw [hu]; rfl, rfl⟩)
  ·exact Ent.cons (RLimboO.close (a := some ⟨b, 0, none⟩) (r0 := r0) (r1 := r1) (r2 := r2) m hT rfl rfl rfl rfl rfl rfl rfl rfl rfl rfl)
  ·rintro (h | h | h)
   ·omega
   ·omega
   ·exact h4 h
 ·refine gg ?_
  refine Cx.ifp rfl (fun h3 => ?_) (fun h3 => ?_)
  ·refine go ?_
   exact Kr.two (.inr rfl) rfl rfl (RLimboO.close (a := some ⟨b, 0, none⟩) (r0 := r0) (r1 := r1) (r2 := r2) m hT rfl rfl rfl rfl rfl rfl rfl rfl rfl rfl) (.inl ⟨.inr (.inr (List.eq_nil_of_length_eq_zero (by simpa [Lm.items] using h3))), rfl, rfl⟩)
  have h4 : m.x1 ≠ [] := fun e => h3 (by rw [e]; rfl)
  have hu := hT.h1 h4
  refine go ?_
  refine Cx.ordc rfl kr_ ?_
  refine ge ?_
  refine Ev.apnH kr_ rfl rfl rfl (Rd.any (a := r1) hx1 (hk1.imp (fun h => h.2.1) id)) (ones_ints _) (by simp [maxLen]; omega) (by omega) (.dep rfl (.keep (fun v L' ⟨_, _, _, _, _, e⟩ => by subst e; exact Has.cell rfl) .nil)) fun ra ca hc _ => ?_
  refine ge ?_
  refine go ?_
  refine Kr.two (.inr rfl) rfl rfl ?_ (.inr ⟨?_, ra, ca, by rw [hu]; rfl, rfl⟩)
  ·exact Ent.cons (RLimboO.close (a := some ⟨b, 0, none⟩) (r0 := r0) (r1 := r1) (r2 := r2) m hT rfl rfl rfl rfl rfl rfl rfl rfl rfl rfl)
  ·rintro (h | h | h)
   ·omega
   ·omega
   ·exact h4 h
 ·refine gg ?_
  refine Cx.ifp rfl (fun h3 => ?_) (fun h3 => ?_)
  ·refine go ?_
   exact Kr.two (.inr rfl) rfl rfl (RLimboO.close (a := some ⟨b, 0, none⟩) (r0 := r0) (r1 := r1) (r2 := r2) m hT rfl rfl rfl rfl rfl rfl rfl rfl rfl rfl) (.inl ⟨.inr (.inr (List.eq_nil_of_length_eq_zero (by simpa [Lm.items] using h3))), rfl, rfl⟩)
  have h4 : m.x2 ≠ [] := fun e => h3 (by rw [e]; rfl)
  have hu := hT.h2 h4
  refine go ?_
  refine Cx.ordc rfl kr_ ?_
  refine ge ?_
  refine Ev.apnH kr_ rfl rfl rfl (Rd.any (a := r2) hx2 (hk2.imp (fun h => h.2.1) id)) (ones_ints _) (by simp [maxLen]; omega) (by omega) (.dep rfl (.keep (fun v L' ⟨_, _, _, _, _, e⟩ => by subst e; exact Has.cell rfl) .nil)) fun ra ca hc _ => ?_
  refine ge ?_
  refine go ?_
  refine Kr.two (.inr rfl) rfl rfl ?_ (.inr ⟨?_, ra, ca, by rw [hu]; rfl, rfl⟩)
  ·exact Ent.cons (RLimboO.close (a := some ⟨b, 0, none⟩) (r0 := r0) (r1 := r1) (r2 := r2) m hT rfl rfl rfl rfl rfl rfl rfl rfl rfl rfl)
  ·rintro (h | h | h)
   ·omega
   ·omega
   ·exact h4 h
theorem RTag.put0 {m : Lm} {u0 u1 u2 l : Int} (h : RTag m u0 u1 u2 l) : RTag (m.put 0 0 []) u0 u1 u2 l := ⟨fun x => absurd rfl x, h.h1, h.h2, h.hl⟩
theorem RTag.put1 {m : Lm} {u0 u1 u2 l : Int} (h : RTag m u0 u1 u2 l) : RTag (m.put 1 0 []) u0 u1 u2 l := ⟨h.h0, fun x => absurd rfl x, h.h2, h.hl⟩
theorem RTag.put2 {m : Lm} {u0 u1 u2 l : Int} (h : RTag m u0 u1 u2 l) : RTag (m.put 2 0 []) u0 u1 u2 l := ⟨h.h0, h.h1, fun x => absurd rfl x, h.hl⟩
set_option maxHeartbeats 4000000 in
theorem refReady {b : Nat} {m : Lm} {now : Int} {F : St} [t : Take L (some ⟨b, 0, none⟩) (RLimboO m) F] (hb : m.size ≤ 100000000) (hnow : now ≤ 9223372036854775807) :
  Fx Tryz.prog 175 [.pointer (some ⟨b, 0, none⟩), .int .i64 now] L (fun v L' => ∃ ro co, v = .slice ro (readyAll now m).1.length co ∧
   L' = pt ro (Row 3 1 (readyAll now m).1.length co (ints (readyAll now m).1)) :: pt (some ⟨b, 0, none⟩) (RLimboO (readyAll now m).2) :: F) := by
 refine Fx.mk Tryz.func175 k175 nb_ ?_
 dsimp only [c175, kG, kS, kH, kM, kN, kF, kL, envOf, Nat.reduceAdd]
 refine Cx.ent (Ent.trans (Ent.of t.out) (Ent.rownil 3 1)) ?_
 refine go ?_
 refine Cx.lp (α := {p : (List Int × Lm) × (Option Addr × Nat) // p.1.1.length + p.1.2.size = m.size ∧ p.1.1 ++ (readyAll now p.1.2).1 = (readyAll now m).1 ∧ (readyAll now p.1.2).2 = (readyAll now m).2})
  (fun p => [(0, .pointer (some ⟨b, 0, none⟩)), (1, .int .i64 now), (5, .slice p.1.2.1 p.1.1.1.length p.1.2.2)])
  (fun p => pt p.1.2.1 (Row 3 1 p.1.1.1.length p.1.2.2 (ints p.1.1.1)) :: pt (some ⟨b, 0, none⟩) (RLimboO p.1.1.2) :: F) (fun p => p.1.1.2.cnt) ⟨(([], m), (none, 0)), by simp, by simp, rfl⟩ (sub.cons rfl (sub.cons rfl (sub.cons rfl sub.nil))) (Ent.refl _) ?_
 rintro ⟨⟨⟨out, m'⟩, ⟨ro, co⟩⟩, hsz, he1, he2⟩
 dsimp only at hsz he1 he2 ⊢
 refine go ?_
 refine Sx.ca rfl (refOpen (b := b) (m := m') hnow) ?_
 rintro v L' ⟨rfl, rfl⟩
 refine go ?_
 have hall : ∀ o, 2 ≤ now → leastUp now m' 3 = o → readyAll now m' = match o with
    | none => ([], m')
    | some j => (m'.items j ++ (readyAll now (m'.put j 0 [])).1, (readyAll now (m'.put j 0 [])).2) := by
   intro o h2 ho
   unfold readyAll
   simp only [if_pos h2]
   cases o with
   | none =>
     cases hc : m'.cnt with
     | zero => rfl
     | succ c => simp [readyM, ho]
   | some j =>
     rw [cnt_put (leastUp_lt ho).1 (open_ne (leastUp_lt ho).2)]
     simp [readyM, ho]
 refine Cx.cd rfl (fun hop => ?_) (fun hop => ?_)
 ·have h2 : 2 ≤ now := (of_decide_eq_true hop).1
  rw [← anyOpen_least h2] at hop
  have hl := of_decide_eq_true hop
  refine go ?_
  refine Sx.ca rfl (refLeast (b := b) (m := m') h2 hnow) ?_
  rintro v L' ⟨rfl, rfl⟩
  rcases hlu : leastUp now m' 3 with _ | j
  ·rw [hlu] at hl; exact absurd hl (by decide)
  have hra := hall _ h2 hlu
  have hj := (leastUp_lt hlu).1
  have hne := open_ne (leastUp_lt hlu).2
  have hsp := size_put (m := m') hj
  have hcp := cnt_put hj hne
  have hm1 : out.length + (m'.x0.length + m'.x1.length + m'.x2.length) = m.size := hsz
  dsimp only at hra
  rw [hra, ← List.append_assoc] at he1
  rw [hra] at he2
  simp only [leastI]
  refine Sx.openp (a := some ⟨b, 0, none⟩) rfl ?_
  rintro ⟨⟨⟨r0, c0⟩, ⟨r1, c1⟩, ⟨r2, c2⟩⟩, ⟨u0, u1, u2, l⟩⟩
  simp only [refL, List.cons_append, List.nil_append]
  refine Sx.liftp fun hT => ?_
  rcases (show j = 0 ∨ j = 1 ∨ j = 2 by omega) with rfl | rfl | rfl
  ·refine gg ?_
   refine Sx.rowkey (a := r0) fun hxj hnj _ hkj => ?_
   refine Sx.ap (ra := ro) rfl rfl (Rd.any (a := r0) hxj (hkj.imp (fun h => h.2.1) id)) (ones_ints _) (by simp [maxLen]; omega) (by omega) fun ra ca hc => ?_
   refine gg ?_
   refine Klp.nm ⟨((out ++ m'.items 0, m'.put 0 0 []), (ra, ca)), by dsimp only; rw [List.length_append]; omega, he1, he2⟩ (sub.cons rfl (sub.cons rfl (sub.cons ?_ sub.nil))) ?_ (by dsimp only; omega)
   ·show _ = some (Value.slice ra (out ++ m'.items 0).length ca)
    rw [show (out ++ m'.items 0).length = out.length + m'.x0.length by simp [Lm.items]]
    rfl
   ·dsimp only
    rw [ints_append, List.length_append]
    refine Ent.take1 (t := inferInstance) ?_
    refine Ent.trans (Ent.rownil 3 1) ?_
    refine Ent.trans (RLimboO.close (a := some ⟨b, 0, none⟩) (r0 := none) (r1 := r1) (r2 := r2) (m'.put 0 0 []) hT.put0 rfl rfl rfl rfl rfl rfl rfl rfl rfl rfl) ?_
    exact ent
  ·refine gg ?_
   refine Sx.rowkey (a := r1) fun hxj hnj _ hkj => ?_
   refine Sx.ap (ra := ro) rfl rfl (Rd.any (a := r1) hxj (hkj.imp (fun h => h.2.1) id)) (ones_ints _) (by simp [maxLen]; omega) (by omega) fun ra ca hc => ?_
   refine gg ?_
   refine Klp.nm ⟨((out ++ m'.items 1, m'.put 1 0 []), (ra, ca)), by dsimp only; rw [List.length_append]; omega, he1, he2⟩ (sub.cons rfl (sub.cons rfl (sub.cons ?_ sub.nil))) ?_ (by dsimp only; omega)
   ·show _ = some (Value.slice ra (out ++ m'.items 1).length ca)
    rw [show (out ++ m'.items 1).length = out.length + m'.x1.length by simp [Lm.items]]
    rfl
   ·dsimp only
    rw [ints_append, List.length_append]
    refine Ent.take1 (t := inferInstance) ?_
    refine Ent.trans (Ent.rownil 3 1) ?_
    refine Ent.trans (RLimboO.close (a := some ⟨b, 0, none⟩) (r0 := r0) (r1 := none) (r2 := r2) (m'.put 1 0 []) hT.put1 rfl rfl rfl rfl rfl rfl rfl rfl rfl rfl) ?_
    exact ent
  ·refine gg ?_
   refine Sx.rowkey (a := r2) fun hxj hnj _ hkj => ?_
   refine Sx.ap (ra := ro) rfl rfl (Rd.any (a := r2) hxj (hkj.imp (fun h => h.2.1) id)) (ones_ints _) (by simp [maxLen]; omega) (by omega) fun ra ca hc => ?_
   refine gg ?_
   refine Klp.nm ⟨((out ++ m'.items 2, m'.put 2 0 []), (ra, ca)), by dsimp only; rw [List.length_append]; omega, he1, he2⟩ (sub.cons rfl (sub.cons rfl (sub.cons ?_ sub.nil))) ?_ (by dsimp only; omega)
   ·show _ = some (Value.slice ra (out ++ m'.items 2).length ca)
    rw [show (out ++ m'.items 2).length = out.length + m'.x2.length by simp [Lm.items]]
    rfl
   ·dsimp only
    rw [ints_append, List.length_append]
    refine Ent.take1 (t := inferInstance) ?_
    refine Ent.trans (Ent.rownil 3 1) ?_
    refine Ent.trans (RLimboO.close (a := some ⟨b, 0, none⟩) (r0 := r0) (r1 := r1) (r2 := none) (m'.put 2 0 []) hT.put2 rfl rfl rfl rfl rfl rfl rfl rfl rfl rfl) ?_
    exact ent
 ·refine go ?_
  have hra : readyAll now m' = ([], m') := by
   by_cases h2 : 2 ≤ now
   ·rw [← anyOpen_least h2] at hop
    have hl := of_decide_eq_false hop
    rcases hlu : leastUp now m' 3 with _ | j
    ·exact hall _ h2 hlu
    ·rw [hlu] at hl; exact absurd (show (0 : Int) ≤ leastI (some j) by simp [leastI]) hl
   ·unfold readyAll; rw [if_neg h2]
  rw [hra] at he1 he2
  simp only [List.append_nil] at he1
  subst he1; subst he2
  exact Kr.one (.inr rfl) rfl (Ent.refl _) ⟨ro, co, rfl, rfl⟩
end
end Go.Proofs.YtggnbdeokmdjbaaGreat


namespace Go.Proofs.YtggnbdeokmdjbaaGreat
open Go
attribute [local irreducible] Sx Cx Rx Fx Krg Ksq Kbl Klp Kr
section
variable {L F : St}
theorem RTag.put_0 {m : Lm} {u0 u1 u2 l tag : Int} {xs : List Int} (h : RTag m u0 u1 u2 l) : RTag { m.put 0 tag xs with last := tag } tag u1 u2 tag := ⟨fun _ => rfl, h.h1, h.h2, .inl rfl⟩
theorem RTag.put_1 {m : Lm} {u0 u1 u2 l tag : Int} {xs : List Int} (h : RTag m u0 u1 u2 l) : RTag { m.put 1 tag xs with last := tag } u0 tag u2 tag := ⟨h.h0, fun _ => rfl, h.h2, .inl rfl⟩
theorem RTag.put_2 {m : Lm} {u0 u1 u2 l tag : Int} {xs : List Int} (h : RTag m u0 u1 u2 l) : RTag { m.put 2 tag xs with last := tag } u0 u1 tag tag := ⟨h.h0, h.h1, fun _ => rfl, .inl rfl⟩
set_option maxHeartbeats 4000000 in
theorem refRetire {b : Nat} {m : Lm} {tag : Int} {ys : List Int} {ya : Option Addr} {n c : Nat} {F : St} [t : Take L (some ⟨b, 0, none⟩) (RLimboO m) F] (hr : Rd F 1 ya n (ints ys)) (hb : m.size + n ≤ 1000000000) :
  Fx Tryz.prog 107 [.pointer (some ⟨b, 0, none⟩), .int .i64 tag, .slice ya n c] L (fun v L' =>
   (refused m tag ys ∧ v = .tuple #[.slice none 0 0, .bool false] ∧ L' = pt (some ⟨b, 0, none⟩) (RLimboO m) :: F) ∨
   (¬ refused m tag ys ∧ ∃ ro co, v = .tuple #[.slice ro (outM m tag).length co, .bool true] ∧ L' = pt ro (Row 3 1 (outM m tag).length co (ints (outM m tag))) :: pt (some ⟨b, 0, none⟩) (RLimboO (retireM m tag ys)) :: F)) := by
 have hn : n = ys.length := by have := hr.1; simp [ints] at this; omega
 have hy0 : (n : Int) = 0 ↔ ys = [] := by rw [← List.length_eq_zero_iff]; omega
 unfold Lm.size at hb
 refine Fx.mk Tryz.func107 k107 nb_ ?_
 dsimp only [c107, kG, kS, kH, kM, kN, kF, kL, envOf, Nat.reduceAdd]
 refine Cx.openp (t := t) rfl ?_
 rintro ⟨⟨⟨r0, c0⟩, ⟨r1, c1⟩, ⟨r2, c2⟩⟩, ⟨u0, u1, u2, l⟩⟩
 simp only [refL, List.cons_append, List.nil_append]
 refine Cx.liftp fun hT => ?_
 refine Cx.rowkey (a := r0) fun hx0 hn0 _ hk0 => ?_
 refine Cx.rowkey (a := r1) fun hx1 hn1 _ hk1 => ?_
 refine Cx.rowkey (a := r2) fun hx2 hn2 _ hk2 => ?_
 have hl := hT.hl
 refine go ?_
 refine Sx.ifp rfl (fun h1 => ?_) (fun h1 => ?_)
 ·refine go ?_
  exact Kr.two (.inr rfl) rfl rfl (RLimboO.close (a := some ⟨b, 0, none⟩) (r0 := r0) (r1 := r1) (r2 := r2) m hT rfl rfl rfl rfl rfl rfl rfl rfl rfl rfl) (.inl ⟨.inl (hy0.1 h1), rfl, rfl⟩)
 refine go ?_
 refine Sx.ifp rfl (fun h2 => ?_) (fun h2 => ?_)
 ·refine go ?_
  exact Kr.two (.inr rfl) rfl rfl (RLimboO.close (a := some ⟨b, 0, none⟩) (r0 := r0) (r1 := r1) (r2 := r2) m hT rfl rfl rfl rfl rfl rfl rfl rfl rfl rfl) (.inl ⟨.inr (.inl h2), rfl, rfl⟩)
 refine go ?_
 refine Sx.ifp rfl (fun h3 => ?_) (fun h3 => ?_)
 ·refine go ?_
  exact Kr.two (.inr rfl) rfl rfl (RLimboO.close (a := some ⟨b, 0, none⟩) (r0 := r0) (r1 := r1) (r2 := r2) m hT rfl rfl rfl rfl rfl rfl rfl rfl rfl rfl) (.inl ⟨.inr (.inr (.inl h3)), rfl, rfl⟩)
 refine go ?_
 refine Cx.cd rfl (fun h4 => ?_) (fun h4 => ?_)
 ·have h4' : tag < l := by simpa [pick] using h4
  refine go ?_
  exact Kr.two (.inr rfl) rfl rfl (RLimboO.close (a := some ⟨b, 0, none⟩) (r0 := r0) (r1 := r1) (r2 := r2) m hT rfl rfl rfl rfl rfl rfl rfl rfl rfl rfl) (.inl ⟨.inr (.inr (.inr (by omega))), rfl, rfl⟩)
 have h4' : ¬ tag < l := by simpa [pick] using h4
 have hnr : ¬ refused m tag ys := by
  rintro (h | h | h | h)
  ·exact h1 (hy0.2 h)
  ·exact h2 h
  ·exact h3 h
  ·omega
 have hmod : tag.tmod 3 = (bucketOf tag : Int) := by
  unfold bucketOf
  rw [Int.tmod_eq_emod]
  split <;> omega
 refine go ?_
 refine Sx.pv rfl (by decide) ?_
 rw [hmod]
 have hlt : bucketOf tag < 3 := Nat.mod_lt _ (by omega)
 have hout : outM m tag = if m.tag (bucketOf tag) < tag then m.items (bucketOf tag) else [] := rfl
 have hret : retireM m tag ys = { m.put (bucketOf tag) tag ((if m.tag (bucketOf tag) < tag then [] else m.items (bucketOf tag)) ++ ys) with last := tag } := rfl
 rw [hout, hret]
 generalize bucketOf tag = k at hlt ⊢
 rcases (show k = 0 ∨ k = 1 ∨ k = 2 by omega) with rfl | rfl | rfl
 ·refine gg ?_
  have hti : m.tag 0 = m.t0 := rfl
  have hit : m.items 0 = m.x0 := rfl
  refine Sx.ifp rfl (fun h5 => ?_) (fun h5 => ?_)
  ·have hne : m.x0 ≠ [] := fun e => by rw [e] at h5; exact absurd h5 (by decide)
   have hu := hT.h0 hne
   refine gg ?_
   refine Cx.ifp rfl (fun h6 => ?_) (fun h6 => ?_)
   ·refine gg ?_
    refine Cx.ordc rfl kr_ ?_
    refine ge ?_
    refine Ev.pass 4 rfl kr_ ?_
    refine Ev.bring 2 rfl ?_
    refine ge ?_
    refine Ev.apnH kr_ rfl rfl rfl (Rd.nil _ _ _) rfl (by simp [maxLen]; try omega) (by omega) (Pres.deps kr_) fun ra ca hc _ => ?_
    refine ge ?_
    refine Ev.apH (ra := ra) kr_ rfl rfl rfl (hr.ent (by repeat (first | exact Ent.refl _ | (refine Ent.trans Ent.drop ?_)))) (ones_ints _) (by simp [maxLen]; omega) (by omega) (Pres.deps kr_) fun rb cb hc2 _ => ?_
    refine ge ?_
    refine Ev.stbH (b := b) kr_ rfl rfl rfl rfl rfl (by rfl) rfl (Pres.deps kr_) ?_
    refine ge ?_
    refine go ?_
    have h7 : m.t0 < tag := by omega
    rw [hti, hit, if_pos h7, if_pos h7]
    refine Kr.two (.inr rfl) rfl rfl ?_ (.inr ⟨hnr, r0, c0, rfl, rfl⟩)
    refine Ent.trans (RLimboO.close (a := some ⟨b, 0, none⟩) (r0 := rb) (r1 := r1) (r2 := r2) { m.put 0 tag ([] ++ ys) with last := tag } hT.put_0 rfl rfl rfl rfl (by simp [Lm.put, Lm.items]; omega) rfl rfl (by simp [Lm.put, Lm.items, ints_append]) rfl rfl) ?_
    exact ent
   ·refine gg ?_
    refine Cx.ordc rfl kr_ ?_
    refine ge ?_
    refine Ev.pass 4 rfl kr_ ?_
    refine Ev.bring 2 rfl ?_
    refine ge ?_
    refine Ev.apnH kr_ rfl rfl rfl (Rd.any (a := r0) hx0 (hk0.imp (fun h => h.2.1) id)) (ones_ints _) (by simp [maxLen]; try omega) (by omega) (Pres.deps kr_) fun ra ca hc _ => ?_
    refine ge ?_
    refine Ev.apH (ra := ra) kr_ rfl rfl rfl (hr.ent (by repeat (first | exact Ent.refl _ | (refine Ent.trans Ent.drop ?_)))) (ones_ints _) (by simp [maxLen]; omega) (by omega) (Pres.deps kr_) fun rb cb hc2 _ => ?_
    refine ge ?_
    refine Ev.stbH (b := b) kr_ rfl rfl rfl rfl rfl (by rfl) rfl (Pres.deps kr_) ?_
    refine ge ?_
    refine go ?_
    have h7 : ¬ m.t0 < tag := by omega
    rw [hti, hit, if_neg h7, if_neg h7]
    refine Kr.two (.inr rfl) rfl rfl ?_ (.inr ⟨hnr, none, 0, rfl, rfl⟩)
    refine Ent.trans (RLimboO.close (a := some ⟨b, 0, none⟩) (r0 := rb) (r1 := r1) (r2 := r2) { m.put 0 tag (m.x0 ++ ys) with last := tag } hT.put_0 rfl rfl rfl rfl (by simp [Lm.put, Lm.items]; omega) rfl rfl (by simp [Lm.put, Lm.items, ints_append]) rfl rfl) ?_
    refine Ent.trans (Ent.rownil 3 1) ?_
    exact ent
  ·have hnil : m.x0 = [] := List.eq_nil_of_length_eq_zero (by omega)
   refine gg ?_
   refine Cx.ordc rfl kr_ ?_
   refine ge ?_
   refine Ev.pass 4 rfl kr_ ?_
   refine Ev.bring 2 rfl ?_
   refine ge ?_
   refine Ev.apnH kr_ rfl rfl rfl (Rd.any (a := r0) hx0 (hk0.imp (fun h => h.2.1) id)) (ones_ints _) (by simp [maxLen]; try omega) (by omega) (Pres.deps kr_) fun ra ca hc _ => ?_
   refine ge ?_
   refine Ev.apH (ra := ra) kr_ rfl rfl rfl (hr.ent (by repeat (first | exact Ent.refl _ | (refine Ent.trans Ent.drop ?_)))) (ones_ints _) (by simp [maxLen]; omega) (by omega) (Pres.deps kr_) fun rb cb hc2 _ => ?_
   refine ge ?_
   refine Ev.stbH (b := b) kr_ rfl rfl rfl rfl rfl (by rfl) rfl (Pres.deps kr_) ?_
   refine ge ?_
   refine go ?_
   rw [hit, hnil, ite_self]
   refine Kr.two (.inr rfl) rfl rfl ?_ (.inr ⟨hnr, none, 0, rfl, rfl⟩)
   refine Ent.trans (RLimboO.close (a := some ⟨b, 0, none⟩) (r0 := rb) (r1 := r1) (r2 := r2) { m.put 0 tag ([] ++ ys) with last := tag } hT.put_0 rfl rfl rfl rfl (by simp [Lm.put, Lm.items, hnil]; omega) rfl rfl (by simp [Lm.put, Lm.items, ints, hnil]) rfl rfl) ?_
   refine Ent.trans (Ent.rownil 3 1) ?_
   exact ent
 ·refine gg ?_
  have hti : m.tag 1 = m.t1 := rfl
  have hit : m.items 1 = m.x1 := rfl
  refine Sx.ifp rfl (fun h5 => ?_) (fun h5 => ?_)
  ·have hne : m.x1 ≠ [] := fun e => by rw [e] at h5; exact absurd h5 (by decide)
   have hu := hT.h1 hne
   refine gg ?_
   refine Cx.ifp rfl (fun h6 => ?_) (fun h6 => ?_)
   ·refine gg ?_
    refine Cx.ordc rfl kr_ ?_
    refine ge ?_
    refine Ev.pass 4 rfl kr_ ?_
    refine Ev.bring 2 rfl ?_
    refine ge ?_
    refine Ev.apnH kr_ rfl rfl rfl (Rd.nil _ _ _) rfl (by simp [maxLen]; try omega) (by omega) (Pres.deps kr_) fun ra ca hc _ => ?_
    refine ge ?_
    refine Ev.apH (ra := ra) kr_ rfl rfl rfl (hr.ent (by repeat (first | exact Ent.refl _ | (refine Ent.trans Ent.drop ?_)))) (ones_ints _) (by simp [maxLen]; omega) (by omega) (Pres.deps kr_) fun rb cb hc2 _ => ?_
    refine ge ?_
    refine Ev.stbH (b := b) kr_ rfl rfl rfl rfl rfl (by rfl) rfl (Pres.deps kr_) ?_
    refine ge ?_
    refine go ?_
    have h7 : m.t1 < tag := by omega
    rw [hti, hit, if_pos h7, if_pos h7]
    refine Kr.two (.inr rfl) rfl rfl ?_ (.inr ⟨hnr, r1, c1, rfl, rfl⟩)
    refine Ent.trans (RLimboO.close (a := some ⟨b, 0, none⟩) (r0 := r0) (r1 := rb) (r2 := r2) { m.put 1 tag ([] ++ ys) with last := tag } hT.put_1 rfl rfl rfl rfl rfl (by simp [Lm.put, Lm.items]; omega) rfl rfl (by simp [Lm.put, Lm.items, ints_append]) rfl) ?_
    exact ent
   ·refine gg ?_
    refine Cx.ordc rfl kr_ ?_
    refine ge ?_
    refine Ev.pass 4 rfl kr_ ?_
    refine Ev.bring 2 rfl ?_
    refine ge ?_
    refine Ev.apnH kr_ rfl rfl rfl (Rd.any (a := r1) hx1 (hk1.imp (fun h => h.2.1) id)) (ones_ints _) (by simp [maxLen]; try omega) (by omega) (Pres.deps kr_) fun ra ca hc _ => ?_
    refine ge ?_
    refine Ev.apH (ra := ra) kr_ rfl rfl rfl (hr.ent (by repeat (first | exact Ent.refl _ | (refine Ent.trans Ent.drop ?_)))) (ones_ints _) (by simp [maxLen]; omega) (by omega) (Pres.deps kr_) fun rb cb hc2 _ => ?_
    refine ge ?_
    refine Ev.stbH (b := b) kr_ rfl rfl rfl rfl rfl (by rfl) rfl (Pres.deps kr_) ?_
    refine ge ?_
    refine go ?_
    have h7 : ¬ m.t1 < tag := by omega
    rw [hti, hit, if_neg h7, if_neg h7]
    refine Kr.two (.inr rfl) rfl rfl ?_ (.inr ⟨hnr, none, 0, rfl, rfl⟩)
    refine Ent.trans (RLimboO.close (a := some ⟨b, 0, none⟩) (r0 := r0) (r1 := rb) (r2 := r2) { m.put 1 tag (m.x1 ++ ys) with last := tag } hT.put_1 rfl rfl rfl rfl rfl (by simp [Lm.put, Lm.items]; omega) rfl rfl (by simp [Lm.put, Lm.items, ints_append]) rfl) ?_
    refine Ent.trans (Ent.rownil 3 1) ?_
    exact ent
  ·have hnil : m.x1 = [] := List.eq_nil_of_length_eq_zero (by omega)
   refine gg ?_
   refine Cx.ordc rfl kr_ ?_
   refine ge ?_
   refine Ev.pass 4 rfl kr_ ?_
   refine Ev.bring 2 rfl ?_
   refine ge ?_
   refine Ev.apnH kr_ rfl rfl rfl (Rd.any (a := r1) hx1 (hk1.imp (fun h => h.2.1) id)) (ones_ints _) (by simp [maxLen]; try omega) (by omega) (Pres.deps kr_) fun ra ca hc _ => ?_
   refine ge ?_
   refine Ev.apH (ra := ra) kr_ rfl rfl rfl (hr.ent (by repeat (first | exact Ent.refl _ | (refine Ent.trans Ent.drop ?_)))) (ones_ints _) (by simp [maxLen]; omega) (by omega) (Pres.deps kr_) fun rb cb hc2 _ => ?_
   refine ge ?_
   refine Ev.stbH (b := b) kr_ rfl rfl rfl rfl rfl (by rfl) rfl (Pres.deps kr_) ?_
   refine ge ?_
   refine go ?_
   rw [hit, hnil, ite_self]
   refine Kr.two (.inr rfl) rfl rfl ?_ (.inr ⟨hnr, none, 0, rfl, rfl⟩)
   refine Ent.trans (RLimboO.close (a := some ⟨b, 0, none⟩) (r0 := r0) (r1 := rb) (r2 := r2) { m.put 1 tag ([] ++ ys) with last := tag } hT.put_1 rfl rfl rfl rfl rfl (by simp [Lm.put, Lm.items, hnil]; omega) rfl rfl (by simp [Lm.put, Lm.items, ints, hnil]) rfl) ?_
   refine Ent.trans (Ent.rownil 3 1) ?_
   exact ent
 ·refine gg ?_
  have hti : m.tag 2 = m.t2 := rfl
  have hit : m.items 2 = m.x2 := rfl
  refine Sx.ifp rfl (fun h5 => ?_) (fun h5 => ?_)
  ·have hne : m.x2 ≠ [] := fun e => by rw [e] at h5; exact absurd h5 (by decide)
   have hu := hT.h2 hne
   refine gg ?_
   refine Cx.ifp rfl (fun h6 => ?_) (fun h6 => ?_)
   ·refine gg ?_
    refine Cx.ordc rfl kr_ ?_
    refine ge ?_
    refine Ev.pass 4 rfl kr_ ?_
    refine Ev.bring 2 rfl ?_
    refine ge ?_
    refine Ev.apnH kr_ rfl rfl rfl (Rd.nil _ _ _) rfl (by simp [maxLen]; try omega) (by omega) (Pres.deps kr_) fun ra ca hc _ => ?_
    refine ge ?_
    refine Ev.apH (ra := ra) kr_ rfl rfl rfl (hr.ent (by repeat (first | exact Ent.refl _ | (refine Ent.trans Ent.drop ?_)))) (ones_ints _) (by simp [maxLen]; omega) (by omega) (Pres.deps kr_) fun rb cb hc2 _ => ?_
    refine ge ?_
    refine Ev.stbH (b := b) kr_ rfl rfl rfl rfl rfl (by rfl) rfl (Pres.deps kr_) ?_
    refine ge ?_
    refine go ?_
    have h7 : m.t2 < tag := by omega
    rw [hti, hit, if_pos h7, if_pos h7]
    refine Kr.two (.inr rfl) rfl rfl ?_ (.inr ⟨hnr, r2, c2, rfl, rfl⟩)
    refine Ent.trans (RLimboO.close (a := some ⟨b, 0, none⟩) (r0 := r0) (r1 := r1) (r2 := rb) { m.put 2 tag ([] ++ ys) with last := tag } hT.put_2 rfl rfl rfl rfl rfl rfl (by simp [Lm.put, Lm.items]; omega) rfl rfl (by simp [Lm.put, Lm.items, ints_append])) ?_
    exact ent
   ·refine gg ?_
    refine Cx.ordc rfl kr_ ?_
    refine ge ?_
    refine Ev.pass 4 rfl kr_ ?_
    refine Ev.bring 2 rfl ?_
    refine ge ?_
    refine Ev.apnH kr_ rfl rfl rfl (Rd.any (a := r2) hx2 (hk2.imp (fun h => h.2.1) id)) (ones_ints _) (by simp [maxLen]; try omega) (by omega) (Pres.deps kr_) fun ra ca hc _ => ?_
    refine ge ?_
    refine Ev.apH (ra := ra) kr_ rfl rfl rfl (hr.ent (by repeat (first | exact Ent.refl _ | (refine Ent.trans Ent.drop ?_)))) (ones_ints _) (by simp [maxLen]; omega) (by omega) (Pres.deps kr_) fun rb cb hc2 _ => ?_
    refine ge ?_
    refine Ev.stbH (b := b) kr_ rfl rfl rfl rfl rfl (by rfl) rfl (Pres.deps kr_) ?_
    refine ge ?_
    refine go ?_
    have h7 : ¬ m.t2 < tag := by omega
    rw [hti, hit, if_neg h7, if_neg h7]
    refine Kr.two (.inr rfl) rfl rfl ?_ (.inr ⟨hnr, none, 0, rfl, rfl⟩)
    refine Ent.trans (RLimboO.close (a := some ⟨b, 0, none⟩) (r0 := r0) (r1 := r1) (r2 := rb) { m.put 2 tag (m.x2 ++ ys) with last := tag } hT.put_2 rfl rfl rfl rfl rfl rfl (by simp [Lm.put, Lm.items]; omega) rfl rfl (by simp [Lm.put, Lm.items, ints_append])) ?_
    refine Ent.trans (Ent.rownil 3 1) ?_
    exact ent
  ·have hnil : m.x2 = [] := List.eq_nil_of_length_eq_zero (by omega)
   refine gg ?_
   refine Cx.ordc rfl kr_ ?_
   refine ge ?_
   refine Ev.pass 4 rfl kr_ ?_
   refine Ev.bring 2 rfl ?_
   refine ge ?_
   refine Ev.apnH kr_ rfl rfl rfl (Rd.any (a := r2) hx2 (hk2.imp (fun h => h.2.1) id)) (ones_ints _) (by simp [maxLen]; try omega) (by omega) (Pres.deps kr_) fun ra ca hc _ => ?_
   refine ge ?_
   refine Ev.apH (ra := ra) kr_ rfl rfl rfl (hr.ent (by repeat (first | exact Ent.refl _ | (refine Ent.trans Ent.drop ?_)))) (ones_ints _) (by simp [maxLen]; omega) (by omega) (Pres.deps kr_) fun rb cb hc2 _ => ?_
   refine ge ?_
   refine Ev.stbH (b := b) kr_ rfl rfl rfl rfl rfl (by rfl) rfl (Pres.deps kr_) ?_
   refine ge ?_
   refine go ?_
   rw [hit, hnil, ite_self]
   refine Kr.two (.inr rfl) rfl rfl ?_ (.inr ⟨hnr, none, 0, rfl, rfl⟩)
   refine Ent.trans (RLimboO.close (a := some ⟨b, 0, none⟩) (r0 := r0) (r1 := r1) (r2 := rb) { m.put 2 tag ([] ++ ys) with last := tag } hT.put_2 rfl rfl rfl rfl rfl rfl (by simp [Lm.put, Lm.items, hnil]; omega) rfl rfl (by simp [Lm.put, Lm.items, ints, hnil])) ?_
   refine Ent.trans (Ent.rownil 3 1) ?_
   exact ent
end
end Go.Proofs.YtggnbdeokmdjbaaGreat


namespace Go.Proofs.YtggnbdeokmdjbaaGreat
open Go
attribute [local irreducible] Sx Cx Rx Fx Krg Ksq Kbl Klp Kr
section
variable {L F G : St}
theorem refTakeI {b : Nat} {most : Int} (xs : List Int) {F : St} [t : Take L (some ⟨b, 0, none⟩) (RefO most xs) F] (hb : xs.length ≤ 100000000) :
  Fx Tryz.prog 227 [.pointer (some ⟨b, 0, none⟩)] L (fun v L' => v = .tuple #[.int .i64 (lastI xs), .bool (decide (xs ≠ []))] ∧ L' = pt (some ⟨b, 0, none⟩) (RefO most xs.dropLast) :: F) := by
 rcases List.eq_nil_or_concat xs with rfl | ⟨ys, x, rfl⟩
 ·exact refTakeNone
 ·rw [List.concat_eq_append] at t hb ⊢
  refine (refTakeSome (t := t) (by simp at hb; omega)).mono ?_
  rintro v L' ⟨rfl, rfl⟩
  simp [lastI]
def rsupL (T : TypeId) (w : Nat) (S : SupS) (a : Option Addr) (y : Nat × Nat) : St :=
 [pt a (Blk T [.pointer (some ⟨w, 0, none⟩), .pointer (some ⟨y.1, 0, none⟩), .pointer (some ⟨y.2, 0, none⟩)]), pt (some ⟨y.1, 0, none⟩) (RefO S.most S.xs), pt (some ⟨y.2, 0, none⟩) (RLimboO S.lm)]
def RSupT (T : TypeId) (w : Nat) (S : SupS) (a : Option Addr) : As := exs (rsupL T w S a)
abbrev RSupO := RSupT 85
theorem RSupO.close {T : TypeId} {w st lm : Nat} {a : Option Addr} {m : Int} {xs : List Int} {l : Lm} {F0 F1 G : St} (S : SupS)
  [t : Take L a (Blk T [.pointer (some ⟨w, 0, none⟩), .pointer (some ⟨st, 0, none⟩), .pointer (some ⟨lm, 0, none⟩)]) F0] [u : Take F0 (some ⟨st, 0, none⟩) (RefO m xs) F1] [q : Take F1 (some ⟨lm, 0, none⟩) (RLimboO l) G]
  (hm : m = S.most) (hx : xs = S.xs) (hl : l = S.lm) : Ent L (pt a (RSupT T w S) :: G) := by
 subst hm; subst hx; subst hl
 refine Ent.trans (Ent.take1 (t := t) (Ent.trans (Ent.of u.out) (Ent.cons (Ent.of q.out)))) ?_
 exact Ent.close (f := rsupL T w S a) rfl (st, lm)
theorem refSupRetire {s w : Nat} {S : SupS} {F : St} [t : Take L (some ⟨s, 0, none⟩) (RSupO w S) F] {tag : Int} {ys : List Int} {ya : Option Addr} {n c : Nat} (hr : Rd F 1 ya n (ints ys)) (hb : S.lm.size + n ≤ 100000000) (hx : S.xs.length ≤ 100000000) :
  Fx Tryz.prog 28 [.pointer (some ⟨s, 0, none⟩), .int .i64 tag, .slice ya n c] L (fun v L' =>
   (refused S.lm tag ys ∧ v = .bool false ∧ L' = pt (some ⟨s, 0, none⟩) (RSupO w S) :: F) ∨
   (¬ refused S.lm tag ys ∧ v = .bool true ∧ L' = pt (some ⟨s, 0, none⟩) (RSupO w ⟨S.most, S.xs ++ outM S.lm tag, retireM S.lm tag ys⟩) :: F)) := by
 have hz := size_retire S.lm tag ys
 refine Fx.mk Tryz.func28 k28 nb_ ?_
 dsimp only [c28, kG, kS, kH, kM, kN, kF, kL, envOf, Nat.reduceAdd]
 refine Cx.openp (t := t) rfl ?_
 rintro ⟨st, lm⟩
 simp only [rsupL, List.cons_append, List.nil_append]
 refine go ?_
 refine Sx.ca rfl (refRetire (b := lm) (m := S.lm) (ys := ys) (hr.ent (by repeat (first | exact Ent.refl _ | (refine Ent.trans Ent.drop ?_)))) (by omega)) ?_
 rintro v L' (⟨h, rfl, rfl⟩ | ⟨h, ro, co, rfl, rfl⟩)
 ·refine go ?_
  refine Sx.ca rfl (refGive (b := st) (ys := []) (Rd.nil _ _ _) (by omega)) ?_
  rintro v L' ⟨rfl, rfl⟩
  refine go ?_
  exact Kr.one (.inr rfl) rfl (RSupO.close (a := some ⟨s, 0, none⟩) (st := st) (lm := lm) (w := w) S rfl (List.append_nil _) rfl) (.inl ⟨h, rfl, rfl⟩)
 ·refine Sx.rowkey (a := ro) fun hx0 hn0 _ hk0 => ?_
  refine go ?_
  refine Sx.ca rfl (refGive (b := st) (Rd.any (a := ro) hx0 (hk0.imp (fun h => h.2.1) id)) (by omega)) ?_
  rintro v L' ⟨rfl, rfl⟩
  refine go ?_
  refine Kr.one (.inr rfl) rfl (Ent.trans (RSupO.close (a := some ⟨s, 0, none⟩) (st := st) (lm := lm) (w := w) ⟨S.most, S.xs ++ outM S.lm tag, retireM S.lm tag ys⟩ rfl rfl rfl) ?_) (.inr ⟨h, rfl, rfl⟩)
  exact ent
theorem refSupReady {s w : Nat} {S : SupS} {F : St} [t : Take L (some ⟨s, 0, none⟩) (RSupO w S) F] {now : Int} (hb : S.lm.size ≤ 100000000) (hx : S.xs.length ≤ 100000000) (hn : now ≤ 9223372036854775807) :
  Fx Tryz.prog 80 [.pointer (some ⟨s, 0, none⟩), .int .i64 now] L (fun v L' => v = .int .i64 (readyAll now S.lm).1.length ∧ L' = pt (some ⟨s, 0, none⟩) (RSupO w (S.ready now)) :: F) := by
 have hz := size_ready now S.lm
 refine Fx.mk Tryz.func80 k80 nb_ ?_
 dsimp only [c80, kG, kS, kH, kM, kN, kF, kL, envOf, Nat.reduceAdd]
 refine Cx.openp (t := t) rfl ?_
 rintro ⟨st, lm⟩
 simp only [rsupL, List.cons_append, List.nil_append]
 refine go ?_
 refine Sx.ca rfl (refReady (b := lm) (m := S.lm) (now := now) hb hn) ?_
 rintro v L' ⟨ro, co, rfl, rfl⟩
 refine Sx.rowkey (a := ro) fun hx0 hn0 _ hk0 => ?_
 refine go ?_
 refine Sx.ca rfl (refGive (b := st) (Rd.any (a := ro) hx0 (hk0.imp (fun h => h.2.1) id)) (by omega)) ?_
 rintro v L' ⟨rfl, rfl⟩
 refine go ?_
 refine Kr.one (.inr rfl) rfl (Ent.trans (RSupO.close (a := some ⟨s, 0, none⟩) (st := st) (lm := lm) (w := w) (S.ready now) rfl rfl rfl) ?_) ⟨rfl, rfl⟩
 exact ent
def TakeS.ch (t : TakeS) : Int := if t.is_ then t.chunk else -1
abbrev rtkB (b s : Nat) (at_ : Nat) (ch seen : Int) (pp : Value) (d : Bool) : As := pt (some ⟨b, 0, none⟩) (Blk 169 [.pointer (some ⟨s, 0, none⟩), .int .i64 (at_ : Nat), .int .i64 ch, .int .i64 seen, pp, .bool d])
def rtakeDL (T : TypeId) (s : Nat) (t : TakeS) (a : Option Addr) (y : Nat × Value) : St := [pt a (Blk T [.pointer (some ⟨s, 0, none⟩), .int .i64 (y.1 : Nat), .int .i64 t.ch, .int .i64 t.seen, y.2, .bool true])]
def rtakeLL (T : TypeId) (s : Nat) (t : TakeS) (a : Option Addr) (y : Value) : St := [pt a (Blk T [.pointer (some ⟨s, 0, none⟩), .int .i64 0, .int .i64 (-1), .int .i64 t.seen, y, .bool false])]
def rtakePL (T : TypeId) (s rp : Nat) (t : TakeS) (a : Option Addr) (y : Nat) : St := [pt a (Blk T [.pointer (some ⟨s, 0, none⟩), .int .i64 1, .int .i64 (-1), .int .i64 t.seen, .pointer (some ⟨y, 0, none⟩), .bool false]), pt (some ⟨y, 0, none⟩) (RPopO rp t.q)]
def RTakeT (T : TypeId) (s rp : Nat) (t : TakeS) (a : Option Addr) : As := bif t.done then exs (rtakeDL T s t a) else bif Nat.beq t.at_ 0 then exs (rtakeLL T s t a) else exs (rtakePL T s rp t a)
abbrev RTakeO := RTakeT 169
theorem RTakeO.d {T : TypeId} {s rp : Nat} {t : TakeS} {a : Option Addr} (h : t.done = true) : RTakeT T s rp t a = exs (rtakeDL T s t a) := by unfold RTakeT; rw [h]; rfl
theorem RTakeO.l {T : TypeId} {s rp : Nat} {t : TakeS} {a : Option Addr} (h : t.done = false) (h0 : t.at_ = 0) : RTakeT T s rp t a = exs (rtakeLL T s t a) := by unfold RTakeT; rw [h, h0]; rfl
theorem RTakeO.p {T : TypeId} {s rp : Nat} {t : TakeS} {a : Option Addr} (h : t.done = false) (h0 : t.at_ ≠ 0) : RTakeT T s rp t a = exs (rtakePL T s rp t a) := by
 unfold RTakeT
 have : Nat.beq t.at_ 0 = false := by
  cases hb : Nat.beq t.at_ 0 with
  | false => rfl
  | true => exact absurd (Nat.eq_of_beq_eq_true hb) h0
 rw [h, this]; rfl
theorem RTakeO.closeD {b s rp n : Nat} {ch seen : Int} {pp : Value} (t : TakeS) (h : t.done = true) (hc : ch = t.ch) (hs : seen = t.seen) : Ent (rtkB b s n ch seen pp true :: G) (pt (some ⟨b, 0, none⟩) (RTakeO s rp t) :: G) := by
 subst hc; subst hs
 exact Ent.close (f := rtakeDL 169 s t (some ⟨b, 0, none⟩)) (RTakeO.d h) (n, pp)
theorem RTakeO.closeL {b s rp : Nat} {seen : Int} {pp : Value} (t : TakeS) (h : t.done = false) (h0 : t.at_ = 0) (hs : seen = t.seen) : Ent (rtkB b s 0 (-1) seen pp false :: G) (pt (some ⟨b, 0, none⟩) (RTakeO s rp t) :: G) := by
 subst hs
 exact Ent.close (f := rtakeLL 169 s t (some ⟨b, 0, none⟩)) (RTakeO.l h h0) pp
theorem RTakeO.closeP {b s rp p : Nat} {seen : Int} {q : PopS} (t : TakeS) (h : t.done = false) (h0 : t.at_ ≠ 0) (hs : seen = t.seen) (hq : q = t.q) : Ent (rtkB b s 1 (-1) seen (.pointer (some ⟨p, 0, none⟩)) false :: pt (some ⟨p, 0, none⟩) (RPopO rp q) :: G) (pt (some ⟨b, 0, none⟩) (RTakeO s rp t) :: G) := by
 subst hs; subst hq
 exact Ent.close (f := rtakePL 169 s rp t (some ⟨b, 0, none⟩)) (RTakeO.p h h0) p
abbrev rtkV (s : Nat) (at_ : Nat) (ch seen : Int) (pp : Value) (d : Bool) : Option Addr → As := Blk 169 [.pointer (some ⟨s, 0, none⟩), .int .i64 (at_ : Nat), .int .i64 ch, .int .i64 seen, pp, .bool d]
theorem refKept {b s w n : Nat} {S : SupS} {seen : Int} {pp : Value} {F1 : St} (hb : S.xs.length ≤ 100000000) [t1 : Take L (some ⟨b, 0, none⟩) (rtkV s n (-1) seen pp false) F1] [t2 : Take F1 (some ⟨s, 0, none⟩) (RSupO w S) G] :
  Fx Tryz.prog 162 [.pointer (some ⟨b, 0, none⟩)] L
   (fun v L' => v = .tuple #[] ∧ L' = rtkB b s n (if S.xs = [] then -1 else lastI S.xs) seen pp (decide (S.xs ≠ [])) :: pt (some ⟨s, 0, none⟩) (RSupO w S.kept) :: G) := by
 refine Fx.mk Tryz.func162 k162 nb_ ?_
 dsimp only [c162, kG, kS, kH, kM, kN, kF, kL, envOf, Nat.reduceAdd]
 refine Cx.ent (Ent.trans (Ent.of t1.out) (Ent.cons (Ent.of t2.out))) ?_
 refine Cx.openp (a := some ⟨s, 0, none⟩) rfl ?_
 rintro ⟨st, lm⟩
 simp only [rsupL, List.cons_append, List.nil_append]
 refine go ?_
 refine Sx.ca rfl (refTakeI (b := st) S.xs hb) ?_
 rintro v L' ⟨rfl, rfl⟩
 by_cases hx : S.xs = []
 ·rw [decide_eq_false (fun h => h hx), if_pos hx]
  refine go ?_
  refine Kr.none (.inl rfl) ?_ ⟨rfl, rfl⟩
  refine Ent.trans ?_ Ent.swap
  refine Ent.trans (RSupO.close (a := some ⟨s, 0, none⟩) (st := st) (lm := lm) (w := w) S.kept rfl rfl rfl) (Ent.cons ?_)
  exact ent
 ·rw [decide_eq_true hx, if_neg hx]
  refine go ?_
  refine Kr.none (.inl rfl) ?_ ⟨rfl, rfl⟩
  refine Ent.trans ?_ Ent.swap
  refine Ent.trans (RSupO.close (a := some ⟨s, 0, none⟩) (st := st) (lm := lm) (w := w) S.kept rfl rfl rfl) (Ent.cons ?_)
  exact ent
theorem refTakePop {b s w rm rp rs re n : Nat} {x : Cn} {S : SupS} {ch seen : Int} {pp : Value} {F1 F2 F3 : St} (hb : x.ba ≤ 8) [t1 : Take L (some ⟨b, 0, none⟩) (rtkV s n ch seen pp false) F1] [t2 : Take F1 (some ⟨s, 0, none⟩) (RSupO w S) F2] [t3 : Take F2 (some ⟨w, 0, none⟩) (RWO x rm rp rs re) F3] [t4 : Take F3 (some ⟨rp, 0, none⟩) (RSkO rm x.pool) G] :
  Fx Tryz.prog 163 [.pointer (some ⟨b, 0, none⟩)] L
   (fun v L' => ∃ p, v = .tuple #[] ∧ L' = rtkB b s 1 ch seen (.pointer (some ⟨p, 0, none⟩)) false :: pt (some ⟨p, 0, none⟩) (RPopO rp (PopS.init x.ba)) :: pt (some ⟨s, 0, none⟩) (RSupO w S) :: F2) := by
 refine Fx.mk Tryz.func163 k163 nb_ ?_
 dsimp only [c163, kG, kS, kH, kM, kN, kF, kL, envOf, Nat.reduceAdd]
 refine Cx.ent (Ent.trans (Ent.of t1.out) (Ent.cons (Ent.trans (Ent.of t2.out) (Ent.cons (Ent.trans (Ent.of t3.out) (Ent.cons (Ent.of t4.out))))))) ?_
 refine Cx.openp (a := some ⟨s, 0, none⟩) rfl ?_
 rintro ⟨st, lm⟩
 simp only [rsupL, List.cons_append, List.nil_append]
 refine Cx.orde rfl kr_ ?_
 refine ge ?_
 refine Ev.caH kr_ rfl rfl (refPopNew (sb := rp) (rm := rm) (k := x.pool) (x.ba : Int)) (Pres.deps kr_) ?_
 rintro v L' ⟨p, rfl, rfl⟩
 refine ge ?_
 refine Ev.stbH (b := b) kr_ rfl rfl rfl rfl rfl (by rfl) rfl (Pres.deps kr_) ?_
 refine ge ?_
 refine Ev.stbH (b := b) kr_ rfl rfl rfl rfl rfl (by rfl) rfl (Pres.deps kr_) ?_
 refine ge ?_
 refine Kr.none (.inl rfl) ?_ ⟨p, rfl, rfl⟩
 refine Ent.trans (Ent.take (a := some ⟨b, 0, none⟩)) (Ent.cons ?_)
 refine Ent.trans (Ent.take (a := some ⟨p, 0, none⟩)) (Ent.cons ?_)
 refine Ent.trans (RSupO.close (a := some ⟨s, 0, none⟩) (st := st) (lm := lm) (w := w) S rfl rfl rfl) (Ent.cons ?_)
 refine Ent.trans ?_ (Ent.of t3.back)
 refine Ent.trans ?_ (Ent.cons (Ent.of t4.back))
 exact ent
end
end Go.Proofs.YtggnbdeokmdjbaaGreat


namespace Go.Proofs.YtggnbdeokmdjbaaGreat
open Go
attribute [local irreducible] Sx Cx Rx Fx Krg Ksq Kbl Klp Kr
theorem holds_perm {L M : St} (p : L.Perm M) : ∀ {h : Hp}, holds L h → holds M h := by
 induction p with
 | nil => exact fun H => H
 | cons x _ ih => exact fun H => holds_cons (fun _ => ih) H
 | swap x y l => exact fun H => holds_swap H
 | trans _ _ ih1 ih2 => exact fun H => ih2 (ih1 H)
theorem Ent.perm {L M : St} (p : L.Perm M) : Ent L M := .of fun _ => holds_perm p
def many (n : Nat) (f : Nat → St) : St := (List.range n).flatMap f
def updS (f : Nat → St) (i : Nat) (s : St) : Nat → St := fun j => if j = i then s else f j
theorem Ent.deep {M N G : St} : Ent (N ++ (M ++ G)) (M ++ (N ++ G)) := by
 rw [← List.append_assoc, ← List.append_assoc]; exact .perm (List.perm_append_comm.append_right _)
theorem many_zero (f : Nat → St) : many 0 f = [] := rfl
theorem many_succ (n : Nat) (f : Nat → St) : many (n + 1) f = many n f ++ f n := by simp [many, List.range_succ]
theorem many_congr {n : Nat} {f g : Nat → St} (h : ∀ i, i < n → f i = g i) : many n f = many n g := by
 induction n with
 | zero => rfl
 | succ n ih => rw [many_succ, many_succ, ih fun i hi => h i (by omega), h n (by omega)]
theorem updS_same (f : Nat → St) (i : Nat) (s : St) : updS f i s i = s := if_pos rfl
theorem updS_ne (f : Nat → St) {i j : Nat} (s : St) (h : j ≠ i) : updS f i s j = f j := if_neg h
theorem updS_updS (f : Nat → St) (i : Nat) (s t : St) : updS (updS f i s) i t = updS f i t := by
 funext j; unfold updS; split <;> rfl
theorem many_perm {n : Nat} {f : Nat → St} : ∀ {i : Nat}, i < n → (many n f).Perm (f i ++ many n (updS f i [])) := by
 induction n with
 | zero => intro i h; omega
 | succ n ih =>
   intro i h
   rw [many_succ, many_succ]
   by_cases e : i = n
   ·subst e
    rw [updS_same, List.append_nil, many_congr (g := f) fun j hj => updS_ne f [] (by omega)]
    exact List.perm_append_comm
   ·rw [updS_ne f [] (show n ≠ i by omega), ← List.append_assoc]
    exact (ih (by omega)).append_right _
theorem Ent.one {n i : Nat} {f : Nat → St} {G : St} (h : i < n) : Ent (many n f ++ G) (f i ++ (many n (updS f i []) ++ G)) := by
 rw [← List.append_assoc]; exact .perm ((many_perm h).append_right _)
theorem Ent.oneBack {n i : Nat} {f : Nat → St} {s : St} {G : St} (h : i < n) : Ent (s ++ (many n (updS f i []) ++ G)) (many n (updS f i s) ++ G) := by
 have := (many_perm (f := updS f i s) h).append_right G
 rw [updS_same, updS_updS, List.append_assoc] at this
 exact .perm this.symm
theorem Ent.app {A B X : St} (h : Ent A B) : Ent (X ++ A) (X ++ B) := by
 induction X with
 | nil => exact h
 | cons P X ih => exact Ent.cons ih
theorem Ent.dropA {A B : St} : Ent (A ++ B) B := by
 induction A with
 | nil => exact Ent.refl _
 | cons P X ih => exact Ent.trans Ent.drop ih
class Many (L : St) (n : outParam Nat) (f : outParam (Nat → St)) (N G : outParam St) : Prop where
 eq : L = N ++ (many n f ++ G)
instance (priority := high) Many.here (n : Nat) (f : Nat → St) (G : St) : Many (many n f ++ G) n f [] G := ⟨rfl⟩
instance Many.there (P : As) (L : St) (n : Nat) (f : Nat → St) (N G : St) [t : Many L n f N G] : Many (P :: L) n f (P :: N) G := ⟨by rw [t.eq]; rfl⟩
theorem Ent.ith {L : St} {n : Nat} {f : Nat → St} {N G : St} [t : Many L n f N G] (i : Nat) (h : i < n) : Ent L (f i ++ (N ++ (many n (updS f i []) ++ G))) := by
 rw [t.eq]
 exact Ent.trans Ent.deep (Ent.trans (Ent.one h) (Ent.app Ent.deep))
theorem Ent.ithBack {n : Nat} {f : Nat → St} {N G s : St} {i : Nat} (h : i < n) : Ent (s ++ (N ++ (many n (updS f i []) ++ G))) (N ++ (many n (updS f i s) ++ G)) :=
 Ent.trans (Ent.app Ent.deep) (Ent.trans (Ent.oneBack h) Ent.deep)
theorem entm {L M : St} (h : Ent L M := by repeat (first | exact Ent.refl _ | (refine Ent.take1 ?_) | (refine Ent.trans Ent.drop ?_) | (refine Ent.trans Ent.dropA ?_))) : Ent L M := h
theorem updS_id (f : Nat → St) (i : Nat) : updS f i (f i) = f := by
 funext j; unfold updS; split
 ·rename_i h; rw [h]
 ·rfl
def ptrs (n : Nat) (U : Nat → Nat) : List Value := (List.range n).map fun i => .pointer (some ⟨U i, 0, none⟩)
theorem ptrs_succ (n : Nat) (U : Nat → Nat) : ptrs (n + 1) U = ptrs n U ++ [.pointer (some ⟨U n, 0, none⟩)] := by simp [ptrs, List.range_succ]
theorem ptrs_get {n i : Nat} {U : Nat → Nat} (h : i < n) : (ptrs n U)[i]? = some (.pointer (some ⟨U i, 0, none⟩)) := by simp [ptrs, h]
theorem ptrs_congr {n : Nat} {U V : Nat → Nat} (h : ∀ i, i < n → U i = V i) : ptrs n U = ptrs n V := by
 unfold ptrs
 refine List.map_congr_left fun i hi => ?_
 rw [h i (List.mem_range.1 hi)]
structure Who where
 u : Nat
 pb : Nat
 s : Nat
section
variable {L F G : St}
def whoL (mp w : Nat) (x : Cn) (q : Who) (S S2 : SupS) : St :=
 [pt (some ⟨q.u, 0, none⟩) (SupO mp q.pb x S), pt (some ⟨q.pb, 0, none⟩) (SkO mp x.pool), pt (some ⟨q.s, 0, none⟩) (RSupO w S2)]
end
end Go.Proofs.YtggnbdeokmdjbaaGreat


namespace Go.Proofs.YtggnbdeokmdjbaaGreat
open Go
attribute [local irreducible] Sx Cx Rx Fx Krg Ksq Kbl Klp Kr
section
variable {L F G : St}
theorem SupS.kept_nil {s : SupS} (h : s.xs = []) : s.kept = s := by
 cases s; simp only [SupS.kept]; simp only at h; subst h; rfl
theorem refTakeNew {s w rm rp rs re : Nat} {x : Cn} {S : SupS} {F1 F2 : St} (hx : x.ok) (hb : S.xs.length + S.lm.size ≤ 1000000) [t2 : Take L (some ⟨s, 0, none⟩) (RSupO w S) F1] [t3 : Take F1 (some ⟨w, 0, none⟩) (RWO x rm rp rs re) F2] [t4 : Take F2 (some ⟨rp, 0, none⟩) (RSkO rm x.pool) G] :
  Fx Tryz.prog 74 [.pointer (some ⟨s, 0, none⟩)] L
   (fun v L' => ∃ b, v = .pointer (some ⟨b, 0, none⟩) ∧ L' = pt (some ⟨b, 0, none⟩) (RTakeO s rp (takeInit x.ba S).2) :: pt (some ⟨s, 0, none⟩) (RSupO w (takeInit x.ba S).1) :: F1) := by
 obtain ⟨b1, b2, b3, b4, b5, b6, b7⟩ := hx.b
 refine Fx.mk Tryz.func74 k74 nb_ ?_
 dsimp only [c74, kG, kS, kH, kM, kN, kF, kL, envOf, Nat.reduceAdd]
 refine go ?_
 refine Sx.bx rfl rfl fun b => ?_
 refine go ?_
 refine Sx.ca rfl (refKept (b := b) (s := s) (w := w) (S := S) (n := 0) (seen := -1) (pp := .pointer none) (by omega)) ?_
 rintro v L' ⟨rfl, rfl⟩
 by_cases hxs : S.xs = []
 ·rw [decide_eq_false (fun h => h hxs), if_pos hxs, SupS.kept_nil hxs]
  refine Sx.nil ?_
  refine Krg.i ?_
  refine Ksq.nm ?_
  refine Cx.sq ?_
  refine Cx.sq ?_
  refine Cx.ent (Ent.cons (Ent.cons (Ent.trans (Ent.of t3.out) (Ent.cons (Ent.of t4.out))))) ?_
  refine Cx.openp (a := some ⟨s, 0, none⟩) rfl ?_
  rintro ⟨st, lm⟩
  simp only [rsupL, List.cons_append, List.nil_append]
  refine go ?_
  refine Sx.ca rfl (refLimboLen (b := lm) (m := S.lm) (by omega)) ?_
  rintro v L' ⟨rfl, rfl⟩
  refine go ?_
  by_cases hz : 0 < S.lm.size
  ·have e0 : takeInit x.ba S = (S, TakeS.none_) := by unfold takeInit keepT; rw [if_pos hxs]; simp only; rw [if_pos hz]
   rw [e0]
   refine Cx.cno rfl (decide_eq_false (by omega)) ?_
   refine go ?_
   refine Kr.one (.inr rfl) rfl ?_ ⟨b, rfl, rfl⟩
   refine Ent.trans (Ent.trans (Ent.take (a := some ⟨b, 0, none⟩)) (RTakeO.closeL (rp := rp) TakeS.none_ rfl rfl rfl)) (Ent.cons ?_)
   refine Ent.trans (RSupO.close (a := some ⟨s, 0, none⟩) (st := st) (lm := lm) (w := w) S rfl rfl rfl) (Ent.cons ?_)
   exact Ent.trans (Ent.cons (Ent.of t4.back)) (Ent.of t3.back)
  ·have e0 : takeInit x.ba S = (S, { TakeS.none_ with at_ := 1, q := PopS.init x.ba }) := by unfold takeInit keepT; rw [if_pos hxs]; simp only; rw [if_neg hz]
   rw [e0]
   refine Cx.cyes rfl (decide_eq_true (by omega)) ?_
   refine Cx.ent (RSupO.close (a := some ⟨s, 0, none⟩) (st := st) (lm := lm) (w := w) S rfl rfl rfl) ?_
   refine go ?_
   refine Sx.ca rfl (refTakePop (b := b) (s := s) (w := w) (rm := rm) (rp := rp) (rs := rs) (re := re) (x := x) (S := S) (n := 0) (ch := -1) (seen := -1) (pp := .pointer none) b6) ?_
   rintro v L' ⟨p, rfl, rfl⟩
   refine go ?_
   refine Kr.one (.inr rfl) rfl ?_ ⟨b, rfl, rfl⟩
   refine Ent.trans (RTakeO.closeP (rp := rp) { TakeS.none_ with at_ := 1, q := PopS.init x.ba } rfl (by simp) rfl rfl) (Ent.cons (Ent.cons ?_))
   exact Ent.trans (Ent.cons (Ent.of t4.back)) (Ent.of t3.back)
 ·have e0 : takeInit x.ba S = (S.kept, { TakeS.none_ with chunk := lastI S.xs, is_ := true, done := true }) := by unfold takeInit keepT; rw [if_neg hxs]
  rw [e0, decide_eq_true hxs, if_neg hxs]
  refine go ?_
  refine Kr.one (.inr rfl) rfl ?_ ⟨b, rfl, rfl⟩
  refine Ent.trans (RTakeO.closeD (rp := rp) { TakeS.none_ with chunk := lastI S.xs, is_ := true, done := true } rfl rfl rfl) ?_
  exact Ent.refl _
set_option maxHeartbeats 1000000 in
theorem refTakeStep {b s w rm rp rs re : Nat} {x : Cn} {S : SupS} {m : Mm} {t : TakeS} {F1 F2 F3 F4 : St} (hx : x.ok) (hl : x.len ≤ m.ws.length) (ht : t.ok) (hq : t.done = false → t.at_ = 1 → t.q.ok x.pool) (hb : S.xs.length + S.lm.size ≤ 1000000)
  [t1 : Take L (some ⟨b, 0, none⟩) (RTakeO s rp t) F1] [t2 : Take F1 (some ⟨s, 0, none⟩) (RSupO w S) F2] [t3 : Take F2 (some ⟨rm, 0, none⟩) (RMemO m) F3] [t4 : Take F3 (some ⟨w, 0, none⟩) (RWO x rm rp rs re) F4] [t5 : Take F4 (some ⟨rp, 0, none⟩) (RSkO rm x.pool) G] :
  Fx Tryz.prog 69 [.pointer (some ⟨b, 0, none⟩)] L
   (fun v L' => v = .bool (!t.done) ∧ L' = pt (some ⟨b, 0, none⟩) (RTakeO s rp (takeStep x.pool x.ba m S t).2.2) :: pt (some ⟨s, 0, none⟩) (RSupO w (takeStep x.pool x.ba m S t).2.1) :: pt (some ⟨rm, 0, none⟩) (RMemO (takeStep x.pool x.ba m S t).1) :: F3) := by
 obtain ⟨b1, b2, b3, b4, b5, b6, b7⟩ := hx.b
 have hl3 : 3 ≤ x.len := by unfold Cn.len; omega
 have hback : Ent (pt (some ⟨w, 0, none⟩) (RWO x rm rp rs re) :: pt (some ⟨rp, 0, none⟩) (RSkO rm x.pool) :: G) F3 := Ent.trans (Ent.cons (Ent.of t5.back)) (Ent.of t4.back)
 refine Fx.mk Tryz.func69 k69 nb_ ?_
 dsimp only [c69, kG, kS, kH, kM, kN, kF, kL, envOf, Nat.reduceAdd]
 refine Cx.ent (Ent.trans (Ent.of t1.out) (Ent.cons (Ent.trans (Ent.of t2.out) (Ent.cons (Ent.trans (Ent.of t3.out) (Ent.cons (Ent.trans (Ent.of t4.out) (Ent.cons (Ent.of t5.out))))))))) ?_
 refine Cx.pure (rmemKey (rm := rm) (m := m)) fun hm => ?_
 cases hd : t.done with
 | true =>
   have e1 : takeStep x.pool x.ba m S t = (m, S, t) := by unfold takeStep; rw [hd]; rfl
   rw [e1]
   refine Cx.openp (a := some ⟨b, 0, none⟩) (RTakeO.d hd) ?_
   rintro ⟨n, pp⟩
   simp only [rtakeDL, List.cons_append, List.nil_append]
   refine go ?_
   exact Kr.one (.inr rfl) rfl (Ent.trans (RTakeO.closeD t hd rfl rfl) (Ent.cons (Ent.cons (Ent.cons hback)))) ⟨rfl, rfl⟩
 | false =>
   have ha := ht.a
   rcases (show t.at_ = 0 ∨ t.at_ = 1 by omega) with h0 | h0
   ·have hlt := Mm.at_lt hm.1 2
    have hsz := size_ready (cutE (m.at_ 2)) S.lm
    have hsx : (S.ready (cutE (m.at_ 2))).xs.length ≤ 100000000 := by
     show (S.xs ++ (readyAll (cutE (m.at_ 2)) S.lm).1).length ≤ _
     rw [List.length_append]; omega
    refine Cx.openp (a := some ⟨b, 0, none⟩) (RTakeO.l hd h0) ?_
    rintro pp
    simp only [rtakeLL, List.cons_append, List.nil_append]
    refine Cx.openp (a := some ⟨s, 0, none⟩) rfl ?_
    rintro ⟨st, lm⟩
    simp only [rsupL, List.cons_append, List.nil_append]
    refine go ?_
    refine Sx.ca rfl (refLoad (rm := rm) (m := m) 2 (by omega)) ?_
    rintro v L' ⟨rfl, rfl⟩
    refine go ?_
    refine Sx.ca rfl (refCut (m.at_ 2) hlt) ?_
    rintro v L' ⟨rfl, rfl⟩
    refine go ?_
    refine Cx.ent (RSupO.close (a := some ⟨s, 0, none⟩) (st := st) (lm := lm) (w := w) S rfl rfl rfl) ?_
    refine Cx.ordc rfl kr_ ?_
    refine ge ?_
    refine Ev.caH kr_ rfl rfl (refSupReady (s := s) (w := w) (S := S) (now := cutE (m.at_ 2)) (by omega) (by omega) (by unfold cutE; omega)) (Pres.deps kr_) ?_
    rintro v L' ⟨rfl, rfl⟩
    refine ge ?_
    refine go ?_
    refine Sx.ca rfl (refKept (b := b) (s := s) (w := w) (S := S.ready (cutE (m.at_ 2))) (n := 0) (seen := cutE (m.at_ 2)) (pp := pp) hsx) ?_
    rintro v L' ⟨rfl, rfl⟩
    by_cases hxs : (S.ready (cutE (m.at_ 2))).xs = []
    ·have e1 : takeStep x.pool x.ba m S t = (m.tick, S.ready (cutE (m.at_ 2)), { t with seen := cutE (m.at_ 2), at_ := 1, q := PopS.init x.ba }) := by
      unfold takeStep keepT; rw [hd, h0]; simp only [Bool.false_eq_true, if_false]; rw [if_pos hxs]
     rw [e1, decide_eq_false (show ¬ ((S.ready (cutE (m.at_ 2))).xs ≠ []) from fun h => h hxs), if_pos hxs, SupS.kept_nil hxs]
     refine go ?_
     refine Sx.ca rfl (refTakePop (b := b) (s := s) (w := w) (rm := rm) (rp := rp) (rs := rs) (re := re) (x := x) (S := S.ready (cutE (m.at_ 2))) (n := 0) (ch := -1) (seen := cutE (m.at_ 2)) (pp := pp) b6) ?_
     rintro v L' ⟨p, rfl, rfl⟩
     refine go ?_
     refine Kr.one (.inr rfl) rfl ?_ ⟨rfl, rfl⟩
     refine Ent.trans (RTakeO.closeP (rp := rp) { t with seen := cutE (m.at_ 2), at_ := 1, q := PopS.init x.ba } hd (by simp) rfl rfl) (Ent.cons (Ent.cons ?_))
     refine Ent.trans ?_ (Ent.cons hback)
     exact ent
    ·have e1 : takeStep x.pool x.ba m S t = (m.tick, (S.ready (cutE (m.at_ 2))).kept, { t with seen := cutE (m.at_ 2), chunk := lastI (S.ready (cutE (m.at_ 2))).xs, is_ := true, done := true }) := by
      unfold takeStep keepT; rw [hd, h0]; simp only [Bool.false_eq_true, if_false]; rw [if_neg hxs]
     rw [e1, decide_eq_true hxs, if_neg hxs]
     refine go ?_
     refine Kr.one (.inr rfl) rfl ?_ ⟨rfl, rfl⟩
     refine Ent.trans (RTakeO.closeD (rp := rp) { t with seen := cutE (m.at_ 2), chunk := lastI (S.ready (cutE (m.at_ 2))).xs, is_ := true, done := true } rfl rfl rfl) (Ent.cons (Ent.cons ?_))
     refine Ent.trans ?_ (Ent.cons hback)
     exact ent
   ·have hk := hx.pool (n := m.ws.length) hl hm.2
    have hqo := hq hd h0
    refine Cx.openp (a := some ⟨b, 0, none⟩) (RTakeO.p hd (by omega)) ?_
    rintro p
    simp only [rtakePL, List.cons_append, List.nil_append]
    refine go ?_
    refine Sx.ca rfl (refPopStep (b := p) (sb := rp) (rm := rm) (k := x.pool) (m := m) (q := t.q) hk hqo) ?_
    rintro v L' ⟨rfl, rfl⟩
    have hq' := popStep_ok hk hm.1 hqo
    obtain ⟨q1, hq1⟩ : ∃ q1, (popStep x.pool m t.q).1 = q1 := ⟨_, rfl⟩
    obtain ⟨m1, hm1⟩ : ∃ m1, (popStep x.pool m t.q).2 = m1 := ⟨_, rfl⟩
    have hp1 : popStep x.pool m t.q = (q1, m1) := by rw [← hq1, ← hm1]
    rw [hq1] at hq'
    rw [hp1]
    dsimp only
    cases hqd : q1.done with
    | false =>
      have e1 : takeStep x.pool x.ba m S t = (m1, S, { t with q := q1 }) := by unfold takeStep; rw [hd, h0]; simp only [Bool.false_eq_true, if_false]; rw [hp1]; simp only [hqd, Bool.false_eq_true, if_false]
      rw [e1]
      refine Sx.nil ?_
      refine Krg.i ?_
      refine Ksq.nm ?_
      refine Cx.sq ?_
      refine Cx.openp (a := some ⟨p, 0, none⟩) rfl ?_
      rintro ⟨r, c⟩
      simp only [rpopL, List.cons_append, List.nil_append]
      rw [hqd]
      refine go ?_
      refine Kr.one (.inr rfl) rfl ?_ ⟨rfl, rfl⟩
      refine Ent.trans (RPopO.close (sb := rp) (a := some ⟨p, 0, none⟩) (r := r) q1 rfl rfl rfl rfl rfl rfl (by rw [hqd]) rfl) ?_
      refine Ent.trans (Ent.trans (Ent.take (a := some ⟨b, 0, none⟩)) (RTakeO.closeP (rp := rp) { t with q := q1 } hd (by dsimp only; omega) rfl rfl)) (Ent.cons ?_)
      refine Ent.trans ?_ (Ent.cons (Ent.cons hback))
      exact ent
    | true =>
      have e1 : takeStep x.pool x.ba m S t = (m1, popped S { t with q := q1 }) := by unfold takeStep; rw [hd, h0]; simp only [Bool.false_eq_true, if_false]; rw [hp1]; simp only [hqd, if_true]
      rw [e1]
      refine Sx.nil ?_
      refine Krg.i ?_
      refine Ksq.nm ?_
      refine Cx.sq ?_
      refine Cx.openp (a := some ⟨p, 0, none⟩) rfl ?_
      rintro ⟨r, c⟩
      simp only [rpopL, List.cons_append, List.nil_append]
      rw [hqd]
      refine go ?_
      refine Sx.ent (RPopO.close (sb := rp) (a := some ⟨p, 0, none⟩) (r := r) q1 rfl rfl rfl rfl rfl rfl (by rw [hqd]) rfl) ?_
      refine Sx.ca rfl (refPopGot (b := p) (sb := rp) (rm := rm) (k := x.pool) (q := q1) hqd hq'.len) ?_
      rintro v L' ⟨ro, co, rfl, rfl⟩
      refine go ?_
      cases hg : q1.got with
      | nil =>
        have e2 : popped S { t with q := q1 } = (S, { t with q := q1, done := true }) := by unfold popped; simp only [hg]
        rw [e2]
        refine go ?_
        refine Kr.one (.inr rfl) rfl ?_ ⟨rfl, rfl⟩
        refine Ent.trans (Ent.trans (Ent.take (a := some ⟨b, 0, none⟩)) (RTakeO.closeD (rp := rp) { t with q := q1, done := true } rfl (by unfold TakeS.ch; simp only; rw [(ht.i hd).2]; rfl) rfl)) (Ent.cons ?_)
        refine Ent.trans ?_ (Ent.cons (Ent.cons hback))
        exact ent
      | cons y l =>
        have e2 : popped S { t with q := q1 } = (S.give l, { t with q := q1, chunk := y, is_ := true, done := true }) := by unfold popped; simp only [hg]
        have h8 := hq'.len
        rw [hg] at h8
        simp only [List.length_cons] at h8 ⊢
        rw [e2]
        refine Cx.cyes rfl (decide_eq_true (by omega)) ?_
        refine Cx.rowkey (a := ro) fun hx0 hn0 hc0 hk0 => ?_
        obtain ⟨rg, rfl⟩ := row_some (i := 0) (by omega) (hk0.imp (fun h => ⟨h.1, h.2.1, h.2.2⟩) id)
        refine gg ?_
        refine Sx.ldr (b := rg) rfl (v := .int .i64 y) rfl ?_
        refine go ?_
        refine Cx.ent (Ent.take (a := some ⟨s, 0, none⟩)) ?_
        refine Cx.openp (a := some ⟨s, 0, none⟩) rfl ?_
        rintro ⟨st, lm⟩
        simp only [rsupL, List.cons_append, List.nil_append]
        refine Cx.ordc rfl kr_ ?_
        refine ge ?_
        refine Ev.caH kr_ rfl rfl (refGive (b := st) (ys := l) (Rd.suffix_ (g := rg) (i := 1) hx0 hn0 (by omega)) (by omega)) (Pres.deps kr_) ?_
        rintro v L' ⟨rfl, rfl⟩
        refine ge ?_
        refine go ?_
        refine Kr.one (.inr rfl) rfl ?_ ⟨rfl, rfl⟩
        refine Ent.trans (Ent.trans (Ent.take (a := some ⟨b, 0, none⟩)) (RTakeO.closeD (rp := rp) { t with q := q1, chunk := y, is_ := true, done := true } rfl rfl rfl)) (Ent.cons ?_)
        refine Ent.trans (RSupO.close (a := some ⟨s, 0, none⟩) (st := st) (lm := lm) (w := w) (S.give l) rfl rfl rfl) (Ent.cons ?_)
        refine Ent.trans ?_ (Ent.cons hback)
        exact ent
end
end Go.Proofs.YtggnbdeokmdjbaaGreat


namespace Go.Proofs.YtggnbdeokmdjbaaGreat
structure Rt where
 gen : Nat
 mrk : Nat
 cl : Nat
 off : Nat
def rtOf (w : Nat) : Rt := ⟨w / 4294967296, w / 65536 % 65536, w / 4096 % 16, w % 4096⟩
def Rt.w (r : Rt) : Nat := r.gen * 4294967296 + r.mrk * 65536 + r.cl * 4096 + r.off
structure Rt.ok (r : Rt) : Prop where
 g : r.gen < 4294967296
 m : r.mrk ≤ 4097
 c : r.cl ≤ 3
 o : r.off ≤ 1024
def Rt.live (r : Rt) (gen : Int) : Prop := 1 ≤ r.mrk ∧ (r.gen : Int) = gen
instance (r : Rt) (gen : Int) : Decidable (r.live gen) := by unfold Rt.live; infer_instance
def Rt.chunk (r : Rt) : Int := if r.mrk < 2 then -1 else (r.mrk : Int) - 2
def roundS (cl n : Nat) : Nat := (n + 2 ^ cl - 1) / 2 ^ cl * 2 ^ cl
def fitsS (wd off need : Nat) : Prop := 2 * need ≤ wd ∧ off + need ≤ wd
instance (wd off need : Nat) : Decidable (fitsS wd off need) := by unfold fitsS; infer_instance
def afterS (wd need : Nat) : Nat := if wd < 2 * need then wd else need
structure CreS where
 at_ : Nat
 cnt : Nat
 slot : Int
 point : Nat
 was : Nat
 code : Nat
 q : PopS
 done : Bool
def CreS.init : CreS := ⟨0, 0, -1, 0, 0, 0, PopS.init 1, false⟩
def nextRt (cl w : Nat) : Rt := ⟨laterT (rtOf w).gen, 1, cl, 0⟩
structure CreS.ok (k : Sk) (c : CreS) : Prop where
 a : c.at_ ≤ 2
 q : c.q.ok k
 w : c.was < 18446744073709551616
 s : c.at_ ≠ 0 → 0 ≤ c.slot ∧ c.slot < k.n
 n : c.cnt ≤ 1000000
structure EndS where
 at_ : Nat
 cnt : Nat
 was : Nat
 code : Nat
 chunk : Int
 point : Nat
 done : Bool
def EndS.init : EndS := ⟨0, 0, 0, 0, -1, 0, false⟩
structure Hd where
 slot : Int
 gen : Int
 chunk : Int
 off : Int
 len : Int
def Hd.zero : Hd := ⟨0, 0, 0, 0, 0⟩
structure AlV where
 cnt : Nat
 hand : Int
 zat : Nat
 asked : Bool
 ends : Bool
 need : Nat
 point : Nat
 was : Nat
 code : Nat
 obj : Hd
structure AlS where
 at_ : Nat
 v : AlV
 t : TakeS
 g : PushS
 done : Bool
def AlV.init : AlV := ⟨0, -1, 0, false, false, 0, 0, 0, 0, Hd.zero⟩
end Go.Proofs.YtggnbdeokmdjbaaGreat


namespace Go.Proofs.YtggnbdeokmdjbaaGreat
open Go
attribute [local irreducible] Sx Cx Rx Fx Krg Ksq Kbl Klp Kr
section
variable {L F G : St}
def Cn.root (x : Cn) : Nat := 3 + x.w
def Cn.word (x : Cn) : Nat := 3 + x.w + x.sl + x.sl + x.c
end
end Go.Proofs.YtggnbdeokmdjbaaGreat


namespace Go.Proofs.YtggnbdeokmdjbaaGreat
open Go
section
variable {P : Program} {N : Nat} {e : En} {L F : St}
end
section
variable {P : Program} {N : Nat} {Kf : En → St → Prop} {r : List It} {ms : List (Nat × (St → Prop))} {e : En} {L F : St} {i ds : Nat} {rs : List Nat} {d : Option Nat} {g : Option (Nat × Bool)}
end
end Go.Proofs.YtggnbdeokmdjbaaGreat


namespace Go.Proofs.YtggnbdeokmdjbaaGreat
open Go
attribute [local irreducible] Sx Cx Rx Fx Krg Ksq Kbl Klp Kr
section
variable {L F G : St}
end
end Go.Proofs.YtggnbdeokmdjbaaGreat


namespace Go.Proofs.YtggnbdeokmdjbaaGreat
open Go
attribute [local irreducible] Sx Cx Rx Fx Krg Ksq Kbl Klp Kr
section
variable {L F G : St}
theorem Sx.re {P : Program} {N : Nat} {l : List Go.Proofs.YtggnbdeokmdjbaaGreat.G} {e : En} {K : En → St → Prop} {b : Option Addr} {T : TypeId} {vs : List Value} {L : St} (vs' : List Value) (h : vs = vs') (k : Sx P N l e K (pt b (Blk T vs') :: L)) : Sx P N l e K (pt b (Blk T vs) :: L) := h ▸ k
def CreS.rt (cl : Nat) (c : CreS) : Rt := if c.at_ = 2 then nextRt cl c.was else ⟨0, 0, 0, 0⟩
end
end Go.Proofs.YtggnbdeokmdjbaaGreat


namespace Go.Proofs.YtggnbdeokmdjbaaGreat
open Go
attribute [local irreducible] Sx Cx Rx Fx Krg Ksq Kbl Klp Kr
section
variable {L F G : St}
end
end Go.Proofs.YtggnbdeokmdjbaaGreat


namespace Go.Proofs.YtggnbdeokmdjbaaGreat
open Go
attribute [local irreducible] Sx Cx Rx Fx Krg Ksq Kbl Klp Kr
section
variable {L F G : St}
end
end Go.Proofs.YtggnbdeokmdjbaaGreat


namespace Go.Proofs.YtggnbdeokmdjbaaGreat
structure AlP where
 k : Sk
 ro : Nat
 wo : Nat
 wd : Nat
 ba : Int
 slot : Nat
 gen : Int
 n : Nat
abbrev gNone : PushS := ⟨[], 0, 0, true⟩
def TakeS.zero : TakeS := ⟨0, 0, false, 0, PopS.init 1, true⟩
noncomputable def alClose (k : Sk) (s : SupS) (v : AlV) (t : TakeS) (code : Nat) (o : Hd) : SupS × AlS :=
 let s1 := if 0 ≤ v.hand then s.give [v.hand] else s
 let g := giveInit k (s1.xs.take (overK s1.most s1.xs))
 ({ s1 with xs := s1.xs.drop (overK s1.most s1.xs) }, ⟨6, { v with code := code, obj := o, point := v.cnt, ends := true, hand := -1 }, t, g, g.done⟩)
def alTaken (v : AlV) (t : TakeS) : AlS := if t.is_ then ⟨3, { v with hand := t.chunk }, t, gNone, false⟩ else ⟨0, v, t, gNone, false⟩
noncomputable def alSeen (p : AlP) (s : SupS) (v : AlV) (t : TakeS) : SupS × AlS :=
 if (rtOf v.was).live p.gen then
  let v1 : AlV := { v with need := roundS (rtOf v.was).cl p.n }
  if 2 ≤ (rtOf v.was).mrk ∧ fitsS p.wd (rtOf v.was).off (roundS (rtOf v.was).cl p.n) then (s, ⟨1, v1, t, gNone, false⟩)
  else if 0 ≤ v.hand then (s, ⟨4, v1, t, gNone, false⟩)
  else if v.asked then alClose p.k s v1 t 6 Hd.zero
  else if (takeInit p.ba s).2.done then ((takeInit p.ba s).1, alTaken { v1 with asked := true } (takeInit p.ba s).2)
  else ((takeInit p.ba s).1, ⟨2, { v1 with asked := true }, (takeInit p.ba s).2, gNone, false⟩)
 else alClose p.k s v t 3 Hd.zero
noncomputable def alStep (p : AlP) (m : Mm) (s : SupS) (a : AlS) : Mm × SupS × AlS :=
 if a.done then (m, s, a) else
 let v : AlV := { a.v with cnt := a.v.cnt + 1 }
 let w := rtOf a.v.was
 match a.at_ with
 | 0 => (m.tick, alSeen p s { v with was := m.at_ (p.ro + p.slot) } a.t)
 | 1 => if m.at_ (p.ro + p.slot) = a.v.was then (m.put (p.ro + p.slot) (Rt.w ⟨w.gen, w.mrk, w.cl, w.off + v.need⟩), alClose p.k s v a.t 0 ⟨p.slot, p.gen, w.chunk, w.off, p.n⟩) else (m.tick, s, ⟨0, v, a.t, gNone, false⟩)
 | 2 => ((takeStep p.k p.ba m s a.t).1, (takeStep p.k p.ba m s a.t).2.1, if (takeStep p.k p.ba m s a.t).2.2.done then alTaken v (takeStep p.k p.ba m s a.t).2.2 else ⟨2, v, (takeStep p.k p.ba m s a.t).2.2, gNone, false⟩)
 | 3 => (m.put (p.wo + v.hand.toNat * p.wd + v.zat) 0, s, ⟨if v.zat + 1 < p.wd then 3 else 4, { v with zat := v.zat + 1 }, a.t, gNone, false⟩)
 | 4 => (m.put (p.k.links + v.hand.toNat) (w.chunk + 1).toNat, s, ⟨5, v, a.t, gNone, false⟩)
 | 5 => if m.at_ (p.ro + p.slot) = a.v.was then (m.put (p.ro + p.slot) (Rt.w ⟨w.gen, 2 + v.hand.toNat, w.cl, afterS p.wd v.need⟩), alClose p.k s { v with hand := -1 } a.t 0 ⟨p.slot, p.gen, v.hand, 0, p.n⟩) else (m.tick, s, ⟨0, v, a.t, gNone, false⟩)
 | _ => ((pushStep p.k m a.g).2, s, ⟨6, v, a.t, (pushStep p.k m a.g).1, (pushStep p.k m a.g).1.done⟩)
def AlS.init : AlS := ⟨0, AlV.init, TakeS.zero, gNone, false⟩
noncomputable def alIt (p : AlP) : Nat → Mm × SupS × AlS → Mm × SupS × AlS
 | 0, r => r
 | j + 1, r => alStep p (alIt p j r).1 (alIt p j r).2.1 (alIt p j r).2.2
end Go.Proofs.YtggnbdeokmdjbaaGreat


namespace Go.Proofs.YtggnbdeokmdjbaaGreat
open Go
attribute [local irreducible] Sx Cx Rx Fx Krg Ksq Kbl Klp Kr
section
variable {L F G : St}
theorem supTake {u mp pb : Nat} {x : Cn} {s : SupS} {F : St} (hx : x.ok) (hb : s.xs.length + s.lm.size ≤ 1000000) [t : Take L (some ⟨u, 0, none⟩) (SupO mp pb x s) F] :
  Fx Tryz.prog 55 [.pointer (some ⟨u, 0, none⟩)] L (fun v L' => ∃ b, v = .pointer (some ⟨b, 0, none⟩) ∧ L' = pt (some ⟨b, 0, none⟩) (TakeO u pb x.pool (takeInit x.ba s).2) :: pt (some ⟨u, 0, none⟩) (SupO mp pb x (takeInit x.ba s).1) :: F) := by
 refine Fx.mk Tryz.func55 k55 nb_ ?_
 dsimp only [c55, kG, kS, kH, kM, kN, kF, kL, envOf, Nat.reduceAdd]
 refine Cx.ent (Ent.of t.out) ?_
 refine go ?_
 refine Sx.bx rfl rfl fun b => ?_
 refine go ?_
 refine Sx.ca rfl (takeKept (b := b) (u := u) (mp := mp) (pb := pb) (x := x) (s := s) (by omega)) ?_
 rintro v L' ⟨rfl, rfl⟩
 by_cases hxs : s.xs = []
 ·have hk : s.kept = s := by unfold SupS.kept; rw [hxs]; simp only [List.dropLast_nil]; rw [← hxs]
  rw [decide_eq_false (fun h : s.xs ≠ [] => h hxs), hk, show lastI s.xs = 0 by rw [hxs]; rfl]
  refine go ?_
  refine Sx.openp (a := some ⟨u, 0, none⟩) rfl ?_
  rintro ⟨sh, lm⟩
  simp only [supL, List.cons_append, List.nil_append]
  refine go ?_
  refine Sx.ca rfl (limboLen (b := lm) (m := s.lm) (by omega)) ?_
  rintro v L' ⟨rfl, rfl⟩
  refine go ?_
  by_cases hz : 0 < s.lm.size
  ·have e : takeInit x.ba s = (s, TakeS.none_) := by unfold takeInit keepT; rw [if_pos hxs]; simp only [if_pos hz]
   rw [e]
   refine Cx.cyes rfl (decide_eq_true (by omega)) ?_
   refine go ?_
   refine Sx.ca rfl (machGo (b := b)) ?_
   rintro v L' ⟨rfl, rfl⟩
   refine go ?_
   refine Kr.one (.inr rfl) rfl ?_ ⟨b, rfl, rfl⟩
   refine Ent.trans ?_ (TakeO.closeL (n1 := .nilFunc) (n2 := .nilFunc) (n3 := .nilFunc) (pp := .pointer none) (cnt := 0) TakeS.none_ rfl rfl rfl rfl rfl)
   refine Ent.cons ?_
   refine Ent.trans (SupO.close (a := some ⟨u, 0, none⟩) (sh := sh) (lm := lm) (mp := mp) (pb := pb) (x := x) s rfl rfl rfl) (Ent.refl _)
  ·have e : takeInit x.ba s = (s, { TakeS.none_ with at_ := 1, q := PopS.init x.ba }) := by unfold takeInit keepT; rw [if_pos hxs]; simp only [if_neg hz]
   rw [e]
   refine Cx.cno rfl (decide_eq_false (by omega)) ?_
   refine Cx.ent (Ent.trans (Ent.swap) (Ent.trans (Ent.cons (Ent.refl _)) (SupO.close (a := some ⟨u, 0, none⟩) (sh := sh) (lm := lm) (mp := mp) (pb := pb) (x := x) s rfl rfl rfl))) ?_
   refine go ?_
   refine Sx.ca rfl (takeAsk (b := b) (u := u) (mp := mp) (pb := pb) (x := x) (s := s) hx) ?_
   rintro v L' rfl
   refine go ?_
   refine Kr.one (.inr rfl) rfl ?_ ⟨b, rfl, rfl⟩
   exact Ent.refl _
 ·have e : takeInit x.ba s = (s.kept, { TakeS.none_ with chunk := lastI s.xs, is_ := true, done := true }) := by unfold takeInit keepT; rw [if_neg hxs]
  rw [e, decide_eq_true (show s.xs ≠ [] from hxs)]
  refine go ?_
  exact Kr.one (.inr rfl) rfl (TakeO.closeD _ rfl rfl rfl rfl) ⟨b, rfl, rfl⟩
end
end Go.Proofs.YtggnbdeokmdjbaaGreat


namespace Go.Proofs.YtggnbdeokmdjbaaGreat
open Go
attribute [local irreducible] Sx Cx Rx Fx Krg Ksq Kbl Klp Kr
section
variable {L F G : St}
abbrev Cn.al (x : Cn) (slot : Nat) (gen : Int) (n : Nat) : AlP := ⟨x.pool, x.root, x.word, x.wd, x.ba, slot, gen, n⟩
section
variable {T : TypeId} {g u pb : Nat} {x : Cn} {slot : Nat} {gen : Int} {n : Nat} {s : AlS} {a : Option Addr}
end
end
end Go.Proofs.YtggnbdeokmdjbaaGreat


namespace Go.Proofs.YtggnbdeokmdjbaaGreat
open Go
attribute [local irreducible] Sx Cx Rx Fx Krg Ksq Kbl Klp Kr
section
variable {L F G : St}
end
end Go.Proofs.YtggnbdeokmdjbaaGreat


namespace Go.Proofs.YtggnbdeokmdjbaaGreat
open Go
attribute [local irreducible] Sx Cx Rx Fx Krg Ksq Kbl Klp Kr
section
variable {L F G : St}
end
end Go.Proofs.YtggnbdeokmdjbaaGreat


namespace Go.Proofs.YtggnbdeokmdjbaaGreat
open Go
attribute [local irreducible] Sx Cx Rx Fx Krg Ksq Kbl Klp Kr
section
variable {L F G : St}
end
end Go.Proofs.YtggnbdeokmdjbaaGreat


namespace Go.Proofs.YtggnbdeokmdjbaaGreat
open Go
attribute [local irreducible] Sx Cx Rx Fx Krg Ksq Kbl Klp Kr
section
variable {L F G : St}
end
end Go.Proofs.YtggnbdeokmdjbaaGreat


namespace Go.Proofs.YtggnbdeokmdjbaaGreat
open Go
attribute [local irreducible] Sx Cx Rx Fx Krg Ksq Kbl Klp Kr
section
variable {L F G : St}
end
end Go.Proofs.YtggnbdeokmdjbaaGreat


namespace Go.Proofs.YtggnbdeokmdjbaaGreat
open Go
attribute [local irreducible] Sx Cx Rx Fx Krg Ksq Kbl Klp Kr
structure AlOk (x : Cn) (a : AlS) : Prop where
 o0 : a.at_ ≤ 6
 o1 : a.v.cnt ≤ 1000000
 o2 : -1 ≤ a.v.hand
 o3 : a.v.hand < x.c
 o4 : (rtOf a.v.was).ok
 o5 : a.at_ = 1 → (rtOf a.v.was).off + a.v.need ≤ x.wd
 o6 : a.at_ = 5 → 1 ≤ a.v.need ∧ a.v.need ≤ x.wd
 o7 : a.at_ = 3 ∨ a.at_ = 4 ∨ a.at_ = 5 → 0 ≤ a.v.hand
 o8 : a.at_ = 3 → a.v.zat < x.wd
 o9 : a.at_ = 2 → a.t.ok
section
variable {L F G : St}
end
end Go.Proofs.YtggnbdeokmdjbaaGreat


namespace Go.Proofs.YtggnbdeokmdjbaaGreat
open Go
attribute [local irreducible] Sx Cx Rx Fx Krg Ksq Kbl Klp Kr
def tkIt (k : Sk) (ba : Int) : Nat → Mm × SupS × TakeS → Mm × SupS × TakeS
 | 0, r => r
 | n + 1, r => takeStep k ba (tkIt k ba n r).1 (tkIt k ba n r).2.1 (tkIt k ba n r).2.2
theorem takeStep_len {k : Sk} {ba : Int} {m : Mm} {s : SupS} {t : TakeS} : (takeStep k ba m s t).1.ws.length = m.ws.length := by
 unfold takeStep
 split
 ·rfl
 ·split
  ·dsimp only
   split <;> rfl
  ·dsimp only
   have : (popStep k m t.q).2.ws.length = m.ws.length := by
    unfold popStep
    split
    ·rfl
    ·split
     ·split <;> rfl
     ·split <;> rfl
     ·exact Mm.len_cas
   split <;> exact this
theorem tk_pop {k : Sk} {ba : Int} {m : Mm} {s : SupS} {t : TakeS} (hd : t.done = false) (ha : t.at_ = 1) : ∀ j : Nat, (∀ i, i ≤ j → 0 < i → (popIt k i (t.q, m)).1.done = false) →
  tkIt k ba j (m, s, t) = ((popIt k j (t.q, m)).2, s, { t with q := (popIt k j (t.q, m)).1 })
 | 0, _ => rfl
 | j + 1, h => by
   have ih := tk_pop (k := k) (ba := ba) (m := m) (s := s) hd ha j fun i hi => h i (by omega)
   have e := h (j + 1) (by omega) (by omega)
   rw [popIt_succ] at e
   simp only [tkIt]
   rw [ih, popIt_succ]
   unfold takeStep
   simp only [hd, ha, Bool.false_eq_true, if_false]
   rw [e]
   simp
theorem take_alone {k : Sk} {m : Mm} {l : List Int} {len : Nat} (hk : k.ok len) (hml : m.ws.length = len) (hp : Pool k m l) {ba : Int} (h1 : 1 ≤ ba) (h8 : ba ≤ 8) (hl : l ≠ []) (c : Nat) (hc : (c : Int) = min ba l.length)
  {s : SupS} {t : TakeS} (hd : t.done = false) (ha : t.at_ = 1) (hq : t.q = PopS.init ba) :
  ∃ m' q, tkIt k ba (c + 2) (m, s, t) = (m', s.give (l.take c).tail, { t with q := q, chunk := l.headD 0, is_ := true, done := true }) ∧ m'.n = m.n + (c + 2) ∧ m'.ws.length = len ∧ Pool k m' (l.drop c) ∧ (∀ a, a ≠ k.head → m'.at_ a = m.at_ a) ∧
   (∀ j, j < c + 2 → (tkIt k ba j (m, s, t)).2.2.done = false ∧ (tkIt k ba j (m, s, t)).2.1 = s) := by
 obtain ⟨m', e, h2, h3, h4, h5, h6⟩ := pop_alone hk hml hp ba h1 h8 hl c hc
 rw [← hq] at e h6
 have hb : ∀ j, j < c + 2 → tkIt k ba j (m, s, t) = ((popIt k j (t.q, m)).2, s, { t with q := (popIt k j (t.q, m)).1 }) := fun j hj => tk_pop hd ha j fun i hi _ => h6 i (by omega)
 have hc1 : 1 ≤ c := by
  have := List.length_pos_iff.2 hl
  omega
 obtain ⟨x, l', rfl⟩ := List.exists_cons_of_ne_nil hl
 refine ⟨m', ⟨ba, 0, ((x :: l').drop c).headD (-1), m.at_ k.head, (x :: l').take c, true⟩, ?_, h2, h3, h4, h5, fun j hj => ?_⟩
 rotate_left
 ·rw [hb j hj]; exact ⟨hd, rfl⟩
 ·show takeStep k ba (tkIt k ba (c + 1) (m, s, t)).1 (tkIt k ba (c + 1) (m, s, t)).2.1 (tkIt k ba (c + 1) (m, s, t)).2.2 = _
  rw [hb (c + 1) (by omega)]
  unfold takeStep
  simp only [hd, ha, Bool.false_eq_true, if_false]
  rw [← popIt_succ, e]
  simp only [if_true]
  unfold popped
  obtain ⟨c', rfl⟩ : ∃ c', c = c' + 1 := ⟨c - 1, by omega⟩
  simp only [List.take_succ_cons, List.tail_cons, List.headD_cons]
section
variable {L F G : St}
end
end Go.Proofs.YtggnbdeokmdjbaaGreat


namespace Go.Proofs.YtggnbdeokmdjbaaGreat
structure ColS where
 at_ : Nat
 a : AdvS
 g : PushS
 done : Bool
def ColS.init : ColS := ⟨0, AdvS.init, ⟨[], 0, 0, true⟩, false⟩
noncomputable def colStep (k : Sk) (n : Nat) (m : Mm) (s : SupS) (c : ColS) : Mm × SupS × ColS :=
 if c.done then (m, s, c) else
 match c.at_ with
 | 0 => ((advStep n m c.a).2, s, { c with a := (advStep n m c.a).1, at_ := if (advStep n m c.a).1.done then 1 else 0 })
 | 1 => (m.tick, { s.ready (cutE (m.at_ 2)) with xs := [] }, { c with at_ := 2, g := giveInit k (s.ready (cutE (m.at_ 2))).xs, done := (giveInit k (s.ready (cutE (m.at_ 2))).xs).done })
 | _ => ((pushStep k m c.g).2, s, { c with g := (pushStep k m c.g).1, done := (pushStep k m c.g).1.done })
noncomputable def colIt (k : Sk) (n : Nat) : Nat → Mm × SupS × ColS → Mm × SupS × ColS
 | 0, r => r
 | j + 1, r => colStep k n (colIt k n j r).1 (colIt k n j r).2.1 (colIt k n j r).2.2
end Go.Proofs.YtggnbdeokmdjbaaGreat


namespace Go.Proofs.YtggnbdeokmdjbaaGreat
open Go
attribute [local irreducible] Sx Cx Rx Fx Krg Ksq Kbl Klp Kr
theorem pushStep_len {k : Sk} {m : Mm} {p : PushS} : (pushStep k m p).2.ws.length = m.ws.length := by
 unfold pushStep
 (repeat' split) <;> simp [Mm.put, Mm.tick, Mm.len_cas]
theorem gives_plain {k : Sk} {m : Mm} {x l : List Int} {len : Nat} (hk : k.ok len) (hml : m.ws.length = len) (hp : Pool k m l) (hnd : x.Nodup) (hr : ∀ i ∈ x, 0 ≤ i ∧ i < k.n) (hdj : ∀ i ∈ x, i ∉ l) :
  ∃ (N : Nat) (m' : Mm) (p' : PushS), N = (if x = [] then 0 else x.length + 2) ∧ pushIt k N (giveInit k x, m) = (p', m') ∧ p'.done = true ∧ m'.n = m.n + N ∧ m'.ws.length = len ∧ Pool k m' (x ++ l) ∧
   (∀ a, a ≠ k.head → (∀ i ∈ x, a ≠ k.links + i.toNat) → m'.at_ a = m.at_ a) ∧ (∀ j, j < N → (pushIt k j (giveInit k x, m)).1.done = false) := by
 rw [giveInit_yes ⟨hnd, hr⟩]
 by_cases hx : x = []
 ·subst hx
  exact ⟨0, m, PushS.init [], rfl, rfl, rfl, rfl, hml, hp, fun _ _ _ => rfl, fun j hj => by omega⟩
 ·obtain ⟨m', e, h2, h3, h4, h5, h6⟩ := push_alone hk hml hp hx hnd hr hdj
  exact ⟨x.length + 2, m', _, by rw [if_neg hx], e, rfl, h2, h3, h4, h5, h6⟩
section
variable {L F G : St}
end
end Go.Proofs.YtggnbdeokmdjbaaGreat


namespace Go.Proofs.YtggnbdeokmdjbaaGreat
theorem advStep_len {n : Nat} {m : Mm} {a : AdvS} : (advStep n m a).2.ws.length = m.ws.length := by
 unfold advStep
 (repeat' split) <;> simp [Mm.tick, Mm.len_cas]
theorem colStep_len {k : Sk} {n : Nat} {m : Mm} {s : SupS} {c : ColS} : (colStep k n m s c).1.ws.length = m.ws.length := by
 unfold colStep
 (repeat' split) <;> simp [Mm.tick, advStep_len, pushStep_len]
theorem colIt_len {k : Sk} {n : Nat} {r : Mm × SupS × ColS} : ∀ j, (colIt k n j r).1.ws.length = r.1.ws.length
 | 0 => rfl
 | j + 1 => by show (colStep _ _ _ _ _).1.ws.length = _; rw [colStep_len]; exact colIt_len j
theorem colStep_at {k : Sk} {n : Nat} {m : Mm} {s : SupS} {c : ColS} (h : c.at_ ≤ 2) : (colStep k n m s c).2.2.at_ ≤ 2 := by
 unfold colStep
 (repeat' split) <;> dsimp only <;> (try split) <;> omega
theorem colIt_at {k : Sk} {n : Nat} {m : Mm} {s : SupS} : ∀ j, (colIt k n j (m, s, ColS.init)).2.2.at_ ≤ 2
 | 0 => by simp [colIt, ColS.init]
 | j + 1 => colStep_at (colIt_at j)
theorem SupS.ready_size (s : SupS) (now : Int) : (s.ready now).xs.length + (s.ready now).lm.size = s.xs.length + s.lm.size := by
 have := size_ready now s.lm
 show (s.xs ++ (readyAll now s.lm).1).length + (readyAll now s.lm).2.size = _
 rw [List.length_append]; omega
theorem colStep_size {k : Sk} {n : Nat} {m : Mm} {s : SupS} {c : ColS} : (colStep k n m s c).2.1.xs.length + (colStep k n m s c).2.1.lm.size ≤ s.xs.length + s.lm.size := by
 have h := s.ready_size (cutE (m.at_ 2))
 unfold colStep
 split
 ·exact Nat.le_refl _
 ·split
  ·exact Nat.le_refl _
  ·show 0 + (s.ready (cutE (m.at_ 2))).lm.size ≤ _; omega
  ·exact Nat.le_refl _
theorem colIt_size {k : Sk} {n : Nat} {m : Mm} {s : SupS} {c : ColS} : ∀ j, (colIt k n j (m, s, c)).2.1.xs.length + (colIt k n j (m, s, c)).2.1.lm.size ≤ s.xs.length + s.lm.size
 | 0 => Nat.le_refl _
 | j + 1 => Nat.le_trans colStep_size (colIt_size j)
theorem col_adv {k : Sk} {n : Nat} {m : Mm} {s : SupS} {K : Nat} (hnd : ∀ j, j < K → (advIt n j (AdvS.init, m)).1.done = false) : ∀ j, j ≤ K →
  colIt k n j (m, s, ColS.init) = ((advIt n j (AdvS.init, m)).2, s, { ColS.init with a := (advIt n j (AdvS.init, m)).1, at_ := if (advIt n j (AdvS.init, m)).1.done then 1 else 0 })
 | 0, _ => rfl
 | j + 1, h => by
   show colStep k n (colIt k n j (m, s, ColS.init)).1 (colIt k n j (m, s, ColS.init)).2.1 (colIt k n j (m, s, ColS.init)).2.2 = _
   rw [col_adv hnd j (by omega), hnd j (by omega)]
   rfl
theorem col_alone {k : Sk} {n : Nat} {m m1 m' : Mm} {s s1 : SupS} {a : AdvS} {p' : PushS} {K N2 : Nat} (hnd : ∀ j, j < K → (advIt n j (AdvS.init, m)).1.done = false) (he : advIt n K (AdvS.init, m) = (a, m1)) (hd : a.done = true)
  (hs : s1 = s.ready (cutE (m1.at_ 2))) (hp : pushIt k N2 (giveInit k s1.xs, m1.tick) = (p', m')) (hpd : p'.done = true) (hpn : ∀ j, j < N2 → (pushIt k j (giveInit k s1.xs, m1.tick)).1.done = false) :
  colIt k n (K + 1 + N2) (m, s, ColS.init) = (m', { s1 with xs := [] }, ⟨2, a, p', true⟩) ∧ ∀ j, j < K + 1 + N2 → (colIt k n j (m, s, ColS.init)).2.2.done = false := by
 subst hs
 have h0 := col_adv (k := k) (s := s) hnd K (Nat.le_refl _)
 rw [he] at h0
 simp only [hd, if_true] at h0
 have h1 : ∀ j, j ≤ N2 → colIt k n (K + 1 + j) (m, s, ColS.init) = ((pushIt k j (giveInit k (s.ready (cutE (m1.at_ 2))).xs, m1.tick)).2, { s.ready (cutE (m1.at_ 2)) with xs := [] }, ⟨2, a, (pushIt k j (giveInit k (s.ready (cutE (m1.at_ 2))).xs, m1.tick)).1, (pushIt k j (giveInit k (s.ready (cutE (m1.at_ 2))).xs, m1.tick)).1.done⟩) := by
  intro j
  induction j with
  | zero =>
    intro _
    show colStep k n (colIt k n K (m, s, ColS.init)).1 (colIt k n K (m, s, ColS.init)).2.1 (colIt k n K (m, s, ColS.init)).2.2 = _
    rw [h0]
    rfl
  | succ j ih =>
    intro hj
    show colStep k n (colIt k n (K + 1 + j) (m, s, ColS.init)).1 (colIt k n (K + 1 + j) (m, s, ColS.init)).2.1 (colIt k n (K + 1 + j) (m, s, ColS.init)).2.2 = _
    rw [ih (by omega), hpn j (by omega), pushIt_succ]
    rfl
 refine ⟨?_, fun j hj => ?_⟩
 ·rw [h1 N2 (Nat.le_refl _), hp, hpd]
 ·by_cases hjK : j ≤ K
  ·rw [col_adv hnd j hjK]
   rfl
  ·obtain ⟨i, rfl⟩ : ∃ i, j = K + 1 + i := ⟨j - (K + 1), by omega⟩
   rw [h1 i (by omega), hpn i (by omega)]
theorem Pool.congr {k : Sk} {m m' : Mm} {l : List Int} (h : Pool k m l) (h0 : m'.at_ k.head = m.at_ k.head) (hl : ∀ i, i < k.n → m'.at_ (k.links + i) = m.at_ (k.links + i)) : Pool k m' l := by
 refine ⟨?_, h.nd⟩
 rw [h0]
 refine h.c.congr fun x hx => hl _ ?_
 have := h.c.mem x hx
 omega
theorem col_free {x : Cn} {m : Mm} {s : SupS} {l xs : List Int} (hx : x.ok) (hml : m.ws.length = x.len) (hm : m.ok) (hp : Pool x.pool m l) (hb : ∀ j, j < x.w → ¬ behind (m.at_ 2) (m.at_ (3 + j))) (hxs : xs = (s.ready (cutE ((m.at_ 2 + 1) % 18446744073709551616))).xs)
  (hnd : xs.Nodup) (hr : ∀ i ∈ xs, 0 ≤ i ∧ i < x.c) (hdj : ∀ i ∈ xs, i ∉ l) :
  ∃ (N : Nat) (m' : Mm) (c' : ColS), N = x.w + 3 + (if xs = [] then 0 else xs.length + 2) ∧ colIt x.pool x.w N (m, s, ColS.init) = (m', { s.ready (cutE ((m.at_ 2 + 1) % 18446744073709551616)) with xs := [] }, c') ∧ c'.done = true ∧ c'.g.done = true ∧ c'.a.won = true ∧ c'.at_ ≤ 2 ∧
   (∀ j, j < N → (colIt x.pool x.w j (m, s, ColS.init)).2.2.done = false) ∧ m'.ws.length = x.len ∧ Pool x.pool m' (xs ++ l) ∧ m'.at_ 2 = (m.at_ 2 + 1) % 18446744073709551616 ∧ m'.n = m.n + N ∧ (∀ a, a ≠ 0 → a ≠ 2 → (∀ i ∈ xs, a ≠ x.link + i.toNat) → m'.at_ a = m.at_ a) := by
 obtain ⟨b1, b2, b3, b4, b5, b6, b7⟩ := hx.b
 have hlen := hx.len_le
 have hk := hx.pool (Nat.le_refl x.len) hlen
 have hl3 : 3 ≤ x.len := by unfold Cn.len; omega
 have hlk : 3 < x.link := by unfold Cn.link; omega
 obtain ⟨ha, hand⟩ := adv_alone (n := x.w) (m := m) (by omega) hb
 have hput : ∀ a v, ((m.add (x.w + 1)).put 2 v).at_ a = if 2 = a then v else m.at_ a := fun a v => by
  rw [Mm.at_put _ (by show 2 < m.ws.length; omega)]; rfl
 have hm1l : ((m.add (x.w + 1)).put 2 ((m.at_ 2 + 1) % 18446744073709551616)).tick.ws.length = x.len := by
  show (Mm.put _ 2 _).ws.length = _; rw [Mm.len_put]; exact hml
 have hp1 : Pool x.pool ((m.add (x.w + 1)).put 2 ((m.at_ 2 + 1) % 18446744073709551616)).tick l := by
  refine hp.congr ?_ fun i _ => ?_
  ·show ((m.add (x.w + 1)).put 2 ((m.at_ 2 + 1) % 18446744073709551616)).at_ 0 = m.at_ 0
   rw [hput, if_neg (by omega)]
  ·show ((m.add (x.w + 1)).put 2 ((m.at_ 2 + 1) % 18446744073709551616)).at_ (x.link + i) = m.at_ (x.link + i)
   rw [hput, if_neg (by omega)]
 obtain ⟨N2, m', p', hN2, e2, hd2, hn2, hl2, hp2, hat2, hnd2⟩ := gives_plain (k := x.pool) (x := xs) (l := l) hk hm1l hp1 hnd hr hdj
 have h2 : ((m.add (x.w + 1)).put 2 ((m.at_ 2 + 1) % 18446744073709551616)).at_ 2 = (m.at_ 2 + 1) % 18446744073709551616 := by rw [hput, if_pos rfl]
 obtain ⟨hc, hcn⟩ := col_alone (k := x.pool) (s := s) hand ha rfl (by rw [h2]) (by rw [← hxs]; exact e2) hd2 (by rw [← hxs]; exact hnd2)
 have hne : ∀ i ∈ xs, (2 : Nat) ≠ x.link + i.toNat := fun i _ => by omega
 refine ⟨x.w + 2 + 1 + N2, m', _, by rw [hN2], hc, rfl, hd2, rfl, Nat.le_refl _, hcn, hl2, hp2, ?_, ?_, fun a h0 h2' hi => ?_⟩
 ·rw [hat2 2 (by show 2 ≠ 0; omega) hne]
  exact h2
 ·rw [hn2]
  show m.n + (x.w + 1) + 1 + 1 + N2 = _
  omega
 ·rw [hat2 a h0 hi]
  show ((m.add (x.w + 1)).put 2 ((m.at_ 2 + 1) % 18446744073709551616)).at_ a = _
  rw [hput, if_neg (fun h => h2' h.symm)]
end Go.Proofs.YtggnbdeokmdjbaaGreat


namespace Go.Proofs.YtggnbdeokmdjbaaGreat
structure Agree (A : Nat → Prop) (m m2 : Mm) : Prop where
 len : m2.ws.length = m.ws.length
 n : m2.n = m.n
 at_ : ∀ a, A a → m2.at_ a = m.at_ a
theorem Agree.tick {A : Nat → Prop} {m m2 : Mm} (h : Agree A m m2) : Agree A m.tick m2.tick := ⟨h.len, congrArg (· + 1) h.n, h.at_⟩
theorem Agree.put {A : Nat → Prop} {m m2 : Mm} (h : Agree A m m2) {i v : Nat} (hi : i < m.ws.length) : Agree A (m.put i v) (m2.put i v) := by
 refine ⟨by rw [Mm.len_put, Mm.len_put, h.len], congrArg (· + 1) h.n, fun a ha => ?_⟩
 rw [Mm.at_put _ (by rw [h.len]; exact hi), Mm.at_put _ hi, h.at_ a ha]
theorem Agree.cas {A : Nat → Prop} {m m2 : Mm} (h : Agree A m m2) {i o v : Nat} (hi : i < m.ws.length) (ha : A i) : Agree A (m.cas i o v) (m2.cas i o v) := by
 unfold Mm.cas
 rw [h.at_ i ha]
 split
 ·exact h.put hi
 ·exact h.tick
structure Covers (A : Nat → Prop) (k : Sk) : Prop where
 h : A k.head
 l : ∀ i, i < k.n → A (k.links + i)
theorem popStep_agree {A : Nat → Prop} {k : Sk} {m m2 : Mm} {q : PopS} (h : Agree A m m2) (hk : k.ok m.ws.length) (c : Covers A k) (hq : q.ok k) : (popStep k m2 q).1 = (popStep k m q).1 ∧ Agree A (popStep k m q).2 (popStep k m2 q).2 := by
 unfold popStep
 cases hd : q.done with
 | true => exact ⟨rfl, h⟩
 | false =>
   simp only [Bool.false_eq_true, if_false]
   have ha := hq.a
   rw [h.at_ _ c.h]
   rcases (show q.at_ = 0 ∨ q.at_ = 1 ∨ q.at_ = 2 by omega) with h0 | h0 | h0
   ·rw [h0]
    simp only
    split <;> exact ⟨rfl, h.tick⟩
   ·have hlast := hq.g _ (lastI_mem (hq.ne hd (by omega)))
    rw [h0, h.at_ _ (c.l (lastI q.got).toNat (by omega))]
    simp only
    split <;> exact ⟨rfl, h.tick⟩
   ·rw [h0]
    exact ⟨rfl, h.cas hk.h c.h⟩
theorem advStep_agree {A : Nat → Prop} {n : Nat} {m m2 : Mm} {a : AdvS} (h : Agree A m m2) (hl : 3 ≤ m.ws.length) (c2 : A 2) (c3 : ∀ i, i < n → A (3 + i)) (hw : a.done = false → a.at_ = 1 → a.worker < n) : (advStep n m2 a).1 = (advStep n m a).1 ∧ Agree A (advStep n m a).2 (advStep n m2 a).2 := by
 unfold advStep
 cases hd : a.done with
 | true => exact ⟨rfl, h⟩
 | false =>
   simp only [Bool.false_eq_true, if_false]
   rw [h.at_ _ c2]
   split
   ·exact ⟨rfl, h.tick⟩
   ·rename_i h1
    rw [h.at_ _ (c3 _ (hw hd h1))]
    split <;> exact ⟨rfl, h.tick⟩
   ·exact ⟨rfl, h.cas (by omega) c2⟩
structure TkOk (k : Sk) (len : Nat) (r : Mm × SupS × TakeS) : Prop where
 m : r.1.ok
 l : r.1.ws.length = len
 t : r.2.2.ok
 q : r.2.2.done = false → r.2.2.at_ = 1 → r.2.2.q.ok k
theorem popStep_mok {k : Sk} {m : Mm} {q : PopS} (hm : m.ok) (hq : q.ok k) (hn : k.n ≤ 4096) : (popStep k m q).2.ok := by
 have hu := hq.u2
 unfold popStep
 (repeat' split) <;> first | exact hm | exact Mm.ok_tick hm | exact Mm.ok_cas hm (nextW_lt hq.w (by omega))
theorem TkOk.step {k : Sk} {ba : Int} {len : Nat} {r : Mm × SupS × TakeS} (hk : k.ok len) (h : TkOk k len r) : TkOk k len (takeStep k ba r.1 r.2.1 r.2.2) := by
 obtain ⟨m, s, t⟩ := r
 have hm := h.m
 have hl := h.l
 simp only at hm hl ⊢
 refine ⟨?_, by rw [takeStep_len]; exact hl, takeStep_ok h.t, ?_⟩
 ·unfold takeStep
  split
  ·exact hm
  ·rename_i hd
   split
   ·dsimp only; split <;> exact hm
   ·rename_i hne
    have ha := h.t.a
    have := popStep_mok (k := k) (q := t.q) hm (h.q (by simpa using hd) (by simp only at ha; have : t.at_ ≠ 0 := hne; simp only; omega)) hk.n2
    dsimp only; split <;> exact this
 ·unfold takeStep
  split
  ·exact h.q
  ·rename_i hd
   split
   ·dsimp only
    split
    ·rename_i r' hr
     unfold keepT at hr
     split at hr
     ·cases hr
     ·cases hr; intro h; cases h
    ·exact fun _ _ => PopS.ok_init hk.n1 ba
   ·rename_i hne
    have ha := h.t.a
    have hq := popStep_ok (m := m) hk hm (h.q (by simpa using hd) (by simp only at ha; have : t.at_ ≠ 0 := hne; simp only; omega))
    dsimp only
    split
    ·intro h
     unfold popped at h
     split at h <;> cases h
    ·exact fun _ _ => hq
theorem TkOk.init {k : Sk} {ba : Int} {m : Mm} {s : SupS} (hk : k.ok m.ws.length) (hm : m.ok) : TkOk k m.ws.length (m, takeInit ba s) := by
 refine ⟨hm, rfl, takeInit_ok, ?_⟩
 unfold takeInit keepT
 split
 ·rename_i r hr
  split at hr
  ·cases hr
  ·cases hr; intro h; cases h
 ·split
  ·intro _ h; cases h
  ·exact fun _ _ => PopS.ok_init hk.n1 ba
theorem TkOk.it {k : Sk} {ba : Int} {len : Nat} {r : Mm × SupS × TakeS} (hk : k.ok len) (h : TkOk k len r) : ∀ j, TkOk k len (tkIt k ba j r)
 | 0 => h
 | j + 1 => (TkOk.it hk h j).step hk
theorem takeStep_agree {A : Nat → Prop} {k : Sk} {ba : Int} {m m2 : Mm} {s : SupS} {t : TakeS} {len : Nat} (h : Agree A m m2) (hk : k.ok len) (c : Covers A k) (c2 : A 2) (ht : TkOk k len (m, s, t)) :
  (takeStep k ba m2 s t).2 = (takeStep k ba m s t).2 ∧ Agree A (takeStep k ba m s t).1 (takeStep k ba m2 s t).1 := by
 have hl := ht.l
 simp only at hl
 subst hl
 unfold takeStep
 cases hd : t.done with
 | true => exact ⟨rfl, h⟩
 | false =>
   simp only [Bool.false_eq_true, if_false]
   have ha := ht.t.a
   simp only at ha
   rcases (show t.at_ = 0 ∨ t.at_ = 1 by omega) with h0 | h0
   ·rw [h0, h.at_ _ c2]
    simp only
    split <;> exact ⟨rfl, h.tick⟩
   ·obtain ⟨p1, p2⟩ := popStep_agree (q := t.q) h hk c (ht.q hd h0)
    rw [h0]
    simp only
    rw [p1]
    split <;> exact ⟨rfl, p2⟩
theorem tkIt_agree {A : Nat → Prop} {k : Sk} {ba : Int} {m m2 : Mm} {r : SupS × TakeS} {len : Nat} (h : Agree A m m2) (hk : k.ok len) (c : Covers A k) (c2 : A 2) (ht : TkOk k len (m, r)) : ∀ j,
  (tkIt k ba j (m2, r)).2 = (tkIt k ba j (m, r)).2 ∧ Agree A (tkIt k ba j (m, r)).1 (tkIt k ba j (m2, r)).1
 | 0 => ⟨rfl, h⟩
 | j + 1 => by
   obtain ⟨i1, i2⟩ := tkIt_agree h hk c c2 ht j
   simp only [tkIt]
   rw [i1]
   exact takeStep_agree i2 hk c c2 (TkOk.it hk ht j)
def SupS.size (s : SupS) : Nat := s.xs.length + s.lm.size
theorem keepT_size {s : SupS} {t : TakeS} {r : SupS × TakeS} (h : keepT s t = some r) : r.1.size ≤ s.size := by
 unfold keepT at h
 split at h
 ·cases h
 ·cases h
  unfold SupS.size SupS.kept
  simp only [List.length_dropLast]
  omega
theorem takeInit_size {ba : Int} {s : SupS} : (takeInit ba s).1.size ≤ s.size := by
 unfold takeInit
 split
 ·rename_i r hr; exact keepT_size hr
 ·split <;> exact Nat.le_refl _
theorem takeStep_size {k : Sk} {ba : Int} {m : Mm} {s : SupS} {t : TakeS} {len : Nat} (hk : k.ok len) (ht : TkOk k len (m, s, t)) : (takeStep k ba m s t).2.1.size ≤ s.size + 8 := by
 have hl := ht.l
 simp only at hl
 subst hl
 unfold takeStep
 cases hd : t.done with
 | true => simp
 | false =>
   simp only [Bool.false_eq_true, if_false]
   have ha := ht.t.a
   simp only at ha
   rcases (show t.at_ = 0 ∨ t.at_ = 1 by omega) with h0 | h0
   ·rw [h0]
    simp only
    have hr : (s.ready (cutE (m.at_ 2))).size = s.size := s.ready_size _
    split
    ·rename_i r hr'
     have := keepT_size hr'
     simp only; omega
    ·simp only; omega
   ·have hq := popStep_ok (m := m) hk ht.m (ht.q hd h0)
    rw [h0]
    simp only
    split
    ·unfold popped
     split
     ·simp
     ·rename_i y l hg
      have h8 := hq.len
      simp only at hg
      rw [hg, List.length_cons] at h8
      unfold SupS.size SupS.give
      simp only [List.length_append]
      omega
    ·simp
theorem tkIt_size {k : Sk} {ba : Int} {r : Mm × SupS × TakeS} {len : Nat} (hk : k.ok len) (ht : TkOk k len r) : ∀ j, (tkIt k ba j r).2.1.size ≤ r.2.1.size + 8 * j
 | 0 => Nat.le_refl _
 | j + 1 => by
   have h1 := tkIt_size (ba := ba) hk ht j
   have h2 : (takeStep k ba (tkIt k ba j r).1 (tkIt k ba j r).2.1 (tkIt k ba j r).2.2).2.1.size ≤ (tkIt k ba j r).2.1.size + 8 := takeStep_size (ba := ba) hk (TkOk.it (ba := ba) hk ht j)
   show (takeStep k ba (tkIt k ba j r).1 (tkIt k ba j r).2.1 (tkIt k ba j r).2.2).2.1.size ≤ _
   omega
theorem tkIt_done {k : Sk} {ba : Int} {r : Mm × SupS × TakeS} {N : Nat} (h : (tkIt k ba N r).2.2.done = true) : ∀ j, tkIt k ba (N + j) r = tkIt k ba N r
 | 0 => rfl
 | j + 1 => by
   show takeStep k ba (tkIt k ba (N + j) r).1 (tkIt k ba (N + j) r).2.1 (tkIt k ba (N + j) r).2.2 = _
   rw [tkIt_done h j]
   unfold takeStep
   rw [if_pos h]
end Go.Proofs.YtggnbdeokmdjbaaGreat


namespace Go.Proofs.YtggnbdeokmdjbaaGreat
structure AlGood (x : Cn) (slot : Nat) (r : Mm × SupS × AlS) : Prop where
 l : r.1.ws.length = x.len
 m : r.1.ok
 k : (rtOf (r.1.at_ (x.root + slot))).ok
 s : r.2.1.xs.length + r.2.1.lm.size ≤ 1000
 m0 : 0 ≤ r.2.1.most
 m2 : r.2.1.most ≤ 64
 a : r.2.2.done = false → AlOk x r.2.2
structure AlRun (x : Cn) (p : AlP) (r : Mm × SupS × AlS) (N : Nat) : Prop where
 good : ∀ j, j ≤ N → AlGood x p.slot (alIt p j r)
 nd : ∀ j, j < N → (alIt p j r).2.2.done = false
 d : (alIt p N r).2.2.done = true
structure RefOk (k : Sk) (a : AlS) : Prop where
 code : a.v.code = 0
 obj : a.v.obj = Hd.zero
 hd : a.at_ ≤ 2 → a.v.hand = -1
 z : a.at_ ≤ 2 → a.v.zat = 0
 a5 : a.at_ ≤ 5
 ask : a.at_ = 2 → a.v.asked = true
 q : a.at_ = 2 → a.t.q.ok k
 t1 : a.at_ = 2 → a.t.at_ = 1 ∧ a.t.done = false
 n1 : a.at_ ≠ 1
 ti : a.at_ = 2 → a.t.is_ = false
section
variable {x : Cn} {slot : Nat} {gen : Int} {n : Nat} {m : Mm} {S : SupS}
end
end Go.Proofs.YtggnbdeokmdjbaaGreat


namespace Go.Proofs.YtggnbdeokmdjbaaGreat
open Go
attribute [local irreducible] Sx Cx Rx Fx Krg Ksq Kbl Klp Kr
section
variable {L F G : St}
end
end Go.Proofs.YtggnbdeokmdjbaaGreat


namespace Go.Proofs.YtggnbdeokmdjbaaGreat
open Go
attribute [local irreducible] Sx Cx Rx Fx Krg Ksq Kbl Klp Kr
section
variable {L F G : St}
end
end Go.Proofs.YtggnbdeokmdjbaaGreat


namespace Go.Proofs.YtggnbdeokmdjbaaGreat
open Go
attribute [local irreducible] Sx Cx Rx Fx Krg Ksq Kbl Klp Kr
section
variable {L F G : St}
end
end Go.Proofs.YtggnbdeokmdjbaaGreat


namespace Go.Proofs.YtggnbdeokmdjbaaGreat
open Go
attribute [local irreducible] Sx Cx Rx Fx Krg Ksq Kbl Klp Kr
section
variable {L F G : St}
def rpushL (T : TypeId) (sb : Nat) (p : PushS) (a : Option Addr) (y : Option Addr × Nat) : St :=
 [pt a (Blk T [.pointer (some ⟨sb, 0, none⟩), .slice y.1 p.l.length y.2, .int .i64 (p.at_ : Nat), wd p.was, .bool p.done]), pt y.1 (Row 3 1 p.l.length y.2 (ints p.l))]
def RPushT (T : TypeId) (sb : Nat) (p : PushS) (a : Option Addr) : As := exs (rpushL T sb p a)
abbrev RPushO := RPushT 233
theorem RPushO.close {T : TypeId} {sb : Nat} {a r : Option Addr} {c n : Nat} {v0 v2 v3 v4 : Value} {w : List Value} {F G : St} (p : PushS) [t : Take L a (Blk T [v0, .slice r n c, v2, v3, v4]) F] [u : Take F r (Row 3 1 n c w) G]
  (h0 : v0 = .pointer (some ⟨sb, 0, none⟩)) (h1 : n = p.l.length) (h2 : v2 = .int .i64 (p.at_ : Nat)) (h3 : v3 = wd p.was) (h4 : v4 = .bool p.done) (hw : w = ints p.l) : Ent L (pt a (RPushT T sb p) :: G) := by
 subst h0 h1 h2 h3 h4 hw
 refine Ent.trans (Ent.take1 (t := t) (Ent.of u.out)) ?_
 exact Ent.close (f := rpushL T sb p a) rfl (r, c)
theorem refPushNew {sb rm : Nat} {k : Sk} {a : Option Addr} {n c : Nat} {l : List Int} (hr : Rd L 1 a n (ints l)) (hn : n ≤ 1000000000) [t : Take L (some ⟨sb, 0, none⟩) (RSkO rm k) F] :
  Fx Tryz.prog 217 [.pointer (some ⟨sb, 0, none⟩), .slice a n c] L (fun v L' => ∃ p, v = .pointer (some ⟨p, 0, none⟩) ∧ L' = pt (some ⟨p, 0, none⟩) (RPushO sb (PushS.init l)) :: L) := by
 have hl : l.length = n := by have := hr.1; simpa [ints] using this
 refine Fx.mk Tryz.func217 k217 nb_ ?_
 dsimp only [c217, kG, kS, kH, kM, kN, kF, kL, envOf, Nat.reduceAdd]
 refine go ?_
 refine Sx.apn rfl rfl hr (ones_ints _) (by simp [maxLen]; omega) (by omega) fun r2 c2 h4 => ?_
 refine go ?_
 refine Sx.bx rfl rfl fun p => ?_
 refine Sx.re [.pointer (some ⟨sb, 0, none⟩), .slice r2 n c2, .int .i64 0, .int .u64 0, .bool (decide ((n : Int) = 0))] rfl ?_
 refine go ?_
 refine Kr.one (.inr rfl) rfl ?_ ⟨p, rfl, rfl⟩
 refine RPushO.close (a := some ⟨p, 0, none⟩) (r := r2) (sb := sb) (PushS.init l) rfl hl.symm rfl rfl ?_ rfl
 show Value.bool _ = Value.bool (decide (l = []))
 congr 1
 exact decide_eq_decide.2 ⟨fun h => List.eq_nil_of_length_eq_zero (by omega), fun h => by rw [h] at hl; simp at hl; omega⟩
set_option maxHeartbeats 2000000 in
theorem refPushStep {b sb rm : Nat} {k : Sk} {m : Mm} {p : PushS} {F1 F2 : St} (hk : k.ok m.ws.length) (hp : p.ok k) (hlen : p.l.length ≤ 1000000) [t1 : Take L (some ⟨b, 0, none⟩) (RPushO sb p) F1] [t2 : Take F1 (some ⟨rm, 0, none⟩) (RMemO m) F2] [t3 : Take F2 (some ⟨sb, 0, none⟩) (RSkO rm k) G] :
  Fx Tryz.prog 140 [.pointer (some ⟨b, 0, none⟩)] L (fun v L' => v = .bool (!p.done) ∧ L' = pt (some ⟨b, 0, none⟩) (RPushO sb (pushStep k m p).1) :: pt (some ⟨rm, 0, none⟩) (RMemO (pushStep k m p).2) :: F2) := by
 obtain ⟨k1, k2, k3, k4, k5, k6⟩ := hk
 refine Fx.mk Tryz.func140 k140 nb_ ?_
 dsimp only [c140, kG, kS, kH, kM, kN, kF, kL, envOf, Nat.reduceAdd]
 refine Cx.ent (Ent.trans (Ent.of t1.out) (Ent.cons (Ent.trans (Ent.of t2.out) (Ent.cons (Ent.of t3.out))))) ?_
 refine Cx.pure (rmemKey (rm := rm) (m := m)) fun hm => ?_
 refine Cx.openp (a := some ⟨b, 0, none⟩) rfl ?_
 rintro ⟨r, c⟩
 simp only [rpushL, List.cons_append, List.nil_append]
 cases hd : p.done with
 | true =>
   have e1 : pushStep k m p = (p, m) := by unfold pushStep; rw [hd]; rfl
   rw [e1]
   refine go ?_
   refine Kr.one (.inr rfl) rfl (Ent.trans (RPushO.close (sb := sb) (a := some ⟨b, 0, none⟩) (r := r) p rfl rfl rfl rfl (by rw [hd]) rfl) (Ent.cons (Ent.cons (Ent.of t3.back)))) ⟨rfl, rfl⟩
 | false =>
   have hlp := List.length_pos_iff.2 (hp.ne hd)
   have hpa := hp.a
   refine Cx.rowkey (a := r) fun hxl hc1 hc2 hkr => ?_
   obtain ⟨rg, rfl⟩ : ∃ g, r = some ⟨g, 0, none⟩ := by
    rcases hkr with h | h
    ·omega
    ·exact h
   refine go ?_
   refine Cx.ordc rfl kr_ ?_
   refine ge ?_
   refine go ?_
   rw [w64 (n := (p.l.length : Int) - 1) (by omega) (by omega)]
   by_cases h1 : p.at_ + 1 < p.l.length
   ·have hv1 := itI_some (l := p.l) (i := p.at_) (by omega)
    have hv2 := itI_some (l := p.l) (i := p.at_ + 1) (by omega)
    have hr1 := hp.g _ (itI_mem (l := p.l) (i := p.at_) (by omega))
    have hr2 := hp.g _ (itI_mem (l := p.l) (i := p.at_ + 1) (by omega))
    obtain ⟨x, hx⟩ : ∃ x : Nat, itI p.l p.at_ = x := ⟨(itI p.l p.at_).toNat, by omega⟩
    obtain ⟨y, hy⟩ : ∃ y : Nat, itI p.l (p.at_ + 1) = y := ⟨(itI p.l (p.at_ + 1)).toNat, by omega⟩
    have e1 : pushStep k m p = ({ p with at_ := p.at_ + 1 }, m.put (k.links + x) (y + 1)) := by
     unfold pushStep; rw [hd]; simp only [Bool.false_eq_true, if_false]; rw [if_pos h1, hx, hy]; rfl
    rw [hx] at hr1 hv1
    rw [hy] at hr2 hv2
    rw [e1]
    refine Cx.cyes rfl (decide_eq_true (by omega)) ?_
    refine go ?_
    refine Cx.ordc rfl kr_ ?_
    refine ge ?_
    refine Ev.ldrH (b := rg) kr_ rfl rfl (v := .int .i64 (x : Nat)) (by rw [show 0 + ((p.at_ : Int)).toNat * 1 = p.at_ by omega]; exact hv1) ?_
    refine ge ?_
    rw [w64 (n := (p.at_ : Int) + 1) (by omega) (by omega)]
    refine Ev.pvH kr_ rfl rfl ⟨by omega, by omega⟩ ?_
    refine Ev.ldrH (b := rg) kr_ rfl rfl (v := .int .i64 (y : Nat)) (by rw [show 0 + ((p.at_ : Int) + 1).toNat * 1 = p.at_ + 1 by omega]; exact hv2) ?_
    refine ge ?_
    rw [w64 (n := (k.links : Int) + x) (by omega) (by omega), show (k.links : Int) + x = ((k.links + x : Nat) : Int) by omega, wrapS (x := (y : Int) + 1) (by omega) (by omega), show ((y : Int) + 1).toNat = y + 1 by omega]
    refine Ev.caH kr_ rfl rfl (refStore (rm := rm) (m := m) (k.links + x) (y + 1) (by omega) (by omega)) (Pres.deps kr_) ?_
    rintro v L' ⟨rfl, rfl⟩
    refine ge ?_
    refine go ?_
    rw [w64 (n := (p.at_ : Int) + 1) (by omega) (by omega)]
    refine Kr.one (.inr rfl) rfl ?_ ⟨rfl, rfl⟩
    refine Ent.trans (RPushO.close (sb := sb) (a := some ⟨b, 0, none⟩) (r := some ⟨rg, 0, none⟩) { p with at_ := p.at_ + 1 } rfl rfl rfl rfl (by rw [hd]) rfl) (Ent.cons ?_)
    refine Ent.trans ?_ (Ent.cons (Ent.of t3.back))
    exact ent
   ·refine Cx.cno rfl (decide_eq_false (by omega)) ?_
    refine go ?_
    rw [w64 (n := (p.l.length : Int) - 1) (by omega) (by omega)]
    by_cases h2 : p.at_ + 1 = p.l.length
    ·have e1 : pushStep k m p = ({ p with at_ := p.at_ + 1, was := m.at_ k.head }, m.tick) := by
      unfold pushStep; rw [hd]; simp only [Bool.false_eq_true, if_false]; rw [if_neg h1, if_pos h2]
     rw [e1]
     refine Cx.cyes rfl (decide_eq_true (by omega)) ?_
     refine go ?_
     refine Cx.ordc rfl kr_ ?_
     refine ge ?_
     refine Ev.caH kr_ rfl rfl (refLoad (rm := rm) (m := m) k.head k3) (Pres.deps kr_) ?_
     rintro v L' ⟨rfl, rfl⟩
     refine ge ?_
     refine Ev.stbH (b := b) kr_ rfl rfl rfl rfl rfl (by rfl) rfl (Pres.deps kr_) ?_
     refine ge ?_
     refine go ?_
     rw [w64 (n := (p.at_ : Int) + 1) (by omega) (by omega)]
     refine Kr.one (.inr rfl) rfl ?_ ⟨rfl, rfl⟩
     refine Ent.trans (RPushO.close (sb := sb) (a := some ⟨b, 0, none⟩) (r := some ⟨rg, 0, none⟩) { p with at_ := p.at_ + 1, was := m.at_ k.head } rfl rfl rfl rfl (by rw [hd]) rfl) (Ent.cons ?_)
     refine Ent.trans ?_ (Ent.cons (Ent.of t3.back))
     exact ent
    ·refine Cx.cno rfl (decide_eq_false (by omega)) ?_
     refine go ?_
     by_cases h3 : p.at_ = p.l.length
     ·have hv1 := itI_some (l := p.l) (i := p.l.length - 1) (by omega)
      have hr1 := hp.g _ (itI_mem (l := p.l) (i := p.l.length - 1) (by omega))
      have ht1 := k.top_ge p.was
      have ht2 := k.top_lt p.was
      obtain ⟨x, hx⟩ : ∃ x : Nat, itI p.l (p.l.length - 1) = x := ⟨(itI p.l (p.l.length - 1)).toNat, by omega⟩
      have e1 : pushStep k m p = ({ p with at_ := p.at_ + 1 }, m.put (k.links + x) (k.top p.was + 1).toNat) := by
       unfold pushStep; rw [hd]; simp only [Bool.false_eq_true, if_false]; rw [if_neg h1, if_neg h2, if_pos h3, hx]; rfl
      rw [hx] at hr1 hv1
      rw [e1]
      refine Cx.cyes rfl (decide_eq_true (by omega)) ?_
      refine go ?_
      refine Cx.ordc rfl kr_ ?_
      refine ge ?_
      rw [w64 (n := (p.l.length : Int) - 1) (by omega) (by omega)]
      refine Ev.pvH kr_ rfl rfl ⟨by omega, by omega⟩ ?_
      refine Ev.ldrH (b := rg) kr_ rfl rfl (v := .int .i64 (x : Nat)) (by rw [show 0 + ((p.l.length : Int) - 1).toNat * 1 = p.l.length - 1 by omega]; exact hv1) ?_
      refine ge ?_
      refine Ev.cakH kr_ rfl rfl (refTop (sb := sb) (rm := rm) (k := k) p.was hp.w) ?_
      refine ge ?_
      rw [w64 (n := (k.links : Int) + x) (by omega) (by omega), show (k.links : Int) + x = ((k.links + x : Nat) : Int) by omega, wrapS (x := k.top p.was + 1) (by omega) (by omega)]
      refine Ev.caH kr_ rfl rfl (refStore (rm := rm) (m := m) (k.links + x) (k.top p.was + 1).toNat (by omega) (by omega)) (Pres.deps kr_) ?_
      rintro v L' ⟨rfl, rfl⟩
      refine ge ?_
      refine go ?_
      rw [w64 (n := (p.at_ : Int) + 1) (by omega) (by omega)]
      refine Kr.one (.inr rfl) rfl ?_ ⟨rfl, rfl⟩
      refine Ent.trans (RPushO.close (sb := sb) (a := some ⟨b, 0, none⟩) (r := some ⟨rg, 0, none⟩) { p with at_ := p.at_ + 1 } rfl rfl rfl rfl (by rw [hd]) rfl) (Ent.cons ?_)
      refine Ent.trans ?_ (Ent.cons (Ent.of t3.back))
      exact ent
     ·have hv1 := itI_some (l := p.l) (i := 0) (by omega)
      have hr1 := hp.g _ (itI_mem (l := p.l) (i := 0) (by omega))
      have hnl := nextW_lt (i := itI p.l 0) hp.w (by omega)
      have e1 : pushStep k m p = ({ p with at_ := p.l.length - 1, done := decide (m.at_ k.head = p.was) }, m.cas k.head p.was (nextW p.was (itI p.l 0))) := by
       unfold pushStep; rw [hd]; simp only [Bool.false_eq_true, if_false]; rw [if_neg h1, if_neg h2, if_neg h3]
      rw [e1]
      refine Cx.cno rfl (decide_eq_false (by omega)) ?_
      refine go ?_
      refine Cx.ordc rfl kr_ ?_
      refine ge ?_
      refine Ev.ldrH (b := rg) kr_ rfl rfl (v := .int .i64 (itI p.l 0)) hv1 ?_
      refine ge ?_
      refine Ev.cakH kr_ rfl rfl (refNextW p.was (itI p.l 0) hp.w (by omega) (by omega)) ?_
      refine ge ?_
      refine Ev.caH kr_ rfl rfl (refCas (rm := rm) (m := m) k.head p.was (nextW p.was (itI p.l 0)) k3 hp.w hnl) (Pres.deps kr_) ?_
      rintro v L' ⟨rfl, rfl⟩
      refine ge ?_
      refine Ev.stbH (b := b) kr_ rfl rfl rfl rfl rfl (by rfl) rfl (Pres.deps kr_) ?_
      refine ge ?_
      refine go ?_
      rw [w64 (n := (p.l.length : Int) - 1) (by omega) (by omega)]
      refine Kr.one (.inr rfl) rfl ?_ ⟨rfl, rfl⟩
      refine Ent.trans (RPushO.close (sb := sb) (a := some ⟨b, 0, none⟩) (r := some ⟨rg, 0, none⟩) { p with at_ := p.l.length - 1, done := decide (m.at_ k.head = p.was) } rfl rfl (congrArg (Value.int .i64) (by dsimp only; omega)) rfl rfl rfl) (Ent.cons ?_)
      refine Ent.trans ?_ (Ent.cons (Ent.of t3.back))
      exact ent
def rgiveL (T : TypeId) (rp : Nat) (p : PushS) (a : Option Addr) (y : Nat × Option Addr × Nat) : St :=
 [pt a (Blk T [.pointer (some ⟨y.1, 0, none⟩), .slice y.2.1 p.l.length y.2.2, .bool p.done]), pt (some ⟨y.1, 0, none⟩) (RPushO rp p), pt y.2.1 (Row 3 1 p.l.length y.2.2 (ints p.l))]
def RGiveT (T : TypeId) (rp : Nat) (p : PushS) (a : Option Addr) : As := exs (rgiveL T rp p a)
abbrev RGiveO := RGiveT 162
theorem RGiveO.close {b q rp n c : Nat} {r : Option Addr} {d : Bool} {p0 : PushS} {w : List Value} (p : PushS) (hq : p0 = p) (hn : n = p.l.length) (hd : d = p.done) (hw : w = ints p.l) :
  Ent (pt (some ⟨b, 0, none⟩) (Blk 162 [.pointer (some ⟨q, 0, none⟩), .slice r n c, .bool d]) :: pt (some ⟨q, 0, none⟩) (RPushO rp p0) :: pt r (Row 3 1 n c w) :: G) (pt (some ⟨b, 0, none⟩) (RGiveO rp p) :: G) := by
 subst hq hn hd hw
 exact Ent.close (f := rgiveL 162 rp p0 (some ⟨b, 0, none⟩)) rfl (q, r, c)
theorem refGiveStep {b rp rm : Nat} {k : Sk} {m : Mm} {p : PushS} {F1 F2 : St} (hk : k.ok m.ws.length) (hp : p.ok k) (hlen : p.l.length ≤ 1000000) [t1 : Take L (some ⟨b, 0, none⟩) (RGiveO rp p) F1] [t2 : Take F1 (some ⟨rm, 0, none⟩) (RMemO m) F2] [t3 : Take F2 (some ⟨rp, 0, none⟩) (RSkO rm k) G] :
  Fx Tryz.prog 72 [.pointer (some ⟨b, 0, none⟩)] L (fun v L' => v = .bool (!p.done) ∧ L' = pt (some ⟨b, 0, none⟩) (RGiveO rp (pushStep k m p).1) :: pt (some ⟨rm, 0, none⟩) (RMemO (pushStep k m p).2) :: F2) := by
 have hlp := pushStep_l k m p
 refine Fx.mk Tryz.func72 k72 nb_ ?_
 dsimp only [c72, kG, kS, kH, kM, kN, kF, kL, envOf, Nat.reduceAdd]
 refine Cx.ent (Ent.trans (Ent.of t1.out) (Ent.cons (Ent.trans (Ent.of t2.out) (Ent.cons (Ent.of t3.out))))) ?_
 refine Cx.openp (a := some ⟨b, 0, none⟩) rfl ?_
 rintro ⟨q, r, c⟩
 simp only [rgiveL, List.cons_append, List.nil_append]
 cases hd : p.done with
 | true =>
   have e1 : pushStep k m p = (p, m) := by unfold pushStep; rw [hd]; rfl
   rw [e1]
   refine go ?_
   refine Kr.one (.inr rfl) rfl (Ent.trans (RGiveO.close p rfl rfl hd.symm rfl) (Ent.cons (Ent.cons (Ent.of t3.back)))) ⟨rfl, rfl⟩
 | false =>
   refine go ?_
   refine Sx.ca rfl (refPushStep (b := q) (sb := rp) (rm := rm) (k := k) (m := m) (p := p) hk hp hlen) ?_
   rintro v L' ⟨rfl, rfl⟩
   refine Sx.nil ?_
   refine Krg.i ?_
   refine Ksq.nm ?_
   refine Cx.openp (a := some ⟨q, 0, none⟩) rfl ?_
   rintro ⟨r2, c2⟩
   simp only [rpushL, List.cons_append, List.nil_append]
   refine go ?_
   refine Kr.one (.inr rfl) rfl ?_ ⟨rfl, rfl⟩
   refine Ent.trans (Ent.take (a := some ⟨q, 0, none⟩)) ?_
   refine Ent.trans (RPushO.close (sb := rp) (a := some ⟨q, 0, none⟩) (r := r2) (pushStep k m p).1 rfl rfl rfl rfl rfl rfl) ?_
   refine Ent.trans (Ent.cons (Ent.take (a := some ⟨b, 0, none⟩))) ?_
   refine Ent.trans Ent.swap ?_
   refine Ent.trans (Ent.cons (Ent.cons (Ent.take (a := r)))) ?_
   refine Ent.trans (RGiveO.close (pushStep k m p).1 rfl (by rw [hlp]) rfl (by rw [hlp])) (Ent.cons ?_)
   refine Ent.trans ?_ (Ent.cons (Ent.of t3.back))
   exact ent
end
end Go.Proofs.YtggnbdeokmdjbaaGreat


namespace Go.Proofs.YtggnbdeokmdjbaaGreat
structure Wk where
 s : SupS
 a : AlS
 n : Nat
def ownH (a : AlS) : List Int := if 0 ≤ a.v.hand then [a.v.hand] else []
def ownG (a : AlS) : List Int := if a.g.done then [] else a.g.l
def Wk.own (w : Wk) : List Int := w.s.xs ++ (ownH w.a ++ ownG w.a)
def Wk.pend (w : Wk) : List Hd := if w.a.at_ = 6 ∧ w.a.v.code = 0 then [w.a.v.obj] else []
structure RootI (x : Cn) (cl gen : Nat) (w : Nat) : Prop where
 ok : (rtOf w).ok
 g : (rtOf w).gen = gen
 c : (rtOf w).cl = cl
 m : 1 ≤ (rtOf w).mrk
 o : (rtOf w).off ≤ x.wd
 d : (rtOf w).off % 2 ^ cl = 0
def Apt (o u : Hd) : Prop := o.chunk = u.chunk → o.off + o.len ≤ u.off ∨ u.off + u.len ≤ o.off
structure ObjI (x : Cn) (slot cl gen : Nat) (w : Nat) (R : List Int) (o : Hd) : Prop where
 s : o.slot = slot
 g : o.gen = gen
 c : o.chunk ∈ R
 l : 1 ≤ o.len
 f : 0 ≤ o.off
 d : o.off % (2 ^ cl : Nat) = 0
 e : o.off + o.len ≤ x.wd
 b : o.chunk = (rtOf w).chunk → o.off + o.len ≤ (rtOf w).off
structure RunI (x : Cn) (cl gen : Nat) (m : Mm) (P : List Int) (w : Wk) : Prop where
 h0 : -1 ≤ w.a.v.hand
 wok : (rtOf w.a.v.was).ok
 was : w.a.at_ ≠ 0 → w.a.at_ ≠ 6 → RootI x cl gen w.a.v.was
 need : w.a.at_ ≠ 0 → w.a.at_ ≠ 6 → w.a.v.need = roundS cl w.n
 fit : w.a.at_ = 1 → 2 ≤ (rtOf w.a.v.was).mrk ∧ (rtOf w.a.v.was).off + w.a.v.need ≤ x.wd
 hand : w.a.at_ = 3 ∨ w.a.at_ = 4 ∨ w.a.at_ = 5 → 0 ≤ w.a.v.hand
 zlt : w.a.at_ = 3 → w.a.v.zat < x.wd
 zz : 0 ≤ w.a.v.hand → ∀ j, j < w.a.v.zat → m.at_ (x.word + w.a.v.hand.toNat * x.wd + j) = 0
 zw : w.a.at_ ≠ 3 → 0 ≤ w.a.v.hand → w.a.v.zat = x.wd
 z0 : w.a.at_ ≠ 6 → w.a.v.hand < 0 → w.a.v.zat = 0
 noh : w.a.at_ = 2 → w.a.v.hand = -1
 tk : w.a.at_ = 2 → w.a.t.at_ = 1 ∧ w.a.t.done = false ∧ w.a.t.chunk = 0 ∧ w.a.t.is_ = false ∧ w.a.t.q.ok x.pool ∧ w.a.t.q.done = false ∧ PopH x.pool m P w.a.t.q
 ps : w.a.at_ = 6 → w.a.g.ok x.pool ∧ w.a.g.done = false ∧ PushH x.pool m w.a.g
structure WkI (x : Cn) (cl gen T : Nat) (m : Mm) (P : List Int) (w : Wk) : Prop where
 n1 : 1 ≤ w.n
 n2 : w.n ≤ x.wd
 lm : w.s.lm.size = 0
 m0 : 0 ≤ w.s.most
 m2 : w.s.most ≤ 64
 a6 : w.a.at_ ≤ 6
 h6 : w.a.done = true ∨ w.a.at_ = 6 → w.a.v.hand = -1
 gd : w.a.done = true ∨ w.a.at_ ≠ 6 → w.a.g.done = true
 cnt : w.a.v.cnt ≤ T
 cd : w.a.at_ = 6 → w.a.v.code = 0 ∨ w.a.v.code = 6
 run : w.a.done = false → RunI x cl gen m P w
structure ApI (x : Cn) (slot cl gen : Nat) (m : Mm) (ws : List Wk) (has : List Hd) (P R : List Int) (T : Nat) : Prop where
 len : m.ws.length = x.len
 ok : m.ok
 root : RootI x cl gen (m.at_ (x.root + slot))
 hd : 2 ≤ (rtOf (m.at_ (x.root + slot))).mrk → (rtOf (m.at_ (x.root + slot))).chunk ∈ R
 pool : Pool x.pool m P
 tag : hdT (m.at_ x.pool.head) ≤ T + 10
 one : ∀ y, P.count y + R.count y + (ws.flatMap Wk.own).count y ≤ 1
 rng : ∀ y, 0 < P.count y + R.count y + (ws.flatMap Wk.own).count y → 0 ≤ y ∧ y < (x.c : Int)
 wk : ∀ w ∈ ws, WkI x cl gen T m P w
 zr : ∀ y ∈ R, ∀ j, j < x.wd → m.at_ (x.word + y.toNat * x.wd + j) = 0
 obj : ∀ o ∈ has ++ ws.flatMap Wk.pend, ObjI x slot cl gen (m.at_ (x.root + slot)) R o
 dj : (has ++ ws.flatMap Wk.pend).Pairwise Apt
end Go.Proofs.YtggnbdeokmdjbaaGreat


namespace Go.Proofs.YtggnbdeokmdjbaaGreat
section
variable {x : Cn} {slot cl gen T : Nat} {m : Mm} {A B : List Wk} {w : Wk} {has : List Hd} {P R : List Int}
end
end Go.Proofs.YtggnbdeokmdjbaaGreat


namespace Go.Proofs.YtggnbdeokmdjbaaGreat
open Go
attribute [local irreducible] Sx Cx Rx Fx Krg Ksq Kbl Klp Kr
section
variable {L F G : St}
theorem refGiveNew {s w st lm rm rp rs re : Nat} {x : Cn} {l : List Int} {a : Option Addr} {n c : Nat} (hn : n = l.length) (hb : n ≤ 1000000) {F1 F2 F3 : St} [t1 : Take L (some ⟨s, 0, none⟩) (Blk 85 [.pointer (some ⟨w, 0, none⟩), .pointer (some ⟨st, 0, none⟩), .pointer (some ⟨lm, 0, none⟩)]) F1] [t2 : Take F1 (some ⟨w, 0, none⟩) (RWO x rm rp rs re) F2] [t3 : Take F2 (some ⟨rp, 0, none⟩) (RSkO rm x.pool) F3] [t4 : Take F3 a (Row 3 1 n c (ints l)) G] :
  Fx Tryz.prog 170 [.pointer (some ⟨s, 0, none⟩), .slice a n c] L (fun v L' => ∃ q, v = .pointer (some ⟨q, 0, none⟩) ∧ L' = pt (some ⟨q, 0, none⟩) (RGiveO rp (PushS.init l)) :: pt (some ⟨s, 0, none⟩) (Blk 85 [.pointer (some ⟨w, 0, none⟩), .pointer (some ⟨st, 0, none⟩), .pointer (some ⟨lm, 0, none⟩)]) :: pt (some ⟨w, 0, none⟩) (RWO x rm rp rs re) :: pt (some ⟨rp, 0, none⟩) (RSkO rm x.pool) :: G) := by
 subst hn
 refine Fx.mk Tryz.func170 k170 nb_ ?_
 dsimp only [c170, kG, kS, kH, kM, kN, kF, kL, envOf, Nat.reduceAdd]
 refine Cx.ent (Ent.trans (Ent.of t1.out) (Ent.cons (Ent.trans (Ent.of t2.out) (Ent.cons (Ent.trans (Ent.of t3.out) (Ent.cons (Ent.of t4.out))))))) ?_
 refine Cx.rowkey (a := a) fun hxl hc1 _ hkr => ?_
 have hk2 : l.length = 0 ∨ ∃ g, a = some ⟨g, 0, none⟩ := hkr.imp (fun h => h.2.1) id
 refine go ?_
 refine Sx.ca rfl (refPushNew (sb := rp) (rm := rm) (k := x.pool) (l := l) (Rd.any (a := a) hxl hk2) (by omega)) ?_
 rintro v L' ⟨p, rfl, rfl⟩
 refine go ?_
 refine Sx.apn rfl rfl (Rd.any (a := a) hxl hk2) (ones_ints _) (by simp [maxLen]; omega) (by omega) fun r2 c2 h4 => ?_
 refine go ?_
 refine Sx.bx rfl rfl fun q => ?_
 refine Sx.re [.pointer (some ⟨p, 0, none⟩), .slice r2 l.length c2, .bool (decide ((l.length : Int) = 0))] rfl ?_
 refine go ?_
 refine Kr.one (.inr rfl) rfl ?_ ⟨q, rfl, rfl⟩
 refine Ent.trans (M := pt (some ⟨q, 0, none⟩) (Blk 162 [.pointer (some ⟨p, 0, none⟩), .slice r2 l.length c2, .bool (decide ((l.length : Int) = 0))]) :: pt (some ⟨p, 0, none⟩) (RPushO rp (PushS.init l)) :: pt r2 (Row 3 1 l.length c2 (ints l)) :: _) (Ent.trans (Ent.cons (Ent.take (a := some ⟨p, 0, none⟩))) (Ent.cons (Ent.cons (Ent.take (a := r2))))) ?_
 refine Ent.trans (RGiveO.close (PushS.init l) rfl rfl ?_ rfl) (Ent.cons ?_)
 ·show decide _ = decide (l = [])
  exact decide_eq_decide.2 ⟨fun h => List.eq_nil_of_length_eq_zero (by omega), fun h => by rw [h]; rfl⟩
 ·exact ent
end
end Go.Proofs.YtggnbdeokmdjbaaGreat


namespace Go.Proofs.YtggnbdeokmdjbaaGreat
open Go
attribute [local irreducible] Sx Cx Rx Fx Krg Ksq Kbl Klp Kr
structure PH where
 tv : Value
 gv : Value
 av : Value
 bv : Value
 p : Nat
 q : Nat
 la : Option Addr
 lc : Nat
section
variable {hs : Nat → PH} {ws : Nat → Sw} {i : Nat}
end
section
variable {L F G : St}
theorem Fx.pre2 {P : Program} {f : FuncId} {vs : List Value} {R : Value → St → Prop} {p : Prop} (h : ∀ h, holds L h → p) (x : p → Fx P f vs L R) : Fx P f vs L R := by
 unfold Fx at *
 intro w0 w s
 obtain ⟨hh, H, _⟩ := s.heap
 exact x (h hh H) w0 w s
theorem sameIntsS {xs ys : List Int} {a b : Option Addr} {n m c d : Nat} {F1 F2 : St} [t1 : Take L a (Row 3 1 n c (ints xs)) F1] [t2 : Take L b (Row 3 1 m d (ints ys)) F2] (hb : n ≤ 1000000000) :
  Fx Tryz.prog 12 [.slice a n c, .slice b m d] L (fun v L' => v = .bool (decide (xs = ys)) ∧ L = L') :=
 Fx.pre2 (Row.key (t := t1)) fun h1 => Fx.pre2 (Row.key (t := t2)) fun h2 => sameInts (Rd.any (a := a) h1.1 (h1.2.2.2.imp (fun h => h.2.1) id)) (Rd.any (a := b) h2.1 (h2.2.2.2.imp (fun h => h.2.1) id)) hb
def handP (p : PushS) : List Int := if p.done then [] else p.l
theorem handP_done {p : PushS} (h : p.done = true) : handP p = [] := by unfold handP; rw [h]; rfl
theorem handP_on {p : PushS} (h : p.done = false) : handP p = p.l := by unfold handP; rw [h]; rfl
theorem giveHandS {b pb : Nat} {k : Sk} {p : PushS} {F1 : St} (hb : p.done = false → p.l.length ≤ 1000000) [t1 : Take L (some ⟨b, 0, none⟩) (GiveO pb k p) F1] : Fx Tryz.prog 98 [.pointer (some ⟨b, 0, none⟩)] L
  (fun v L' => ∃ a c, v = .slice a (handP p).length c ∧ L' = pt a (Row 3 1 (handP p).length c (ints (handP p))) :: pt (some ⟨b, 0, none⟩) (GiveO pb k p) :: F1) := by
 refine Fx.mk Tryz.func98 k98 nb_ ?_
 dsimp only [c98, kG, kS, kH, kM, kN, kF, kL, envOf, Nat.reduceAdd]
 refine Cx.ent (Ent.of t1.out) ?_
 refine go ?_
 refine Sx.ca rfl (giveDone (b := b) (pb := pb) (k := k) (p := p)) ?_
 rintro v L' ⟨rfl, rfl⟩
 cases hd : p.done with
 | true =>
   rw [handP_done hd]
   refine go ?_
   exact Kr.one (.inr rfl) rfl (Ent.rownil _ _) ⟨none, 0, rfl, rfl⟩
 | false =>
   rw [handP_on hd]
   have hb := hb hd
   refine Sx.ent (Ent.take (a := some ⟨b, 0, none⟩)) ?_
   refine Sx.openp (a := some ⟨b, 0, none⟩) (GiveO.p hd) ?_
   rintro ⟨g, cnt, r, c⟩
   simp only [givePL, List.cons_append, List.nil_append]
   refine go ?_
   refine Sx.rowkey (a := r) fun hxl hc1 _ hkr => ?_
   have hk2 : p.l.length = 0 ∨ ∃ g, r = some ⟨g, 0, none⟩ := hkr.imp (fun h => h.2.1) id
   refine go ?_
   refine Sx.ca rfl (clone (Rd.any (a := r) hxl hk2) (ones_ints _) (by omega)) ?_
   rintro v L' ⟨a', c', rfl, rfl⟩
   refine go ?_
   refine Kr.one (.inr rfl) rfl (Ent.cons ?_) ⟨a', c', rfl, rfl⟩
   exact GiveO.closeP p hd rfl rfl rfl
theorem refGiveHandS {b rp : Nat} {p : PushS} {F1 : St} (hb : p.done = false → p.l.length ≤ 1000000) [t1 : Take L (some ⟨b, 0, none⟩) (RGiveO rp p) F1] : Fx Tryz.prog 99 [.pointer (some ⟨b, 0, none⟩)] L
  (fun v L' => ∃ a c, v = .slice a (handP p).length c ∧ L' = pt a (Row 3 1 (handP p).length c (ints (handP p))) :: pt (some ⟨b, 0, none⟩) (RGiveO rp p) :: F1) := by
 refine Fx.mk Tryz.func99 k99 nb_ ?_
 dsimp only [c99, kG, kS, kH, kM, kN, kF, kL, envOf, Nat.reduceAdd]
 refine Cx.ent (Ent.of t1.out) ?_
 refine Cx.openp (a := some ⟨b, 0, none⟩) rfl ?_
 rintro ⟨q, r, c⟩
 simp only [rgiveL, List.cons_append, List.nil_append]
 refine Cx.ent (Ent.trans (Ent.cons (Ent.cons (Ent.take (a := r)))) (Ent.refl _)) ?_
 refine Cx.rowkey (a := r) fun hxl hc1 _ hkr => ?_
 have hk2 : p.l.length = 0 ∨ ∃ g, r = some ⟨g, 0, none⟩ := hkr.imp (fun h => h.2.1) id
 cases hd : p.done with
 | true =>
   rw [handP_done hd]
   refine go ?_
   exact Kr.one (.inr rfl) rfl (Ent.trans (RGiveO.close p rfl rfl hd.symm rfl) (Ent.rownil _ _)) ⟨none, 0, rfl, rfl⟩
 | false =>
   rw [handP_on hd]
   have hb := hb hd
   refine go ?_
   refine Sx.apn rfl rfl (Rd.any (a := r) hxl hk2) (ones_ints _) (by simp [maxLen]; omega) (by omega) fun r2 c2 h4 => ?_
   refine go ?_
   refine Kr.one (.inr rfl) rfl (Ent.cons ?_) ⟨r2, c2, rfl, rfl⟩
   exact RGiveO.close p rfl rfl hd.symm rfl
theorem refAllG {s w rm rp rs re : Nat} {x : Cn} {S : SupS} {F1 F2 : St} (hb : S.xs.length ≤ 1000000) [t2 : Take L (some ⟨s, 0, none⟩) (RSupO w S) F1] [t3 : Take F1 (some ⟨w, 0, none⟩) (RWO x rm rp rs re) F2] [t4 : Take F2 (some ⟨rp, 0, none⟩) (RSkO rm x.pool) G] :
  Fx Tryz.prog 78 [.pointer (some ⟨s, 0, none⟩)] L (fun v L' => ∃ q, v = .pointer (some ⟨q, 0, none⟩) ∧ L' = pt (some ⟨q, 0, none⟩) (RGiveO rp (PushS.init S.xs)) :: pt (some ⟨s, 0, none⟩) (RSupO w { S with xs := [] }) :: F1) := by
 have hback : Ent (pt (some ⟨w, 0, none⟩) (RWO x rm rp rs re) :: pt (some ⟨rp, 0, none⟩) (RSkO rm x.pool) :: G) F1 := Ent.trans (Ent.cons (Ent.of t4.back)) (Ent.of t3.back)
 refine Fx.mk Tryz.func78 k78 nb_ ?_
 dsimp only [c78, kG, kS, kH, kM, kN, kF, kL, envOf, Nat.reduceAdd]
 refine Cx.ent (Ent.trans (Ent.of t2.out) (Ent.cons (Ent.trans (Ent.of t3.out) (Ent.cons (Ent.of t4.out))))) ?_
 refine Cx.openp (a := some ⟨s, 0, none⟩) rfl ?_
 rintro ⟨st, lm⟩
 simp only [rsupL, List.cons_append, List.nil_append]
 refine go ?_
 refine Sx.ca rfl (refAll (b := st) (most := S.most) (xs := S.xs)) ?_
 rintro v L' ⟨a, c, rfl, rfl⟩
 refine go ?_
 refine Sx.ca rfl (refGiveNew (s := s) (w := w) (st := st) (lm := lm) (rm := rm) (rp := rp) (rs := rs) (re := re) (x := x) (l := S.xs) (a := a) rfl (by omega)) ?_
 rintro v L' ⟨q, rfl, rfl⟩
 refine go ?_
 refine Kr.one (.inr rfl) rfl (Ent.cons ?_) ⟨q, rfl, rfl⟩
 refine Ent.trans (M := pt (some ⟨s, 0, none⟩) (Blk 85 [.pointer (some ⟨w, 0, none⟩), .pointer (some ⟨st, 0, none⟩), .pointer (some ⟨lm, 0, none⟩)]) :: pt (some ⟨st, 0, none⟩) (RefO S.most []) :: pt (some ⟨lm, 0, none⟩) (RLimboO S.lm) :: pt (some ⟨w, 0, none⟩) (RWO x rm rp rs re) :: pt (some ⟨rp, 0, none⟩) (RSkO rm x.pool) :: G) (by exact ent) ?_
 exact Ent.trans (RSupO.close (a := some ⟨s, 0, none⟩) (st := st) (lm := lm) (w := w) { S with xs := [] } rfl rfl rfl) (Ent.cons hback)
end
end Go.Proofs.YtggnbdeokmdjbaaGreat


namespace Go.Proofs.YtggnbdeokmdjbaaGreat
open Go
attribute [local irreducible] Sx Cx Rx Fx Krg Ksq Kbl Klp Kr
structure Hs where
 a : Nat
 mp : Nat
 pb : Nat
 w : Nat
 rm : Nat
 rp : Nat
 rs : Nat
 re : Nat
 hb : Nat
structure PHok (w : Sw) (h : PH) : Prop where
 t1 : w.k = 1 → h.tv = .pointer (some ⟨h.p, 0, none⟩) ∧ h.av = .pointer (some ⟨h.q, 0, none⟩)
 t0 : w.k ≠ 1 → h.tv = .pointer none
 g1 : w.k = 2 → h.gv = .pointer (some ⟨h.p, 0, none⟩) ∧ h.bv = .pointer (some ⟨h.q, 0, none⟩)
 g0 : w.k ≠ 2 → h.gv = .pointer none
structure SpOk (x : Cn) (T : Nat) (m : Mm) (ws : Nat → Sw) (hs : Nat → PH) : Prop where
 i : ∃ P, SpI x m ws P T
 h : ∀ i, i < 3 → PHok (ws i) (hs i)
 n : m.n ≤ T
 tag : ∀ i, i < 3 → -(100 * (T : Int)) ≤ (ws i).tag ∧ (ws i).tag ≤ 100 * T
 tk : ∀ i, i < 3 → (ws i).k = 1 → (ws i).t.ok
section
variable {L F G : St}
end
end Go.Proofs.YtggnbdeokmdjbaaGreat


namespace Go.Proofs.YtggnbdeokmdjbaaGreat
open Go
attribute [local irreducible] Sx Cx Rx Fx Krg Ksq Kbl Klp Kr
section
variable {L F G : St}
end
end Go.Proofs.YtggnbdeokmdjbaaGreat


namespace Go.Proofs.YtggnbdeokmdjbaaGreat
def ownE (ws : Nat → Sw) (y : Int) : Nat := (ws 0).own.count y + (ws 1).own.count y + (ws 2).own.count y + (ws 3).own.count y
theorem ownE_upd {ws : Nat → Sw} {i : Nat} {w : Sw} (hi : i < 4) (y : Int) : ownE (updG ws i w) y + (ws i).own.count y = ownE ws y + w.own.count y := by
 rcases (show i = 0 ∨ i = 1 ∨ i = 2 ∨ i = 3 by omega) with rfl | rfl | rfl | rfl
 ·show w.own.count y + _ + _ + _ + _ = _; unfold ownE; show w.own.count y + (ws 1).own.count y + (ws 2).own.count y + (ws 3).own.count y + _ = _; omega
 ·unfold ownE; show (ws 0).own.count y + w.own.count y + (ws 2).own.count y + (ws 3).own.count y + _ = _; omega
 ·unfold ownE; show (ws 0).own.count y + (ws 1).own.count y + w.own.count y + (ws 3).own.count y + _ = _; omega
 ·unfold ownE; show (ws 0).own.count y + (ws 1).own.count y + (ws 2).own.count y + w.own.count y + _ = _; omega
theorem ownE_two {ws : Nat → Sw} {i j : Nat} (hi : i < 4) (hj : j < 4) (h : j ≠ i) (y : Int) : (ws i).own.count y + (ws j).own.count y ≤ ownE ws y := by
 unfold ownE
 rcases (show i = 0 ∨ i = 1 ∨ i = 2 ∨ i = 3 by omega) with rfl | rfl | rfl | rfl <;> rcases (show j = 0 ∨ j = 1 ∨ j = 2 ∨ j = 3 by omega) with rfl | rfl | rfl | rfl <;> omega
theorem ownE_one {ws : Nat → Sw} {i : Nat} (hi : i < 4) (y : Int) : (ws i).own.count y ≤ ownE ws y := by
 unfold ownE
 rcases (show i = 0 ∨ i = 1 ∨ i = 2 ∨ i = 3 by omega) with rfl | rfl | rfl | rfl <;> omega
structure SqI (x : Cn) (m : Mm) (ws : Nat → Sw) (P : List Int) (T : Nat) : Prop where
 len : m.ws.length = x.len
 ok : m.ok
 pool : Pool x.pool m P
 tag : hdT (m.at_ x.pool.head) ≤ T + 10
 one : ∀ y, P.count y + ownE ws y ≤ 1
 rng : ∀ y, 0 < P.count y + ownE ws y → 0 ≤ y ∧ y < (x.c : Int)
 wk : ∀ i, i < 4 → SwI x m P (ws i)
section
variable {x : Cn} {T i : Nat} {m m' : Mm} {ws : Nat → Sw} {P P' : List Int} {w' : Sw}
theorem SqI.rngw (h : SqI x m ws P T) (hi : i < 4) : ∀ y ∈ (ws i).own, 0 ≤ y ∧ y < (x.c : Int) := fun y hy => h.rng y (by
 have := List.count_pos_iff.2 hy; have := ownE_one (ws := ws) hi y; omega)
theorem SqI.onew (h : SqI x m ws P T) (hi : i < 4) (y : Int) : P.count y + (ws i).own.count y ≤ 1 := by
 have := h.one y; have := ownE_one (ws := ws) hi y; omega
theorem SqI.ndw (h : SqI x m ws P T) (hi : i < 4) : (ws i).own.Nodup := List.nodup_iff_count.2 fun y => by have := h.onew hi y; omega
theorem SqI.lenw (h : SqI x m ws P T) (hi : i < 4) : (ws i).own.length ≤ x.c := length_nodup x.c _ (h.ndw hi) fun y hy => h.rngw hi y hy
theorem SqI.bounds (h : SqI x m ws P T) (hi : i < 4) : (ws i).s.xs.length + (ws i).s.lm.size + (ws i).l.length ≤ x.c := by
 have := h.lenw hi
 unfold Sw.own at this
 rw [List.length_append, List.length_append, List.length_append, all_len] at this
 omega
theorem SqI.upd (h : SqI x m ws P T) (hi : i < 4) (hlen : m'.ws.length = x.len) (hok : m'.ok) (hpool : Pool x.pool m' P') (hgo : HeadGoes x.pool m m' P P') (htag : hdT (m'.at_ x.pool.head) ≤ hdT (m.at_ x.pool.head) + 1)
  (hcnt : ∀ y, P'.count y + w'.own.count y = P.count y + (ws i).own.count y) (hfr : ∀ z : Int, 0 ≤ z → z ∉ (ws i).own → z < (x.c : Int) → m'.at_ (x.link + z.toNat) = m.at_ (x.link + z.toNat)) (hw : SwI x m' P' w') : SqI x m' (updG ws i w') P' (T + 1) := by
 have hc : ∀ y, P'.count y + ownE (updG ws i w') y = P.count y + ownE ws y := fun y => by
  have := hcnt y; have := ownE_upd (ws := ws) (w := w') hi y; have := ownE_one (ws := ws) hi y; omega
 refine ⟨hlen, hok, hpool, by have := h.tag; omega, fun y => by rw [hc]; exact h.one y, fun y hy => h.rng y (by rw [← hc]; exact hy), fun j hj => ?_⟩
 by_cases hji : j = i
 ·subst hji; rw [updG_at]; exact hw
 ·rw [updG_ne hji]
  have hu := h.wk j hj
  refine ⟨hu.m0, hu.m2, hu.k, fun h1 => ?_, fun h2 => ?_⟩
  ·obtain ⟨t1, t2, t3, t4⟩ := hu.tk h1
   exact ⟨t1, t2, t3, t4.imp id fun ⟨a, b, c, d⟩ => ⟨a, b, c, d.frame hgo⟩⟩
  ·obtain ⟨t1, t2, t3⟩ := hu.gv h2
   refine ⟨t1, t2, t3.frame hgo (fun z hz => ?_) t1.ne⟩
   have hzo : z ∈ (ws j).own := by
    unfold Sw.own; rw [if_pos h2]
    exact List.mem_append_right _ (List.mem_append_right _ (List.mem_append_right _ hz))
   have hr := h.rngw hj z hzo
   refine hfr z hr.1 (fun hzi => ?_) hr.2
   have h1 := List.count_pos_iff.2 hzo
   have h3 := List.count_pos_iff.2 hzi
   have h4 := ownE_two (ws := ws) hi hj hji z
   have h5 := h.one z
   omega
theorem SqI.calm (h : SqI x m ws P T) (hi : i < 4) (hlen : m'.ws.length = x.len) (hok : m'.ok) (h0 : m'.at_ 0 = m.at_ 0) (hat : ∀ z, z < x.c → m'.at_ (x.link + z) = m.at_ (x.link + z)) (hcnt : ∀ y, w'.own.count y = (ws i).own.count y) (hw : SwI x m' P w') : SqI x m' (updG ws i w') P (T + 1) := by
 have h0 : m'.at_ x.pool.head = m.at_ x.pool.head := h0
 refine h.upd hi hlen hok ⟨?_, h.pool.nd⟩ (.inl ⟨h0, rfl⟩) (by rw [h0]; omega) (fun y => by rw [hcnt]) (fun z h1 _ h2 => hat _ (by omega)) hw
 rw [h0]
 exact h.pool.c.congr fun z hz => hat _ (by have := h.pool.c.mem z hz; have h3 : (x.pool.n : Int) = x.c := rfl; omega)
theorem SqI.still (h : SqI x m ws P T) (hi : i < 4) (hlen : m'.ws.length = x.len) (hok : m'.ok) (hat : ∀ a, a ≠ 2 → m'.at_ a = m.at_ a) (hg2 : 3 ≤ x.link) (hcnt : ∀ y, w'.own.count y = (ws i).own.count y) (hw : SwI x m' P w') : SqI x m' (updG ws i w') P (T + 1) :=
 h.calm hi hlen hok (hat _ (by omega)) (fun z _ => hat _ (by omega)) hcnt hw
theorem SqI.take_new (h : SqI x m ws P T) (hx : x.ok) (hi : i < 4) (hk : (ws i).k = 0) : SqI x m (updG ws i (takeN x (ws i))) P (T + 1) := by
 have hw := h.wk i hi
 have hpk := hx.pool (n := x.len) (Nat.le_refl _) hx.len_le
 by_cases hxs : (ws i).s.xs = []
 ·obtain ⟨t0, e, d0, k0⟩ : ∃ t0, takeInit x.ba (ws i).s = ((ws i).s, t0) ∧ t0.done = false ∧ (t0.chunk = 0 ∧ t0.is_ = false ∧ (t0.at_ = 0 ∨ (t0.at_ = 1 ∧ t0.q.ok x.pool ∧ t0.q.done = false ∧ PopH x.pool m P t0.q))) := by
   unfold takeInit keepT
   rw [if_pos hxs]
   dsimp only
   by_cases hz : 0 < (ws i).s.lm.size
   ·rw [if_pos hz]; exact ⟨_, rfl, rfl, rfl, rfl, .inl rfl⟩
   ·rw [if_neg hz]; exact ⟨_, rfl, rfl, rfl, rfl, .inr ⟨rfl, PopS.ok_init hpk.n1 x.ba, rfl, fun _ h0 => absurd rfl h0⟩⟩
  have e2 : takeN x (ws i) = { ws i with k := 1, t := t0 } := by unfold takeN; rw [e]; dsimp only; rw [d0]; rfl
  rw [e2]
  refine h.still hi h.len h.ok (fun _ _ => rfl) (Cn.link3 x) (fun y => ?_) ⟨hw.m0, hw.m2, by show 1 ≤ 2; omega, fun _ => ⟨d0, k0.1, k0.2.1, k0.2.2⟩, fun h2 => by cases h2⟩
  unfold Sw.own
  rw [if_neg (by show ¬ (1 : Nat) = 2; omega), if_neg (by omega)]
 ·have e : takeInit x.ba (ws i).s = ((ws i).s.kept, { TakeS.none_ with chunk := lastI (ws i).s.xs, is_ := true, done := true }) := by
   unfold takeInit keepT; rw [if_neg hxs]
  have e2 : takeN x (ws i) = ⟨(ws i).s.kept, (ws i).l ++ [lastI (ws i).s.xs], (ws i).tag, 0, { TakeS.none_ with chunk := lastI (ws i).s.xs, is_ := true, done := true }, (ws i).g⟩ := by
   unfold takeN; rw [e]; rfl
  rw [e2]
  exact h.still hi h.len h.ok (fun _ _ => rfl) (Cn.link3 x) (own_kept hxs (by omega)) ⟨hw.m0, hw.m2, by show 0 ≤ 2; omega, (fun h2 => by cases h2), (fun h2 => by cases h2)⟩
theorem SqI.take_go (h : SqI x m ws P T) (hx : x.ok) (hT : T ≤ 100000) (hi : i < 4) (hk : (ws i).k = 1) : ∃ P', SqI x (takeStep x.pool x.ba m (ws i).s (ws i).t).1 (updG ws i (takeG x m (ws i))) P' (T + 1) := by
 have hw := h.wk i hi
 have hlen := hx.len_le
 have hpk := hx.pool (n := x.len) (Nat.le_refl _) hlen
 have hpk2 := hx.pool (n := m.ws.length) (by rw [h.len]; exact Nat.le_refl _) (by rw [h.len]; exact hlen)
 obtain ⟨t1, t2, t3, t4⟩ := hw.tk hk
 obtain ⟨w, hwe⟩ : ∃ w, ws i = w := ⟨_, rfl⟩
 rw [hwe] at hk t1 t2 t3 t4 hw ⊢
 rcases t4 with h0 | ⟨h1, h2, h3, h4⟩
 ·-- the epoch
  obtain ⟨now, hnow⟩ : ∃ now, cutE (m.at_ 2) = now := ⟨_, rfl⟩
  by_cases hxs : (w.s.ready now).xs = []
  ·have e : takeStep x.pool x.ba m w.s w.t = (m.tick, w.s.ready now, { w.t with seen := now, at_ := 1, q := PopS.init x.ba }) := by
    unfold takeStep
    rw [t1, h0]
    simp only [Bool.false_eq_true, if_false, hnow]
    unfold keepT
    rw [if_pos hxs]
    dsimp only
    rw [t1]
   refine ⟨P, ?_⟩
   have e2 : takeG x m w = { w with s := w.s.ready now, t := { w.t with seen := now, at_ := 1, q := PopS.init x.ba } } := by
    unfold takeG; rw [e]; dsimp only; rw [t1]; rfl
   rw [e, e2]
   refine h.still hi h.len (Mm.ok_tick h.ok) (fun _ _ => rfl) (Cn.link3 x) (fun y => by rw [hwe]; exact own_ready now y) ⟨hw.m0, hw.m2, hw.k, fun _ => ⟨t1, t2, t3, .inr ⟨rfl, PopS.ok_init hpk.n1 x.ba, rfl, fun _ h0 => absurd rfl h0⟩⟩, fun h2 => ?_⟩
   have h2 : w.k = 2 := h2
   omega
  ·have e : takeStep x.pool x.ba m w.s w.t = (m.tick, (w.s.ready now).kept, { w.t with seen := now, chunk := lastI (w.s.ready now).xs, is_ := true, done := true }) := by
    unfold takeStep
    rw [t1, h0]
    simp only [Bool.false_eq_true, if_false, hnow]
    unfold keepT
    rw [if_neg hxs]
    dsimp only
    rw [h0]
   refine ⟨P, ?_⟩
   have e2 : takeG x m w = ⟨(w.s.ready now).kept, w.l ++ [lastI (w.s.ready now).xs], w.tag, 0, { w.t with seen := now, chunk := lastI (w.s.ready now).xs, is_ := true, done := true }, w.g⟩ := by
    unfold takeG; rw [e]; rfl
   rw [e, e2]
   refine h.still hi h.len (Mm.ok_tick h.ok) (fun _ _ => rfl) (Cn.link3 x) (fun y => ?_) ⟨hw.m0, hw.m2, by show 0 ≤ 2; omega, (fun h2 => by cases h2), (fun h2 => by cases h2)⟩
   rw [hwe]
   exact (own_kept (w := { w with s := w.s.ready now }) hxs (by show w.k ≠ 2; omega) y).trans (own_ready now y)
 ·-- the Pop
  obtain ⟨P', hP', hH, hgo, hoth, htg, hn1, hn2⟩ := popStep_inv hpk2 rfl h.pool h2 (by unfold Tagged; have := h.tag; omega) h4
  obtain ⟨ql, qo⟩ := popStep_mem hpk2 h.ok h2
  have hok' := popStep_ok hpk2 h.ok h2
  refine ⟨P', ?_⟩
  obtain ⟨Q, hQ⟩ : ∃ Q, popStep x.pool m w.t.q = Q := ⟨_, rfl⟩
  rw [hQ] at hP' hH hgo hoth htg hn1 hn2 ql qo hok'
  have hlk : ∀ a, a ≠ 0 → Q.2.at_ a = m.at_ a := fun a ha => hoth a ha
  cases hd : Q.1.done with
  | false =>
    have e : takeStep x.pool x.ba m w.s w.t = (Q.2, w.s, { w.t with q := Q.1 }) := by
     unfold takeStep; rw [t1, h1]; simp only [Bool.false_eq_true, if_false, hQ, hd]; rw [h1, t1]
    have e2 : takeG x m w = { w with t := { w.t with q := Q.1 } } := by unfold takeG; rw [e]; dsimp only; rw [t1]; rfl
    rw [e, e2]
    have hPP := hn1 hd
    subst hPP
    refine h.upd hi (qo.trans h.len) ql hP' hgo htg (fun y => by rw [hwe]; rfl) (fun z _ _ _ => hlk _ (by have := Cn.link3 x; omega)) ⟨hw.m0, hw.m2, hw.k, fun _ => ⟨t1, t2, t3, .inr ⟨h1, hok', hd, hH⟩⟩, fun h2 => ?_⟩
    have h2 : w.k = 2 := h2
    omega
  | true =>
    have hpp := hn2 h3 hd
    cases hg : Q.1.got with
    | nil =>
      have e : takeStep x.pool x.ba m w.s w.t = (Q.2, w.s, { w.t with q := Q.1, done := true }) := by
       unfold takeStep; rw [t1, h1]; simp only [Bool.false_eq_true, if_false, hQ, hd, if_true]; unfold popped; dsimp only; rw [hg]; dsimp only; rw [h1]
      have e2 : takeG x m w = ⟨w.s, w.l, w.tag, 0, { w.t with q := Q.1, done := true }, w.g⟩ := by unfold takeG; rw [e]; dsimp only; rw [t3]; rfl
      rw [e, e2]
      rw [hg, List.nil_append] at hpp
      subst hpp
      refine h.upd hi (qo.trans h.len) ql hP' hgo htg (fun y => ?_) (fun z _ _ _ => hlk _ (by have := Cn.link3 x; omega)) ⟨hw.m0, hw.m2, by show 0 ≤ 2; omega, (fun h2 => by cases h2), (fun h2 => by cases h2)⟩
      rw [hwe]; unfold Sw.own; rw [if_neg (by show ¬ (0 : Nat) = 2; omega), if_neg (by omega)]
    | cons a l =>
      have e : takeStep x.pool x.ba m w.s w.t = (Q.2, w.s.give l, { w.t with q := Q.1, chunk := a, is_ := true, done := true }) := by
       unfold takeStep; rw [t1, h1]; simp only [Bool.false_eq_true, if_false, hQ, hd, if_true]; unfold popped; dsimp only; rw [hg]; dsimp only; rw [h1]
      have e2 : takeG x m w = ⟨w.s.give l, w.l ++ [a], w.tag, 0, { w.t with q := Q.1, chunk := a, is_ := true, done := true }, w.g⟩ := by unfold takeG; rw [e]; rfl
      rw [e, e2]
      rw [hg] at hpp
      refine h.upd hi (qo.trans h.len) ql hP' hgo htg (fun y => ?_) (fun z _ _ _ => hlk _ (by have := Cn.link3 x; omega)) ⟨hw.m0, hw.m2, by show 0 ≤ 2; omega, (fun h2 => by cases h2), (fun h2 => by cases h2)⟩
      rw [hwe, hpp]
      unfold Sw.own SupS.give
      rw [if_neg (by show ¬ (0 : Nat) = 2; omega), if_neg (by omega)]
      simp only [List.count_append, List.count_cons, List.count_nil]
      omega
theorem SqI.give_valid (h : SqI x m ws P T) (hi : i < 4) (q : Nat) : giveInit x.pool ((ws i).s.xs.take q) = PushS.init ((ws i).s.xs.take q) := by
 have hnd := h.ndw hi
 unfold Sw.own at hnd
 have hx := (List.nodup_append.1 hnd).1
 rw [← List.take_append_drop q (ws i).s.xs] at hx
 refine giveInit_yes ⟨(List.nodup_append.1 hx).1, fun y hy => h.rngw hi y ?_⟩
 unfold Sw.own
 exact List.mem_append_left _ (List.mem_of_mem_take hy)
theorem SqI.give_new (h : SqI x m ws P T) (hi : i < 4) (hk : (ws i).k = 0) (q : Nat) : SqI x m (updG ws i (giveN x q (ws i))) P (T + 1) := by
 have hw := h.wk i hi
 have hv := h.give_valid hi q
 have hr : ∀ z ∈ (ws i).s.xs.take q, 0 ≤ z ∧ z < (x.c : Int) := fun z hz => h.rngw hi z (by unfold Sw.own; exact List.mem_append_left _ (List.mem_of_mem_take hz))
 obtain ⟨w, hwe⟩ : ∃ w, ws i = w := ⟨_, rfl⟩
 rw [hwe] at hk hw hv hr ⊢
 have htd := List.take_append_drop q w.s.xs
 have hct : ∀ y, (w.s.xs.take q).count y + (w.s.xs.drop q).count y = w.s.xs.count y := fun y => by rw [← List.count_append, htd]
 unfold giveN
 rw [hv]
 by_cases hd : (PushS.init (w.s.xs.take q)).done = true
 ·rw [if_pos hd]
  have hnil : w.s.xs.take q = [] := of_decide_eq_true hd
  refine h.still hi h.len h.ok (fun _ _ => rfl) (Cn.link3 x) (fun y => ?_) ⟨hw.m0, hw.m2, by show 0 ≤ 2; omega, (fun h2 => by cases h2), (fun h2 => by cases h2)⟩
  have := hct y
  rw [hnil, List.count_nil] at this
  rw [hwe]
  unfold Sw.own
  rw [if_neg (by show ¬ (0 : Nat) = 2; omega), if_neg (by omega)]
  simp only [List.count_append]
  omega
 ·rw [if_neg hd]
  have hd' : (PushS.init (w.s.xs.take q)).done = false := by
   cases hq : (PushS.init (w.s.xs.take q)).done with
   | true => exact absurd hq hd
   | false => rfl
  refine h.still hi h.len h.ok (fun _ _ => rfl) (Cn.link3 x) (fun y => ?_) ⟨hw.m0, hw.m2, Nat.le_refl _, (fun h2 => by cases h2), fun _ => ⟨PushS.ok_init hr, hd', fun _ => ⟨fun j h1 h2 => ?_, fun h1 => ?_, fun h1 => ?_, fun h1 => ?_⟩⟩⟩
  ·have := hct y
   rw [hwe]
   unfold Sw.own
   rw [if_pos rfl, if_neg (by omega)]
   show ((w.s.xs.drop q) ++ (w.s.lm.all ++ (w.l ++ w.s.xs.take q))).count y = _
   simp only [List.count_append, List.count_nil]
   omega
  ·exact absurd h2 (Nat.not_lt_zero _)
  ·have h1 : 0 = (w.s.xs.take q).length + 1 := h1
   omega
  ·have h1 : (w.s.xs.take q).length ≤ 0 := h1
   have : w.s.xs.take q = [] := List.eq_nil_of_length_eq_zero (by omega)
   exact absurd (decide_eq_true this) hd
  ·have h1 : (w.s.xs.take q).length ≤ 0 := h1
   have : w.s.xs.take q = [] := List.eq_nil_of_length_eq_zero (by omega)
   exact absurd (decide_eq_true this) hd
theorem SqI.give_go (h : SqI x m ws P T) (hx : x.ok) (hT : T ≤ 100000) (hi : i < 4) (hk : (ws i).k = 2) : ∃ P', SqI x (pushStep x.pool m (ws i).g).2 (updG ws i (giveG x m (ws i))) P' (T + 1) := by
 have hw := h.wk i hi
 have hlen := hx.len_le
 have hpk := hx.pool (n := m.ws.length) (by rw [h.len]; exact Nat.le_refl _) (by rw [h.len]; exact hlen)
 obtain ⟨t1, t2, t3⟩ := hw.gv hk
 have hsub : ∀ z ∈ (ws i).g.l, z ∈ (ws i).own := fun z hz => by unfold Sw.own; rw [if_pos hk]; exact List.mem_append_right _ (List.mem_append_right _ (List.mem_append_right _ hz))
 have hnd : (ws i).g.l.Nodup := by
  have := h.ndw hi
  unfold Sw.own at this
  rw [if_pos hk] at this
  exact (List.nodup_append.1 (List.nodup_append.1 (List.nodup_append.1 this).2.1).2.1).2.1
 have hdj : ∀ z ∈ (ws i).g.l, z ∉ P := fun z hz hz2 => by
  have h1 := h.onew hi z
  have := List.count_pos_iff.2 (hsub z hz); have := List.count_pos_iff.2 hz2; omega
 obtain ⟨P', hP', hH, hgo, hoth, htg, hl, hn1, hn2⟩ := pushStep_inv hpk rfl h.pool t1 hnd hdj (by unfold Tagged; have := h.tag; omega) t3
 obtain ⟨ql, qo⟩ := pushStep_mem hpk h.ok t1
 have hok' := pushStep_ok (k := x.pool) h.ok t1
 obtain ⟨w, hwe⟩ : ∃ w, ws i = w := ⟨_, rfl⟩
 rw [hwe] at hk t1 t2 t3 hw hsub hnd hdj hP' hH hgo hoth htg hl hn1 hn2 ql qo hok' ⊢
 refine ⟨P', ?_⟩
 unfold giveG
 have hfr : ∀ z : Int, 0 ≤ z → z ∉ (ws i).own → z < (x.c : Int) → (pushStep x.pool m w.g).2.at_ (x.link + z.toNat) = m.at_ (x.link + z.toNat) := fun z h0 hz _ => hoth _ (by show x.link + z.toNat ≠ 0; have := Cn.link3 x; omega) (fun z2 hz2 => by
  have h2 := h.rngw hi z2 (by rw [hwe]; exact hsub z2 hz2)
  have hne : z ≠ z2 := fun e => hz (by rw [hwe, e]; exact hsub z2 hz2)
  show x.link + z.toNat ≠ x.link + z2.toNat
  omega)
 cases hd : (pushStep x.pool m w.g).1.done with
 | false =>
   have hPP := hn1 hd
   subst hPP
   refine h.upd hi (qo.trans h.len) ql hP' hgo htg (fun y => ?_) hfr ⟨hw.m0, hw.m2, Nat.le_refl _, (fun h2 => by cases h2), fun _ => ⟨hok', hd, hH⟩⟩
   rw [hwe]
   unfold Sw.own
   rw [if_pos hk]
   show _ + ((w.s.xs ++ (w.s.lm.all ++ (w.l ++ (pushStep x.pool m w.g).1.l))).count y) = _
   rw [hl]
 | true =>
   have hPP := hn2 t2 hd
   refine h.upd hi (qo.trans h.len) ql hP' hgo htg (fun y => ?_) hfr ⟨hw.m0, hw.m2, by show 0 ≤ 2; omega, (fun h2 => by cases h2), (fun h2 => by cases h2)⟩
   rw [hwe, hPP]
   unfold Sw.own
   rw [if_pos hk]
   show _ + ((w.s.xs ++ (w.s.lm.all ++ (w.l ++ []))).count y) = _
   simp only [List.count_append, List.count_nil]
   omega
theorem SqI.put (h : SqI x m ws P T) (hi : i < 4) (hk : (ws i).k = 0) : SqI x m (updG ws i { ws i with s := (ws i).s.give (ws i).l, l := [] }) P (T + 1) := by
 have hw := h.wk i hi
 refine h.still hi h.len h.ok (fun _ _ => rfl) (Cn.link3 x) (fun y => ?_) ⟨hw.m0, hw.m2, hw.k, (fun h2 => ?_), (fun h2 => ?_)⟩
 ·unfold Sw.own SupS.give
  rw [if_neg (by show ¬ (ws i).k = 2; omega)]
  simp only [List.count_append, List.count_nil]
  omega
 ·have h2 : (ws i).k = 1 := h2
  omega
 ·have h2 : (ws i).k = 2 := h2
  omega
theorem SqI.retire (h : SqI x m ws P T) (hi : i < 4) (hk : (ws i).k = 0) (tag : Int) : SqI x m (updG ws i { ws i with s := ⟨(ws i).s.most, (ws i).s.xs ++ outM (ws i).s.lm tag, retireM (ws i).s.lm tag (ws i).l⟩, l := [], tag := tag }) P (T + 1) := by
 have hw := h.wk i hi
 refine h.still hi h.len h.ok (fun _ _ => rfl) (Cn.link3 x) (fun y => ?_) ⟨hw.m0, hw.m2, hw.k, (fun h2 => ?_), (fun h2 => ?_)⟩
 ·have := all_retire (ws i).s.lm tag (ws i).l y
  unfold Sw.own
  rw [if_neg (by show ¬ (ws i).k = 2; omega)]
  simp only [List.count_append, List.count_nil]
  omega
 ·have h2 : (ws i).k = 1 := h2
  omega
 ·have h2 : (ws i).k = 2 := h2
  omega
theorem SqI.ready (h : SqI x m ws P T) (hi : i < 4) (hk : (ws i).k = 0) (now : Int) : SqI x m (updG ws i { ws i with s := (ws i).s.ready now }) P (T + 1) := by
 have hw := h.wk i hi
 refine h.still hi h.len h.ok (fun _ _ => rfl) (Cn.link3 x) (fun y => own_ready now y) ⟨hw.m0, hw.m2, hw.k, (fun h2 => ?_), (fun h2 => ?_)⟩
 ·have h2 : (ws i).k = 1 := h2
  omega
 ·have h2 : (ws i).k = 2 := h2
  omega
theorem SqI.free (h : SqI x m ws P T) (hlen : m'.ws.length = x.len) (hok : m'.ok) (h0 : m'.at_ 0 = m.at_ 0) (hat : ∀ z, z < x.c → m'.at_ (x.link + z) = m.at_ (x.link + z)) : SqI x m' ws P (T + 1) := by
 have e : updG ws 0 (ws 0) = ws := by funext j; unfold updG; split
                                      ·rename_i h; rw [h]
                                      ·rfl
 have hw := h.wk 0 (by omega)
 have hh0 : m'.at_ x.pool.head = m.at_ x.pool.head := h0
 have := h.calm (i := 0) (m' := m') (w' := ws 0) (by omega) hlen hok h0 hat (fun _ => rfl) ⟨hw.m0, hw.m2, hw.k, fun h1 => ?_, fun h2 => ?_⟩
 ·rw [e] at this; exact this
 ·obtain ⟨t1, t2, t3, t4⟩ := hw.tk h1
  exact ⟨t1, t2, t3, t4.imp id fun ⟨a, b, c, d⟩ => ⟨a, b, c, d.frame (.inl ⟨hh0, rfl⟩)⟩⟩
 ·obtain ⟨t1, t2, t3⟩ := hw.gv h2
  exact ⟨t1, t2, t3.frame (l := P) (l' := P) (.inl ⟨hh0, rfl⟩) (fun z hz => by
   have hr := h.rngw (i := 0) (by omega) z (by unfold Sw.own; rw [if_pos h2]; exact List.mem_append_right _ (List.mem_append_right _ (List.mem_append_right _ hz)))
   exact hat _ (by omega)) t1.ne⟩
theorem SqI.mono {T' : Nat} (h : SqI x m ws P T) (hT : T ≤ T') : SqI x m ws P T' :=
 ⟨h.len, h.ok, h.pool, by have := h.tag; omega, h.one, h.rng, h.wk⟩
end
end Go.Proofs.YtggnbdeokmdjbaaGreat


namespace Go.Proofs.YtggnbdeokmdjbaaGreat
theorem updG_two {α : Type} (f : Nat → α) (i : Nat) (v w : α) : updG (updG f i v) i w = updG f i w := by
 funext j; unfold updG; split <;> rfl
theorem updG_self {α : Type} (f : Nat → α) (i : Nat) : updG f i (f i) = f := by
 funext j; unfold updG; split
 ·rename_i h; rw [h]
 ·rfl
theorem tkIt_plus {k : Sk} {ba : Int} {r : Mm × SupS × TakeS} (a : Nat) : ∀ b, tkIt k ba (a + b) r = tkIt k ba b (tkIt k ba a r)
 | 0 => rfl
 | b + 1 => by
   show takeStep k ba (tkIt k ba (a + b) r).1 (tkIt k ba (a + b) r).2.1 (tkIt k ba (a + b) r).2.2 = takeStep k ba (tkIt k ba b (tkIt k ba a r)).1 (tkIt k ba b (tkIt k ba a r)).2.1 (tkIt k ba b (tkIt k ba a r)).2.2
   rw [tkIt_plus a b]
theorem tkIt_over {k : Sk} {ba : Int} {r : Mm × SupS × TakeS} {a N : Nat} (h : (tkIt k ba a r).2.2.done = true) (hN : a ≤ N) : tkIt k ba N r = tkIt k ba a r := by
 obtain ⟨j, rfl⟩ : ∃ j, N = a + j := ⟨N - a, by omega⟩
 exact tkIt_done h j
theorem take_gets {k : Sk} {m : Mm} {l : List Int} {len : Nat} {ba : Int} {s : SupS} (hk : k.ok len) (hml : m.ws.length = len) (hp : Pool k m l) (h1 : 1 ≤ ba) (h8 : ba ≤ 8) (hl : l ≠ []) :
  (tkIt k ba 40 (m, takeInit ba s)).2.2.done = true ∧ (tkIt k ba 40 (m, takeInit ba s)).2.2.is_ = true := by
 obtain ⟨c, hc⟩ : ∃ c : Nat, (c : Int) = min ba l.length := ⟨(min ba l.length).toNat, by omega⟩
 by_cases hxs : s.xs = []
 ·by_cases hz : 0 < s.lm.size
  ·have e0 : takeInit ba s = (s, TakeS.none_) := by unfold takeInit keepT; rw [if_pos hxs]; dsimp only; rw [if_pos hz]
   by_cases hr : (s.ready (cutE (m.at_ 2))).xs = []
   ·have e1 : tkIt k ba 1 (m, takeInit ba s) = (m.tick, s.ready (cutE (m.at_ 2)), { TakeS.none_ with seen := cutE (m.at_ 2), at_ := 1, q := PopS.init ba }) := by
     rw [e0]
     show takeStep k ba m s TakeS.none_ = _
     unfold takeStep keepT
     rw [show TakeS.none_.done = false from rfl, show TakeS.none_.at_ = 0 from rfl]
     simp only [Bool.false_eq_true, if_false]
     rw [if_pos hr]
     rfl
    have hp2 : Pool k m.tick l := hp.congr rfl (fun _ _ => rfl)
    obtain ⟨m', q, e, _⟩ := take_alone hk (m := m.tick) hml hp2 h1 h8 hl c hc (s := s.ready (cutE (m.at_ 2))) (t := { TakeS.none_ with seen := cutE (m.at_ 2), at_ := 1, q := PopS.init ba }) rfl rfl rfl
    have e2 : tkIt k ba (1 + (c + 2)) (m, takeInit ba s) = (m', (s.ready (cutE (m.at_ 2))).give (l.take c).tail, { ({ TakeS.none_ with seen := cutE (m.at_ 2), at_ := 1, q := PopS.init ba } : TakeS) with q := q, chunk := l.headD 0, is_ := true, done := true }) := by
     rw [tkIt_plus, e1, e]
    have e3 := tkIt_over (k := k) (ba := ba) (r := (m, takeInit ba s)) (a := 1 + (c + 2)) (N := 40) (by rw [e2]) (by omega)
    rw [e3, e2]
    exact ⟨rfl, rfl⟩
   ·have e1 : tkIt k ba 1 (m, takeInit ba s) = (m.tick, (s.ready (cutE (m.at_ 2))).kept, { TakeS.none_ with seen := cutE (m.at_ 2), chunk := lastI (s.ready (cutE (m.at_ 2))).xs, is_ := true, done := true }) := by
     rw [e0]
     show takeStep k ba m s TakeS.none_ = _
     unfold takeStep keepT
     rw [show TakeS.none_.done = false from rfl, show TakeS.none_.at_ = 0 from rfl]
     simp only [Bool.false_eq_true, if_false]
     rw [if_neg hr]
     rfl
    have e3 := tkIt_over (k := k) (ba := ba) (r := (m, takeInit ba s)) (a := 1) (N := 40) (by rw [e1]) (by omega)
    rw [e3, e1]
    exact ⟨rfl, rfl⟩
  ·have e0 : takeInit ba s = (s, { TakeS.none_ with at_ := 1, q := PopS.init ba }) := by unfold takeInit keepT; rw [if_pos hxs]; dsimp only; rw [if_neg hz]
   rw [e0]
   obtain ⟨m', q, e, _⟩ := take_alone hk hml hp h1 h8 hl c hc (s := s) (t := { TakeS.none_ with at_ := 1, q := PopS.init ba }) rfl rfl rfl
   have e3 := tkIt_over (k := k) (ba := ba) (r := (m, s, { TakeS.none_ with at_ := 1, q := PopS.init ba })) (a := c + 2) (N := 40) (by rw [e]) (by omega)
   rw [e3, e]
   exact ⟨rfl, rfl⟩
 ·have e0 : takeInit ba s = (s.kept, { TakeS.none_ with chunk := lastI s.xs, is_ := true, done := true }) := by
   unfold takeInit keepT; rw [if_neg hxs]
  have e3 := tkIt_over (k := k) (ba := ba) (r := (m, takeInit ba s)) (a := 0) (N := 40) (by rw [e0]; rfl) (by omega)
  rw [e3, e0]
  exact ⟨rfl, rfl⟩
def tkW (w : Sw) (r : Mm × SupS × TakeS) : Sw := if r.2.2.done then { w with s := r.2.1, l := if r.2.2.is_ then [r.2.2.chunk] else [], k := 0, t := r.2.2 } else { w with s := r.2.1, k := 1, t := r.2.2 }
section
variable {x : Cn} {T i : Nat} {m m' : Mm} {ws : Nat → Sw} {P P' : List Int}
theorem SqI.takes (h : SqI x m ws P T) (hx : x.ok) (hi : i < 4) (hk : (ws i).k = 0) (hl : (ws i).l = []) : ∀ N, T + N ≤ 99999 → ∃ P', SqI x (tkIt x.pool x.ba N (m, takeInit x.ba (ws i).s)).1 (updG ws i (tkW (ws i) (tkIt x.pool x.ba N (m, takeInit x.ba (ws i).s)))) P' (T + 1 + N)
 | 0, hT => by
   have h0 := h.take_new hx hi hk
   refine ⟨P, ?_⟩
   have e : takeN x (ws i) = tkW (ws i) (m, takeInit x.ba (ws i).s) := by
    unfold takeN tkW
    dsimp only
    split
    ·rename_i hd
     have his : (takeInit x.ba (ws i).s).2.is_ = true := by
      revert hd
      unfold takeInit keepT
      split
      ·rename_i e
       split at e
       ·cases e
       ·cases e; intro _; rfl
      ·split <;> (intro h; cases h)
     rw [his, hl]
     rfl
    ·rfl
   rw [e] at h0
   exact h0
 | N + 1, hT => by
   obtain ⟨P1, h1⟩ := SqI.takes h hx hi hk hl N (by omega)
   obtain ⟨r, hr⟩ : ∃ r, tkIt x.pool x.ba N (m, takeInit x.ba (ws i).s) = r := ⟨_, rfl⟩
   show ∃ P', SqI x (takeStep x.pool x.ba (tkIt x.pool x.ba N (m, takeInit x.ba (ws i).s)).1 (tkIt x.pool x.ba N (m, takeInit x.ba (ws i).s)).2.1 (tkIt x.pool x.ba N (m, takeInit x.ba (ws i).s)).2.2).1 (updG ws i (tkW (ws i) (takeStep x.pool x.ba (tkIt x.pool x.ba N (m, takeInit x.ba (ws i).s)).1 (tkIt x.pool x.ba N (m, takeInit x.ba (ws i).s)).2.1 (tkIt x.pool x.ba N (m, takeInit x.ba (ws i).s)).2.2))) P' (T + 1 + (N + 1))
   rw [hr] at h1 ⊢
   obtain ⟨m1, s1, t1⟩ := r
   dsimp only at h1 ⊢
   cases hd : t1.done with
   | true =>
     have e : takeStep x.pool x.ba m1 s1 t1 = (m1, s1, t1) := by unfold takeStep; rw [hd]; rfl
     rw [e]
     exact ⟨P1, h1.mono (by omega)⟩
   | false =>
     have ew : tkW (ws i) (m1, s1, t1) = { ws i with s := s1, k := 1, t := t1 } := by unfold tkW; dsimp only; rw [hd]; rfl
     rw [ew] at h1
     obtain ⟨P2, h2⟩ := h1.take_go hx (by omega) hi (by rw [updG_at])
     rw [updG_at, updG_two] at h2
     refine ⟨P2, ?_⟩
     have e2 : takeG x m1 { ws i with s := s1, k := 1, t := t1 } = tkW (ws i) (takeStep x.pool x.ba m1 s1 t1) := by
      unfold takeG tkW
      dsimp only
      rw [hl]
      split
      ·split <;> rfl
      ·rfl
     rw [e2] at h2
     exact h2
end
end Go.Proofs.YtggnbdeokmdjbaaGreat


namespace Go.Proofs.YtggnbdeokmdjbaaGreat
theorem advStep_frame {n : Nat} {m : Mm} {s : AdvS} (hl : 3 ≤ m.ws.length) {a : Nat} (ha : a ≠ 2) : (advStep n m s).2.at_ a = m.at_ a := by
 unfold advStep
 split
 ·rfl
 ·split
  ·rfl
  ·split <;> rfl
  ·show (m.cas 2 _ _).at_ a = _
   unfold Mm.cas
   split
   ·rw [Mm.at_put _ (by omega), if_neg (fun e => ha e.symm)]
   ·rfl
theorem advStep_mok {n : Nat} {m : Mm} {s : AdvS} (hm : m.ok) : (advStep n m s).2.ok := by
 unfold advStep
 split
 ·exact hm
 ·split
  ·exact Mm.ok_tick hm
  ·split <;> exact Mm.ok_tick hm
  ·exact Mm.ok_cas hm (by omega)
theorem advStep_n {n : Nat} {m : Mm} {s : AdvS} : (advStep n m s).2.n ≤ m.n + 1 := by
 unfold advStep
 split
 ·exact Nat.le_succ _
 ·split
  ·exact Nat.le_refl _
  ·split <;> exact Nat.le_refl _
  ·show (m.cas 2 _ _).n ≤ _
   unfold Mm.cas; split <;> exact Nat.le_refl _
theorem advStep_won {n : Nat} {m : Mm} {s : AdvS} (h : s.done = false → s.won = false) : (advStep n m s).1.done = false → (advStep n m s).1.won = false := by
 unfold advStep
 split
 ·exact h
 ·rename_i hd
  have h := h (by simpa using hd)
  split
  ·intro _; exact h
  ·split
   ·intro h2; cases h2
   ·intro _; exact h
  ·intro h2; cases h2
structure CwOk (x : Cn) (w : Sw) (c : ColS) : Prop where
 d : c.done = false
 a : c.at_ ≤ 2
 k2 : c.at_ = 2 → w.k = 2 ∧ w.g = c.g
 k0 : c.at_ ≠ 2 → w.k = 0
 ok : c.a.ok x.w
 a0 : c.at_ = 0 → c.a.done = false
 won : c.a.done = false → c.a.won = false
def colW (w : Sw) (r : Mm × SupS × ColS) : Sw := { w with s := r.2.1, k := if r.2.2.done then 0 else if r.2.2.at_ = 2 then 2 else 0, g := r.2.2.g }
section
variable {x : Cn} {T i : Nat} {m m' : Mm} {ws : Nat → Sw} {P P' : List Int}
theorem SqI.col {c : ColS} (h : SqI x m ws P T) (hx : x.ok) (hT : T ≤ 99000) (hi : i < 4) (hc : CwOk x (ws i) c) : ∃ P', SqI x (colStep x.pool x.w m (ws i).s c).1 (updG ws i (colW (ws i) (colStep x.pool x.w m (ws i).s c))) P' (T + 3) ∧
  ((colStep x.pool x.w m (ws i).s c).2.2.done = false → CwOk x (colW (ws i) (colStep x.pool x.w m (ws i).s c)) (colStep x.pool x.w m (ws i).s c).2.2) ∧ ((colStep x.pool x.w m (ws i).s c).2.2.done = true → (colStep x.pool x.w m (ws i).s c).2.2.at_ = 2 ∧ (colStep x.pool x.w m (ws i).s c).2.2.g.done = true) := by
 have hl3 : 3 ≤ m.ws.length := by rw [h.len]; unfold Cn.len; omega
 have hlk := Cn.link3 x
 have hwp : 1 ≤ x.w := by obtain ⟨b1, b2, b3, b4, b5, b6, b7⟩ := hx.b; omega
 have hw := h.wk i hi
 obtain ⟨w, hwe⟩ : ∃ w, ws i = w := ⟨_, rfl⟩
 have ha := hc.a
 rcases (show c.at_ = 0 ∨ c.at_ = 1 ∨ c.at_ = 2 by omega) with h0 | h0 | h0
 ·have hk := hc.k0 (by omega)
  have e : colStep x.pool x.w m (ws i).s c = ((advStep x.w m c.a).2, (ws i).s, { c with a := (advStep x.w m c.a).1, at_ := if (advStep x.w m c.a).1.done then 1 else 0 }) := by unfold colStep; rw [hc.d, h0]; rfl
  rw [e]
  dsimp only
  have ew : colW (ws i) ((advStep x.w m c.a).2, (ws i).s, { c with a := (advStep x.w m c.a).1, at_ := if (advStep x.w m c.a).1.done then 1 else 0 }) = { ws i with k := 0, g := c.g } := by
   unfold colW
   dsimp only
   rw [hc.d]
   simp only [Bool.false_eq_true, if_false]
   rw [if_neg (by split <;> omega)]
  rw [ew]
  refine ⟨P, (h.calm (m' := (advStep x.w m c.a).2) (w' := { ws i with k := 0, g := c.g }) hi (by rw [advStep_len]; exact h.len) (advStep_mok h.ok) (advStep_frame hl3 (by omega)) (fun z _ => advStep_frame hl3 (by omega)) (fun y => ?_) ⟨hw.m0, hw.m2, by show 0 ≤ 2; omega, (fun h2 => by cases h2), (fun h2 => by cases h2)⟩).mono (T' := T + 3) (by omega), fun _ => ?_, fun h2 => by rw [hc.d] at h2; cases h2⟩
  ·unfold Sw.own; rw [if_neg (by show ¬ (0 : Nat) = 2; omega), if_neg (by omega)]
  ·refine ⟨hc.d, by dsimp only; split <;> omega, fun h2 => ?_, fun _ => rfl, advStep_ok hwp h.ok hc.ok, fun h2 => ?_, advStep_won hc.won⟩
   ·dsimp only at h2; split at h2 <;> omega
   ·dsimp only at h2 ⊢
    split at h2
    ·omega
    ·rename_i hz; simpa using hz
 ·have hk := hc.k0 (by omega)
  have e : colStep x.pool x.w m (ws i).s c = (m.tick, { (ws i).s.ready (cutE (m.at_ 2)) with xs := [] }, { c with at_ := 2, g := giveInit x.pool ((ws i).s.ready (cutE (m.at_ 2))).xs, done := (giveInit x.pool ((ws i).s.ready (cutE (m.at_ 2))).xs).done }) := by unfold colStep; rw [hc.d, h0]; rfl
  rw [e]
  dsimp only
  have h1 := h.ready hi hk (cutE (m.at_ 2))
  have h2 := h1.give_new hi (by rw [updG_at]; exact hk) ((ws i).s.ready (cutE (m.at_ 2))).xs.length
  rw [updG_at, updG_two] at h2
  have h3 := h2.free (m' := m.tick) h.len (Mm.ok_tick h.ok) rfl (fun _ _ => rfl)
  have ew : giveN x ((ws i).s.ready (cutE (m.at_ 2))).xs.length { ws i with s := (ws i).s.ready (cutE (m.at_ 2)) } = colW (ws i) (m.tick, { (ws i).s.ready (cutE (m.at_ 2)) with xs := [] }, { c with at_ := 2, g := giveInit x.pool ((ws i).s.ready (cutE (m.at_ 2))).xs, done := (giveInit x.pool ((ws i).s.ready (cutE (m.at_ 2))).xs).done }) := by
   unfold giveN colW
   dsimp only
   rw [List.take_length, List.drop_length]
   split <;> rfl
  rw [ew] at h3
  refine ⟨P, h3, fun hd => ⟨hd, by show 2 ≤ 2; omega, fun _ => ⟨?_, rfl⟩, fun h2 => absurd rfl h2, hc.ok, (fun h2 => by cases h2), hc.won⟩, fun hd => ⟨rfl, hd⟩⟩
  unfold colW
  dsimp only
  rw [hd]
  rfl
 ·obtain ⟨hk, hg⟩ := hc.k2 h0
  have e : colStep x.pool x.w m (ws i).s c = ((pushStep x.pool m c.g).2, (ws i).s, { c with g := (pushStep x.pool m c.g).1, done := (pushStep x.pool m c.g).1.done }) := by unfold colStep; rw [hc.d, h0]; rfl
  rw [e]
  dsimp only
  obtain ⟨P', h1⟩ := h.give_go hx (by omega) hi hk
  rw [hg] at h1
  have ew : giveG x m (ws i) = colW (ws i) ((pushStep x.pool m c.g).2, (ws i).s, { c with g := (pushStep x.pool m c.g).1, done := (pushStep x.pool m c.g).1.done }) := by
   unfold giveG colW
   dsimp only
   rw [hg, h0]
   split <;> simp
  rw [ew] at h1
  refine ⟨P', h1.mono (by omega), fun hd => ⟨hd, by show c.at_ ≤ 2; omega, fun _ => ⟨?_, rfl⟩, fun h2 => absurd h0 h2, hc.ok, fun h2 => (by have h2 : c.at_ = 0 := h2; omega), hc.won⟩, fun hd => ⟨h0, hd⟩⟩
  unfold colW
  dsimp only
  rw [hd, h0]
  rfl
end
theorem pushStep_agr {A : Nat → Prop} {k : Sk} {m m2 : Mm} {p : PushS} (h : Agree A m m2) (hk : k.ok m.ws.length) (c : Covers A k) (hp : p.ok k) : (pushStep k m2 p).1 = (pushStep k m p).1 ∧ Agree A (pushStep k m p).2 (pushStep k m2 p).2 := by
 obtain ⟨k1, k2, k3, k4, k5, k6⟩ := hk
 have hit : ∀ j, j < p.l.length → (itI p.l j).toNat < k.n := fun j hj => by
  have hm : itI p.l j ∈ p.l := by
   unfold itI
   rw [List.getD_eq_getElem?_getD, List.getElem?_eq_getElem hj]
   exact List.getElem_mem hj
  have := hp.g _ hm
  omega
 unfold pushStep
 cases hd : p.done with
 | true => exact ⟨rfl, h⟩
 | false =>
   simp only [Bool.false_eq_true, if_false]
   have hne := List.length_pos_iff.2 (hp.ne hd)
   rw [h.at_ _ c.h]
   split
   ·exact ⟨rfl, h.put (by have := hit p.at_ (by omega); omega)⟩
   split
   ·exact ⟨rfl, h.tick⟩
   split
   ·exact ⟨rfl, h.put (by have := hit (p.l.length - 1) (by omega); omega)⟩
   ·exact ⟨rfl, h.cas k3 c.h⟩
theorem colStep_agr {x : Cn} {m m2 : Mm} {s : SupS} {c : ColS} {A : Nat → Prop} (h : Agree A m m2) (hk : x.pool.ok m.ws.length) (hl : 3 ≤ m.ws.length) (cv : Covers A x.pool) (c2 : A 2) (c3 : ∀ i, i < x.w → A (3 + i)) (ha : c.a.ok x.w) (hg : c.done = false → c.at_ = 2 → c.g.ok x.pool) (hat : c.at_ ≤ 2) :
  (colStep x.pool x.w m2 s c).2 = (colStep x.pool x.w m s c).2 ∧ Agree A (colStep x.pool x.w m s c).1 (colStep x.pool x.w m2 s c).1 := by
 cases hd : c.done with
 | true =>
   have e : ∀ m, colStep x.pool x.w m s c = (m, s, c) := fun m => by unfold colStep; rw [hd]; rfl
   rw [e, e]; exact ⟨rfl, h⟩
 | false =>
   rcases (show c.at_ = 0 ∨ c.at_ = 1 ∨ c.at_ = 2 by omega) with h0 | h0 | h0
   ·have e : ∀ m, colStep x.pool x.w m s c = ((advStep x.w m c.a).2, s, { c with a := (advStep x.w m c.a).1, at_ := if (advStep x.w m c.a).1.done then 1 else 0 }) := fun m => by unfold colStep; rw [hd, h0]; rfl
    rw [e, e]
    obtain ⟨q1, q2⟩ := advStep_agree h hl c2 c3 (fun h1 h2 => ha.l h1 h2)
    rw [q1]; exact ⟨rfl, q2⟩
   ·have e : ∀ m, colStep x.pool x.w m s c = (m.tick, { s.ready (cutE (m.at_ 2)) with xs := [] }, { c with at_ := 2, g := giveInit x.pool (s.ready (cutE (m.at_ 2))).xs, done := (giveInit x.pool (s.ready (cutE (m.at_ 2))).xs).done }) := fun m => by unfold colStep; rw [hd, h0]; rfl
    rw [e, e, h.at_ 2 c2]
    exact ⟨rfl, h.tick⟩
   ·have e : ∀ m, colStep x.pool x.w m s c = ((pushStep x.pool m c.g).2, s, { c with g := (pushStep x.pool m c.g).1, done := (pushStep x.pool m c.g).1.done }) := fun m => by unfold colStep; rw [hd, h0]; rfl
    rw [e, e]
    obtain ⟨q1, q2⟩ := pushStep_agr h hk cv (hg hd h0)
    rw [q1]; exact ⟨rfl, q2⟩
end Go.Proofs.YtggnbdeokmdjbaaGreat


namespace Go.Proofs.YtggnbdeokmdjbaaGreat
open Go
attribute [local irreducible] Sx Cx Rx Fx Krg Ksq Kbl Klp Kr
section
variable {L F G : St}
theorem Fx.entl {P : Program} {f : FuncId} {vs : List Value} {R : Value → St → Prop} {M : St} (h : Ent L M) (x : Fx P f vs M R) : Fx P f vs L R := by
 unfold Fx at *
 intro w0 w s
 exact x w0 w (s.ent h)
def rcolAL (T : TypeId) (s re n : Nat) (c : ColS) (a : Option Addr) (q : Nat) : St :=
 [pt a (Blk T [.pointer (some ⟨s, 0, none⟩), .int .i64 (c.at_ : Nat), .pointer (some ⟨q, 0, none⟩), .pointer none, .bool c.a.won, .bool c.done]), pt (some ⟨q, 0, none⟩) (RAdvO re n c.a)]
def rcolCL (T : TypeId) (s re rp n : Nat) (c : ColS) (a : Option Addr) (y : Nat × Nat) : St :=
 [pt a (Blk T [.pointer (some ⟨s, 0, none⟩), .int .i64 2, .pointer (some ⟨y.1, 0, none⟩), .pointer (some ⟨y.2, 0, none⟩), .bool c.a.won, .bool c.done]), pt (some ⟨y.1, 0, none⟩) (RAdvO re n c.a), pt (some ⟨y.2, 0, none⟩) (RGiveO rp c.g)]
def RColT (T : TypeId) (s re rp n : Nat) (c : ColS) (a : Option Addr) : As := bif Nat.beq c.at_ 2 then exs (rcolCL T s re rp n c a) else exs (rcolAL T s re n c a)
abbrev RColO := RColT 72
theorem RColO.a {T : TypeId} {s re rp n : Nat} {c : ColS} {a : Option Addr} (h : c.at_ ≠ 2) : RColT T s re rp n c a = exs (rcolAL T s re n c a) := by
 unfold RColT
 have : Nat.beq c.at_ 2 = false := by
  cases hb : Nat.beq c.at_ 2 with
  | false => rfl
  | true => exact absurd (Nat.eq_of_beq_eq_true hb) h
 rw [this]; rfl
theorem RColO.c {T : TypeId} {s re rp n : Nat} {c : ColS} {a : Option Addr} (h : c.at_ = 2) : RColT T s re rp n c a = exs (rcolCL T s re rp n c a) := by unfold RColT; rw [h]; rfl
theorem RColO.closeA {b s re rp n q at_ : Nat} {d : Bool} {v : Value} {A : AdvS} (c : ColS) (h : c.at_ ≠ 2) (h1 : at_ = c.at_) (h2 : v = .bool c.a.won) (h3 : d = c.done) (h4 : A = c.a) :
  Ent (pt (some ⟨b, 0, none⟩) (Blk 72 [.pointer (some ⟨s, 0, none⟩), .int .i64 (at_ : Nat), .pointer (some ⟨q, 0, none⟩), .pointer none, v, .bool d]) :: pt (some ⟨q, 0, none⟩) (RAdvO re n A) :: G) (pt (some ⟨b, 0, none⟩) (RColO s re rp n c) :: G) := by
 subst h1; subst h2; subst h3; subst h4
 exact Ent.close (f := rcolAL 72 s re n c (some ⟨b, 0, none⟩)) (RColO.a h) q
theorem RColO.closeC {b s re rp n q r : Nat} {d : Bool} {v : Value} {A : AdvS} {g : PushS} (c : ColS) (h : c.at_ = 2) (h2 : v = .bool c.a.won) (h3 : d = c.done) (h4 : A = c.a) (h5 : g = c.g) :
  Ent (pt (some ⟨b, 0, none⟩) (Blk 72 [.pointer (some ⟨s, 0, none⟩), .int .i64 2, .pointer (some ⟨q, 0, none⟩), .pointer (some ⟨r, 0, none⟩), v, .bool d]) :: pt (some ⟨q, 0, none⟩) (RAdvO re n A) :: pt (some ⟨r, 0, none⟩) (RGiveO rp g) :: G) (pt (some ⟨b, 0, none⟩) (RColO s re rp n c) :: G) := by
 subst h2; subst h3; subst h4; subst h5
 exact Ent.close (f := rcolCL 72 s re rp n c (some ⟨b, 0, none⟩)) (RColO.c h) (q, r)
theorem refColNew {s w rm rp rs re : Nat} {x : Cn} {S : SupS} {F1 F2 : St} [t1 : Take L (some ⟨s, 0, none⟩) (RSupO w S) F1] [t2 : Take F1 (some ⟨w, 0, none⟩) (RWO x rm rp rs re) F2] :
  Fx Tryz.prog 24 [.pointer (some ⟨s, 0, none⟩)] L (fun v L' => ∃ b, v = .pointer (some ⟨b, 0, none⟩) ∧ L' = pt (some ⟨b, 0, none⟩) (RColO s re rp x.w ColS.init) :: pt (some ⟨s, 0, none⟩) (RSupO w S) :: F1) := by
 refine Fx.mk Tryz.func24 k24 nb_ ?_
 dsimp only [c24, kG, kS, kH, kM, kN, kF, kL, envOf, Nat.reduceAdd]
 refine Cx.ent (Ent.trans (Ent.of t1.out) (Ent.cons (Ent.of t2.out))) ?_
 refine Cx.openp (a := some ⟨s, 0, none⟩) rfl ?_
 rintro ⟨st, lm⟩
 simp only [rsupL, List.cons_append, List.nil_append]
 refine go ?_
 refine Sx.bx rfl rfl fun q => ?_
 refine go ?_
 refine Sx.bx rfl rfl fun b => ?_
 refine go ?_
 refine Kr.one (.inr rfl) rfl ?_ ⟨b, rfl, rfl⟩
 refine Ent.trans (Ent.cons (RAdvO.close (n := x.w) (y := 0) AdvS.init AdvS.ok_init (fun _ => ⟨rfl, rfl⟩) rfl rfl rfl rfl)) ?_
 refine Ent.trans (RColO.closeA (rp := rp) ColS.init (by show (0 : Nat) ≠ 2; omega) rfl rfl rfl rfl) (Ent.cons ?_)
 refine Ent.trans (RSupO.close (a := some ⟨s, 0, none⟩) (st := st) (lm := lm) (w := w) S rfl rfl rfl) (Ent.cons ?_)
 exact Ent.of t2.back
set_option maxHeartbeats 4000000 in
theorem refColStep {b s w rm rp rs re : Nat} {x : Cn} {S : SupS} {m : Mm} {c : ColS} {F1 F2 F3 F4 F5 : St} (hx : x.ok) (hl : x.len ≤ m.ws.length) (hc : c.at_ ≤ 2) (hb : S.xs.length + S.lm.size ≤ 1000000) (hd2 : c.done = true → c.at_ = 2)
  (h0 : c.at_ = 0 → c.a.done = false ∧ c.a.won = false) (hgi : c.done = false → c.at_ = 1 → giveInit x.pool (S.ready (cutE (m.at_ 2))).xs = PushS.init (S.ready (cutE (m.at_ 2))).xs) (hg : c.done = false → c.at_ = 2 → c.g.ok x.pool ∧ c.g.l.length ≤ 1000000)
  [t1 : Take L (some ⟨b, 0, none⟩) (RColO s re rp x.w c) F1] [t2 : Take F1 (some ⟨s, 0, none⟩) (RSupO w S) F2] [t3 : Take F2 (some ⟨rm, 0, none⟩) (RMemO m) F3] [t4 : Take F3 (some ⟨w, 0, none⟩) (RWO x rm rp rs re) F4] [t5 : Take F4 (some ⟨rp, 0, none⟩) (RSkO rm x.pool) F5] [t6 : Take F5 (some ⟨re, 0, none⟩) (REpO x rm) G] :
  Fx Tryz.prog 18 [.pointer (some ⟨b, 0, none⟩)] L
   (fun v L' => v = .bool (!c.done) ∧ L' = pt (some ⟨b, 0, none⟩) (RColO s re rp x.w (colStep x.pool x.w m S c).2.2) :: pt (some ⟨s, 0, none⟩) (RSupO w (colStep x.pool x.w m S c).2.1) :: pt (some ⟨rm, 0, none⟩) (RMemO (colStep x.pool x.w m S c).1) :: F3) := by
 have hback : Ent (pt (some ⟨w, 0, none⟩) (RWO x rm rp rs re) :: pt (some ⟨rp, 0, none⟩) (RSkO rm x.pool) :: pt (some ⟨re, 0, none⟩) (REpO x rm) :: G) F3 := Ent.trans (Ent.cons (Ent.trans (Ent.cons (Ent.of t6.back)) (Ent.of t5.back))) (Ent.of t4.back)
 have fin : ∀ {A : St} {c' : ColS} {S' : SupS} {m' : Mm}, Ent A (pt (some ⟨b, 0, none⟩) (RColO s re rp x.w c') :: pt (some ⟨s, 0, none⟩) (RSupO w S') :: pt (some ⟨rm, 0, none⟩) (RMemO m') :: pt (some ⟨w, 0, none⟩) (RWO x rm rp rs re) :: pt (some ⟨rp, 0, none⟩) (RSkO rm x.pool) :: pt (some ⟨re, 0, none⟩) (REpO x rm) :: G) →
  Ent A (pt (some ⟨b, 0, none⟩) (RColO s re rp x.w c') :: pt (some ⟨s, 0, none⟩) (RSupO w S') :: pt (some ⟨rm, 0, none⟩) (RMemO m') :: F3) := fun h => Ent.trans h (Ent.cons (Ent.cons (Ent.cons hback)))
 have hz := size_ready (cutE (m.at_ 2)) S.lm
 have hrl : (S.ready (cutE (m.at_ 2))).xs.length ≤ 1000000 := by show (S.xs ++ (readyAll (cutE (m.at_ 2)) S.lm).1).length ≤ _; rw [List.length_append]; omega
 have hlen3 : 3 ≤ x.len := by unfold Cn.len; omega
 refine Fx.mk Tryz.func18 k18 nb_ ?_
 dsimp only [c18, kG, kS, kH, kM, kN, kF, kL, envOf, Nat.reduceAdd]
 refine Cx.ent (Ent.trans (Ent.of t1.out) (Ent.cons (Ent.trans (Ent.of t2.out) (Ent.cons (Ent.trans (Ent.of t3.out) (Ent.cons (Ent.trans (Ent.of t4.out) (Ent.cons (Ent.trans (Ent.of t5.out) (Ent.cons (Ent.of t6.out))))))))))) ?_
 refine Cx.pure (rmemKey (rm := rm) (m := m)) fun hm => ?_
 cases hd : c.done with
 | true =>
   have e1 : colStep x.pool x.w m S c = (m, S, c) := by unfold colStep; rw [hd]; rfl
   rw [e1]
   have h2 := hd2 hd
   refine Cx.openp (a := some ⟨b, 0, none⟩) (RColO.c h2) ?_
   rintro ⟨q, r⟩
   simp only [rcolCL, List.cons_append, List.nil_append]
   rw [hd]
   refine go ?_
   exact Kr.one (.inr rfl) rfl (Ent.trans (RColO.closeC c h2 rfl hd.symm rfl rfl) (Ent.cons (Ent.cons (Ent.cons hback)))) ⟨rfl, rfl⟩
 | false =>
   rcases (show c.at_ = 0 ∨ c.at_ = 1 ∨ c.at_ = 2 by omega) with e0 | e0 | e0
   ·obtain ⟨a0, w0⟩ := h0 e0
    have e1 : colStep x.pool x.w m S c = ((advStep x.w m c.a).2, S, { c with a := (advStep x.w m c.a).1, at_ := if (advStep x.w m c.a).1.done then 1 else 0 }) := by unfold colStep; rw [hd, e0]; rfl
    rw [e1]
    have hwon := advStep_won (n := x.w) (m := m) (s := c.a) (fun _ => w0)
    obtain ⟨⟨a', m'⟩, hR⟩ : ∃ R, advStep x.w m c.a = R := ⟨_, rfl⟩
    refine Cx.openp (a := some ⟨b, 0, none⟩) (RColO.a (by omega)) ?_
    rintro q
    simp only [rcolAL, List.cons_append, List.nil_append]
    rw [hd, e0, w0]
    refine go ?_
    refine Sx.ca rfl (refAdvStep (b := q) (re := re) (rm := rm) (x := x) (m := m) (s := c.a) hx hm.1 hl) ?_
    rw [hR]
    rw [hR] at hwon
    rintro v L' ⟨rfl, rfl⟩
    dsimp only at hwon ⊢
    refine Sx.openp (a := some ⟨q, 0, none⟩) rfl ?_
    intro y
    simp only [radvL, List.cons_append, List.nil_append]
    refine Sx.liftp fun hso => ?_
    obtain ⟨hs, hy⟩ := hso
    cases hq : a'.done with
    | true =>
      rw [hq] at hy
      refine go ?_
      refine Kr.one (.inr rfl) rfl ?_ ⟨rfl, rfl⟩
      refine fin (Ent.trans (Ent.trans (Ent.take (a := some ⟨q, 0, none⟩)) (RAdvO.close a' hs (fun h => by rw [hq] at h; cases h) rfl rfl rfl (by rw [hq]))) ?_)
      refine Ent.trans (Ent.trans (Ent.trans (Ent.take (a := some ⟨b, 0, none⟩)) (Ent.cons (Ent.take (a := some ⟨q, 0, none⟩)))) (RColO.closeA (s := s) (q := q) (v := .bool a'.won) (rp := rp) (at_ := 1) (d := false) { c with a := a', at_ := 1, done := false } (by show (1 : Nat) ≠ 2; omega) rfl rfl rfl rfl)) (Ent.cons ?_)
      exact entm
    | false =>
      rw [hq] at hy
      have hw' := hwon hq
      refine go ?_
      refine Kr.one (.inr rfl) rfl ?_ ⟨rfl, rfl⟩
      refine fin (Ent.trans (Ent.trans (Ent.take (a := some ⟨q, 0, none⟩)) (RAdvO.close a' hs (fun h => hy rfl) rfl rfl rfl (by rw [hq]))) ?_)
      refine Ent.trans (Ent.trans (Ent.trans (Ent.take (a := some ⟨b, 0, none⟩)) (Ent.cons (Ent.take (a := some ⟨q, 0, none⟩)))) (RColO.closeA (s := s) (q := q) (v := .bool false) (rp := rp) (at_ := 0) (d := false) { c with a := a', at_ := 0, done := false } (by show (0 : Nat) ≠ 2; omega) rfl (by rw [hw']) rfl rfl)) (Ent.cons ?_)
      exact entm
   ·have e1 : colStep x.pool x.w m S c = (m.tick, { S.ready (cutE (m.at_ 2)) with xs := [] }, { c with at_ := 2, g := giveInit x.pool (S.ready (cutE (m.at_ 2))).xs, done := (giveInit x.pool (S.ready (cutE (m.at_ 2))).xs).done }) := by unfold colStep; rw [hd, e0]; rfl
    rw [e1]
    refine Cx.openp (a := some ⟨b, 0, none⟩) (RColO.a (by omega)) ?_
    rintro q
    simp only [rcolAL, List.cons_append, List.nil_append]
    refine Cx.openp (a := some ⟨s, 0, none⟩) rfl ?_
    rintro ⟨st, lm⟩
    simp only [rsupL, List.cons_append, List.nil_append]
    rw [hd, e0]
    refine go ?_
    refine Cx.ordc rfl kr_ ?_
    refine ge ?_
    refine Ev.caH kr_ rfl rfl (refLoad (rm := rm) (m := m) 2 (by omega)) (.dep rfl (.dep rfl (.dep rfl (.keep (fun v L' ⟨_, e⟩ => by subst e; exact Has.cell rfl) .nil)))) ?_
    rintro v L' ⟨rfl, rfl⟩
    refine ge ?_
    refine Ev.cakH kr_ rfl rfl (refCut (m.at_ 2) (Mm.at_lt hm.1 2)) ?_
    refine ge ?_
    refine Ev.caH kr_ rfl rfl (Fx.entl (RSupO.close (a := some ⟨s, 0, none⟩) (st := st) (lm := lm) (w := w) S rfl rfl rfl) (refSupReady (s := s) (w := w) (S := S) (now := cutE (m.at_ 2)) (by omega) (by omega) (by unfold cutE; omega))) (Pres.deps kr_) ?_
    rintro v L' ⟨rfl, rfl⟩
    refine ge ?_
    refine go ?_
    have ca := fun (L0 F1 F2 G0 : St) (t2 : Take L0 (some ⟨s, 0, none⟩) (RSupO w (S.ready (cutE (m.at_ 2)))) F1) (t3 : Take F1 (some ⟨w, 0, none⟩) (RWO x rm rp rs re) F2) (t4 : Take F2 (some ⟨rp, 0, none⟩) (RSkO rm x.pool) G0) => refAllG (s := s) (w := w) (rm := rm) (rp := rp) (rs := rs) (re := re) (x := x) (S := S.ready (cutE (m.at_ 2))) (L := L0) hrl (t2 := t2) (t3 := t3) (t4 := t4)
    rw [← hgi hd e0] at ca
    obtain ⟨g', hg'⟩ : ∃ g', giveInit x.pool (S.ready (cutE (m.at_ 2))).xs = g' := ⟨_, rfl⟩
    rw [hg'] at ca ⊢
    refine Sx.ca rfl (ca _ _ _ _ inferInstance inferInstance inferInstance) ?_
    rintro v L' ⟨r, rfl, rfl⟩
    refine go ?_
    refine Sx.openp (a := some ⟨r, 0, none⟩) rfl ?_
    rintro ⟨y1, y2, y3⟩
    simp only [rgiveL, List.cons_append, List.nil_append]
    refine go ?_
    refine Kr.one (.inr rfl) rfl ?_ ⟨rfl, rfl⟩
    refine fin (Ent.trans (Ent.trans (Ent.trans (Ent.take (a := some ⟨r, 0, none⟩)) (Ent.cons (Ent.trans (Ent.take (a := some ⟨y1, 0, none⟩)) (Ent.cons (Ent.take (a := y2)))))) (RGiveO.close (b := r) (q := y1) (r := y2) (c := y3) (rp := rp) g' rfl rfl rfl rfl)) ?_)
    refine Ent.trans (Ent.trans (Ent.trans (Ent.take (a := some ⟨b, 0, none⟩)) (Ent.cons (Ent.trans (Ent.take (a := some ⟨q, 0, none⟩)) (Ent.cons (Ent.take (a := some ⟨r, 0, none⟩)))))) (RColO.closeC (s := s) (q := q) (r := r) (v := .bool c.a.won) (d := g'.done) { c with at_ := 2, g := g', done := g'.done } rfl rfl rfl rfl rfl)) (Ent.cons ?_)
    exact entm
   ·have e1 : colStep x.pool x.w m S c = ((pushStep x.pool m c.g).2, S, { c with g := (pushStep x.pool m c.g).1, done := (pushStep x.pool m c.g).1.done }) := by unfold colStep; rw [hd, e0]; rfl
    rw [e1]
    obtain ⟨gok, gl⟩ := hg hd e0
    refine Cx.openp (a := some ⟨b, 0, none⟩) (RColO.c e0) ?_
    rintro ⟨q, r⟩
    simp only [rcolCL, List.cons_append, List.nil_append]
    rw [hd]
    refine go ?_
    refine Sx.ca rfl (refGiveStep (b := r) (rp := rp) (rm := rm) (k := x.pool) (m := m) (p := c.g) (hx.pool (by omega) hm.2) gok gl) ?_
    rintro v L' ⟨rfl, rfl⟩
    obtain ⟨⟨g', m'⟩, hR⟩ : ∃ R, pushStep x.pool m c.g = R := ⟨_, rfl⟩
    rw [hR]
    dsimp only
    refine go ?_
    refine Sx.openp (a := some ⟨r, 0, none⟩) rfl ?_
    rintro ⟨y1, y2, y3⟩
    simp only [rgiveL, List.cons_append, List.nil_append]
    refine go ?_
    refine Kr.one (.inr rfl) rfl ?_ ⟨rfl, rfl⟩
    refine fin (Ent.trans (Ent.trans (Ent.trans (Ent.take (a := some ⟨r, 0, none⟩)) (Ent.cons (Ent.trans (Ent.take (a := some ⟨y1, 0, none⟩)) (Ent.cons (Ent.take (a := y2)))))) (RGiveO.close (b := r) (q := y1) (r := y2) (c := y3) (rp := rp) g' rfl rfl rfl rfl)) ?_)
    refine Ent.trans (Ent.trans (Ent.trans (Ent.take (a := some ⟨b, 0, none⟩)) (Ent.cons (Ent.trans (Ent.take (a := some ⟨q, 0, none⟩)) (Ent.cons (Ent.take (a := some ⟨r, 0, none⟩)))))) (RColO.closeC (s := s) (q := q) (r := r) (v := .bool c.a.won) (d := g'.done) { c with g := g', done := g'.done } e0 rfl rfl rfl rfl)) (Ent.cons ?_)
    exact entm
end
end Go.Proofs.YtggnbdeokmdjbaaGreat
