/-
  Parts of the proof, merged: what the statement leans on.
-/
import Derived.Test.YtflalhdofhobmaaGreatZHgF
set_option linter.unusedVariables false
set_option linter.unusedSimpArgs false

namespace Go.Proofs.YtflalhdofhobmaaGreat
section
variable {x : Cn} {T : Nat} {m : Mm} {A B : List Wk} {w : Wk} {P R : List Int} {slot : Nat} {gen : Int}
def AgS (x : Cn) (A B : List Wk) (n : Nat) (T : Nat) (r : Mm × SupS × AlS) : Prop := ∃ P R, ApG x r.1 (A ++ ⟨r.2.1, r.2.2, n⟩ :: B) P R (T + 1)
theorem Wk.own_g (h : WkG x T m P w) (h6 : w.a.at_ ≠ 6) : w.own = w.s.xs ++ (if 0 ≤ w.a.v.hand then [w.a.v.hand] else []) := by
 unfold Wk.own ownG ownH
 rw [h.gd (.inr h6), if_pos rfl, List.append_nil]
theorem ag_look (h : ApG x m (A ++ w :: B) P R T) (hx : x.ok) (hs : slot < x.sl) (hw8 : x.wd % 8 = 0) (hd : w.a.done = false) (h0 : w.a.at_ = 0) :
  AgS x A B w.n T (alStep (x.al slot gen w.n) m w.s w.a) := by
 have hw := h.mid
 have r := hw.run hd
 have h6 : w.a.at_ ≠ 6 := by omega
 have ho := Wk.own_g hw h6
 have e1 : alStep (x.al slot gen w.n) m w.s w.a = (m.tick, alSeen (x.al slot gen w.n) w.s { w.a.v with cnt := w.a.v.cnt + 1, was := m.at_ (x.root + slot) } w.a.t) := by unfold alStep; rw [hd, h0]; rfl
 rw [e1]
 have hrt := h.root slot hs
 obtain ⟨W, hW⟩ : ∃ W, m.at_ (x.root + slot) = W := ⟨_, rfl⟩
 rw [hW] at hrt ⊢
 have hrl := roundS_le (n := w.n) (wd := x.wd) hrt.c hw.n2 hw8
 have hrg := roundS_ge (n := w.n) hrt.c
 have hn1 := hw.n1
 have hcnt := hw.cnt
 have hnd := h.own_nd
 have hor := h.own_rng
 rw [ho] at hnd hor
 have hz0 : w.a.v.hand < 0 → w.a.v.zat = 0 := r.z0 h6
 have hco := r.co h6
 unfold alSeen
 by_cases hlv : (rtOf W).live gen
 ·rw [if_pos hlv]
  dsimp only
  obtain ⟨need, hneed⟩ : ∃ need, roundS (rtOf W).cl w.n = need := ⟨_, rfl⟩
  rw [hneed] at hrl hrg ⊢
  by_cases hf : 2 ≤ (rtOf W).mrk ∧ fitsS x.wd (rtOf W).off need
  ·rw [if_pos hf]
   refine ⟨P, R, h.still (fun y => by rw [ho, own_n]) ⟨hw.n1, hw.n2, hw.lm, hw.m0, hw.m2, (by show 1 ≤ 6; omega), fun hh => (by rcases hh with hh | hh <;> cases hh), fun _ => rfl, (by show w.a.v.cnt + 1 ≤ T + 1; omega), fun _ => ?_⟩⟩
   exact ⟨r.h0, hrt, fun _ _ => ⟨by show 1 ≤ need; omega, hrl⟩, fun _ => hf.2.2, fun hh => (by simp at hh), fun hh => (by cases hh), fun _ => hz0, fun hh => (by cases hh), fun hh => (by cases hh), fun hh => (by cases hh), fun _ => hco⟩
  ·rw [if_neg hf]
   by_cases hh0 : 0 ≤ w.a.v.hand
   ·rw [if_pos hh0]
    refine ⟨P, R, h.still (fun y => by rw [ho, own_n]) ⟨hw.n1, hw.n2, hw.lm, hw.m0, hw.m2, (by show 4 ≤ 6; omega), fun hh => (by rcases hh with hh | hh <;> cases hh), fun _ => rfl, (by show w.a.v.cnt + 1 ≤ T + 1; omega), fun _ => ?_⟩⟩
    exact ⟨r.h0, hrt, fun _ _ => ⟨by show 1 ≤ need; omega, hrl⟩, fun hh => (by cases hh), fun _ => hh0, fun hh => (by cases hh), fun _ => hz0, fun hh => (by cases hh), fun hh => (by cases hh), fun hh => (by cases hh), fun _ => hco⟩
   ·rw [if_neg hh0]
    by_cases ha : w.a.v.asked = true
    ·rw [if_pos ha]
     obtain ⟨k1, k2⟩ := alClose_wkG (x := x) (T := T + 1) (m := m.tick) (P := P) (s := w.s) (v := { w.a.v with cnt := w.a.v.cnt + 1, was := W, need := need }) (t := w.a.t) (code := 6) (o := Hd.zero) hw.n1 hw.n2 hw.lm hw.m0 hw.m2 (by show w.a.v.cnt + 1 ≤ T + 1; omega) hrt hnd hor
     exact ⟨P, R, h.still (fun y => by rw [ho, List.count_append]; exact k2 y) k1⟩
    ·rw [if_neg ha]
     rw [if_neg hh0, List.append_nil] at ho
     by_cases hxs : w.s.xs = []
     ·have e2 : takeInit x.ba w.s = (w.s, { TakeS.none_ with at_ := 1, q := PopS.init x.ba }) := by
       unfold takeInit keepT
       rw [if_pos hxs]
       simp only
       rw [if_neg (by have := hw.lm; omega)]
      rw [e2]
      have e3 : TakeS.none_.done = false := rfl
      simp only [e3, Bool.false_eq_true, if_false]
      refine ⟨P, R, h.still (fun y => by rw [ho, own_n, if_neg hh0, List.append_nil]) ⟨hw.n1, hw.n2, hw.lm, hw.m0, hw.m2, (by show 2 ≤ 6; omega), fun hh => (by rcases hh with hh | hh <;> cases hh), fun _ => rfl, (by show w.a.v.cnt + 1 ≤ T + 1; omega), fun _ => ?_⟩⟩
      refine ⟨r.h0, hrt, fun _ _ => ⟨by show 1 ≤ need; omega, hrl⟩, fun hh => (by cases hh), fun hh => (by simp at hh), fun hh => (by cases hh), fun _ => hz0, fun _ => ⟨?_, rfl⟩, fun _ => ⟨rfl, rfl, rfl, rfl, PopS.ok_init ?_ _, rfl, fun _ hh => absurd rfl hh⟩, fun hh => (by cases hh), fun _ => hco⟩
      ·show w.a.v.hand = -1
       have := r.h0; omega
      ·show 1 ≤ x.c
       obtain ⟨b1, b2, b3, b4, b5, b6, b7⟩ := show MayC (x.w : Int) x.c x.wd x.sl x.ca x.ba from hx
       omega
     ·have e2 : takeInit x.ba w.s = (w.s.kept, { TakeS.none_ with chunk := lastI w.s.xs, is_ := true, done := true }) := by
       unfold takeInit keepT
       rw [if_neg hxs]
      rw [e2]
      simp only [if_true, alTaken]
      have hlm := lastI_mem hxs
      have hlr := h.own_rng (lastI w.s.xs) (by rw [ho]; exact hlm)
      refine ⟨P, R, h.still (fun y => ?_) ⟨hw.n1, hw.n2, hw.lm, hw.m0, hw.m2, (by show 3 ≤ 6; omega), fun hh => (by rcases hh with hh | hh <;> cases hh), fun _ => rfl, (by show w.a.v.cnt + 1 ≤ T + 1; omega), fun _ => ?_⟩⟩
      ·rw [ho, own_n]
       dsimp only
       rw [if_pos hlr.1, List.count_append]
       exact lastI_count hxs y
      ·have hz := hz0 (by omega)
       refine ⟨?_, hrt, fun _ _ => ⟨by show 1 ≤ need; omega, hrl⟩, fun hh => (by cases hh), fun _ => hlr.1, fun _ => ?_, fun _ _ => hz, fun hh => (by cases hh), fun hh => (by cases hh), fun hh => (by cases hh), fun _ => hco⟩
       ·show -1 ≤ lastI w.s.xs; omega
       ·show w.a.v.zat < x.wd
        have := hw.n2; omega
 ·rw [if_neg hlv]
  obtain ⟨k1, k2⟩ := alClose_wkG (x := x) (T := T + 1) (m := m.tick) (P := P) (s := w.s) (v := { w.a.v with cnt := w.a.v.cnt + 1, was := W }) (t := w.a.t) (code := 3) (o := Hd.zero) hw.n1 hw.n2 hw.lm hw.m0 hw.m2 (by show w.a.v.cnt + 1 ≤ T + 1; omega) hrt hnd hor
  exact ⟨P, R, h.still (fun y => by rw [ho, List.count_append]; exact k2 y) k1⟩
theorem ag_root (h : ApG x m (A ++ w :: B) P R T) (hx : x.ok) (hs : slot < x.sl) (v : Nat) (hv : (rtOf v).ok) :
  Pool x.pool (m.put (x.root + slot) v) P ∧ (m.put (x.root + slot) v).ws.length = x.len ∧ FrG x w.own m (m.put (x.root + slot) v) ∧
   (m.put (x.root + slot) v).at_ x.pool.head = m.at_ x.pool.head ∧ ∀ s, s < x.sl → (rtOf ((m.put (x.root + slot) v).at_ (x.root + s))).ok := by
 have g1 : x.root + x.sl ≤ x.link := by unfold Cn.root Cn.link; omega
 have g2 : x.link + x.c = x.word := by unfold Cn.link Cn.word; omega
 have g3 : 3 ≤ x.root := by unfold Cn.root; omega
 have g4 : x.word ≤ x.len := by unfold Cn.word Cn.len; omega
 have g0 : x.pool.head = 0 := rfl
 have hl : x.root + slot < m.ws.length := by rw [h.len]; omega
 have hput : ∀ a, (m.put (x.root + slot) v).at_ a = if x.root + slot = a then v else m.at_ a := fun a => Mm.at_put a hl
 refine ⟨h.pool.put_other hl (by omega) (fun y hy => ?_), by rw [Mm.len_put]; exact h.len, fun a _ h2 _ _ => by rw [hput, if_neg (by omega)], by rw [hput, if_neg (by omega)], fun s hs2 => ?_⟩
 ·have := h.pool.c.mem y hy
  show x.root + slot ≠ x.link + y.toNat
  omega
 ·rw [hput]
  split
  ·exact hv
  ·exact h.root s hs2
theorem ag_fit (h : ApG x m (A ++ w :: B) P R T) (hx : x.ok) (hs : slot < x.sl) (hd : w.a.done = false) (h0 : w.a.at_ = 1) :
  AgS x A B w.n T (alStep (x.al slot gen w.n) m w.s w.a) := by
 obtain ⟨b1, b2, b3, b4, b5, b6, b7⟩ := show MayC (x.w : Int) x.c x.wd x.sl x.ca x.ba from hx
 have hw := h.mid
 have r := hw.run hd
 have h6 : w.a.at_ ≠ 6 := by omega
 have ho := Wk.own_g hw h6
 have hcnt := hw.cnt
 have f2 := r.fit h0
 have hwas := r.wok
 have hnd := h.own_nd
 have hor := h.own_rng
 rw [ho] at hnd hor
 by_cases he : m.at_ (x.root + slot) = w.a.v.was
 ·have e1 : alStep (x.al slot gen w.n) m w.s w.a = (m.put (x.root + slot) (Rt.w ⟨(rtOf w.a.v.was).gen, (rtOf w.a.v.was).mrk, (rtOf w.a.v.was).cl, (rtOf w.a.v.was).off + w.a.v.need⟩), alClose x.pool w.s { w.a.v with cnt := w.a.v.cnt + 1 } w.a.t 0 ⟨slot, gen, (rtOf w.a.v.was).chunk, (rtOf w.a.v.was).off, w.n⟩) := by
   unfold alStep; rw [hd, h0]; simp only [Bool.false_eq_true, if_false]; rw [if_pos he]
  rw [e1]
  obtain ⟨q, hq⟩ : ∃ q : Rt, (⟨(rtOf w.a.v.was).gen, (rtOf w.a.v.was).mrk, (rtOf w.a.v.was).cl, (rtOf w.a.v.was).off + w.a.v.need⟩ : Rt) = q := ⟨_, rfl⟩
  have hqo : q.ok := by rw [← hq]; exact ⟨hwas.g, hwas.m, hwas.c, by show (rtOf w.a.v.was).off + w.a.v.need ≤ 1024; omega⟩
  rw [hq]
  obtain ⟨p2, p3, p4, p5, p6⟩ := ag_root h hx hs q.w (by rw [rtOf_w hqo]; exact hqo)
  obtain ⟨k1, k2⟩ := alClose_wkG (x := x) (T := T + 1) (m := m.put (x.root + slot) q.w) (P := P) (s := w.s) (v := { w.a.v with cnt := w.a.v.cnt + 1 }) (t := w.a.t) (code := 0) (o := ⟨slot, gen, (rtOf w.a.v.was).chunk, (rtOf w.a.v.was).off, w.n⟩) hw.n1 hw.n2 hw.lm hw.m0 hw.m2 (by show w.a.v.cnt + 1 ≤ T + 1; omega) hwas hnd hor
  exact ⟨P, R, h.upd p3 (Mm.ok_put h.ok (Rt.w_lt hqo)) p6 p2 (.inl ⟨p5, rfl⟩) (by dsimp only; rw [p5]; omega) (fun y => by rw [k2, ho, List.count_append]) p4 k1⟩
 ·have e1 : alStep (x.al slot gen w.n) m w.s w.a = (m.tick, w.s, ⟨0, { w.a.v with cnt := w.a.v.cnt + 1 }, w.a.t, gNone, false⟩) := by
   unfold alStep; rw [hd, h0]; simp only [Bool.false_eq_true, if_false]; rw [if_neg he]
  rw [e1]
  refine ⟨P, R, h.still (fun y => by rw [ho, own_n]) ⟨hw.n1, hw.n2, hw.lm, hw.m0, hw.m2, (by show 0 ≤ 6; omega), fun hh => (by rcases hh with hh | hh <;> cases hh), fun _ => rfl, (by show w.a.v.cnt + 1 ≤ T + 1; omega), fun _ => ?_⟩⟩
  exact ⟨r.h0, r.wok, fun hh => absurd rfl hh, fun hh => (by cases hh), fun hh => (by simp at hh), fun hh => (by cases hh), fun _ => r.z0 h6, fun hh => (by cases hh), fun hh => (by cases hh), fun hh => (by cases hh), fun _ => r.co h6⟩
theorem ag_new (h : ApG x m (A ++ w :: B) P R T) (hx : x.ok) (hs : slot < x.sl) (hd : w.a.done = false) (h0 : w.a.at_ = 5) :
  AgS x A B w.n T (alStep (x.al slot gen w.n) m w.s w.a) := by
 obtain ⟨b1, b2, b3, b4, b5, b6, b7⟩ := show MayC (x.w : Int) x.c x.wd x.sl x.ca x.ba from hx
 have hw := h.mid
 have r := hw.run hd
 have h6 : w.a.at_ ≠ 6 := by omega
 have ho := Wk.own_g hw h6
 have hcnt := hw.cnt
 have hh0 := r.hand (.inr (.inr h0))
 obtain ⟨n1, n2⟩ := r.need (by omega) h6
 have hwas := r.wok
 have hnd := h.own_nd
 have hor := h.own_rng
 rw [ho] at hnd hor
 have hmem : w.a.v.hand ∈ w.own := by rw [ho, if_pos hh0]; simp
 have hr := h.own_rng _ hmem
 by_cases he : m.at_ (x.root + slot) = w.a.v.was
 ·have e1 : alStep (x.al slot gen w.n) m w.s w.a = (m.put (x.root + slot) (Rt.w ⟨(rtOf w.a.v.was).gen, 2 + w.a.v.hand.toNat, (rtOf w.a.v.was).cl, afterS x.wd w.a.v.need⟩), alClose x.pool w.s { w.a.v with cnt := w.a.v.cnt + 1, hand := -1 } w.a.t 0 ⟨slot, gen, w.a.v.hand, 0, w.n⟩) := by
   unfold alStep; rw [hd, h0]; simp only [Bool.false_eq_true, if_false]; rw [if_pos he]
  rw [e1]
  have haf2 := afterS_le n2
  obtain ⟨q, hq⟩ : ∃ q : Rt, (⟨(rtOf w.a.v.was).gen, 2 + w.a.v.hand.toNat, (rtOf w.a.v.was).cl, afterS x.wd w.a.v.need⟩ : Rt) = q := ⟨_, rfl⟩
  have hqo : q.ok := by rw [← hq]; exact ⟨hwas.g, by show 2 + w.a.v.hand.toNat ≤ 4097; omega, hwas.c, by show afterS x.wd w.a.v.need ≤ 1024; omega⟩
  rw [hq]
  obtain ⟨p2, p3, p4, p5, p6⟩ := ag_root h hx hs q.w (by rw [rtOf_w hqo]; exact hqo)
  have hnd2 : w.s.xs.Nodup := (List.nodup_append.1 hnd).1
  obtain ⟨k1, k2⟩ := alClose_wkG (x := x) (T := T + 1) (m := m.put (x.root + slot) q.w) (P := P) (s := w.s) (v := { w.a.v with cnt := w.a.v.cnt + 1, hand := -1 }) (t := w.a.t) (code := 0) (o := ⟨slot, gen, w.a.v.hand, 0, w.n⟩) hw.n1 hw.n2 hw.lm hw.m0 hw.m2 (by show w.a.v.cnt + 1 ≤ T + 1; omega) hwas
   (by rw [if_neg (by show ¬ (0 : Int) ≤ -1; omega), List.append_nil]; exact hnd2) (by rw [if_neg (by show ¬ (0 : Int) ≤ -1; omega), List.append_nil]; exact fun y hy => hor y (List.mem_append_left _ hy))
  refine ⟨P, w.a.v.hand :: R, h.upd p3 (Mm.ok_put h.ok (Rt.w_lt hqo)) p6 p2 (.inl ⟨p5, rfl⟩) (by dsimp only; rw [p5]; omega) (fun y => ?_) p4 k1⟩
  rw [k2, ho, if_pos hh0]
  dsimp only
  rw [if_neg (by omega)]
  simp only [List.count_append, List.count_cons, List.count_nil]
  omega
 ·have e1 : alStep (x.al slot gen w.n) m w.s w.a = (m.tick, w.s, ⟨0, { w.a.v with cnt := w.a.v.cnt + 1 }, w.a.t, gNone, false⟩) := by
   unfold alStep; rw [hd, h0]; simp only [Bool.false_eq_true, if_false]; rw [if_neg he]
  rw [e1]
  refine ⟨P, R, h.still (fun y => by rw [ho, own_n]) ⟨hw.n1, hw.n2, hw.lm, hw.m0, hw.m2, (by show 0 ≤ 6; omega), fun hh => (by rcases hh with hh | hh <;> cases hh), fun _ => rfl, (by show w.a.v.cnt + 1 ≤ T + 1; omega), fun _ => ?_⟩⟩
  exact ⟨r.h0, r.wok, fun hh => absurd rfl hh, fun hh => (by cases hh), fun hh => (by simp at hh), fun hh => (by cases hh), fun _ => r.z0 h6, fun hh => (by cases hh), fun hh => (by cases hh), fun hh => (by cases hh), fun _ => r.co h6⟩
end
end Go.Proofs.YtflalhdofhobmaaGreat


namespace Go.Proofs.YtflalhdofhobmaaGreat
section
variable {x : Cn} {T : Nat} {m : Mm} {A B : List Wk} {w : Wk} {P R : List Int} {slot : Nat} {gen : Int}
theorem ag_take (h : ApG x m (A ++ w :: B) P R T) (hx : x.ok) (hT : T ≤ 1000) (hd : w.a.done = false) (h0 : w.a.at_ = 2) :
  AgS x A B w.n T (alStep (x.al slot gen w.n) m w.s w.a) := by
 have hlen := hx.len_le
 have hpok := hx.pool (n := x.len) (Nat.le_refl _) hlen
 have g1 : x.root + x.sl ≤ x.link := by unfold Cn.root Cn.link; omega
 have g3 : 3 ≤ x.root := by unfold Cn.root; omega
 have g0 : x.pool.head = 0 := rfl
 have hw := h.mid
 have r := hw.run hd
 have h6 : w.a.at_ ≠ 6 := by omega
 have ho := Wk.own_g hw h6
 have hcnt := hw.cnt
 obtain ⟨hhand, hask⟩ := r.noh h0
 have hz0 := r.z0 h6 (by omega)
 have hne := r.need (by omega) h6
 have hn1 := hw.n1
 have hn2 := hw.n2
 have hco := r.co h6
 rw [if_neg (by omega), List.append_nil] at ho
 obtain ⟨t1, t2, t3, t4, t5, t6, t7⟩ := r.tk h0
 have htag : Tagged x.pool m := by unfold Tagged; have := h.tag; omega
 obtain ⟨P', p1, p2, p3, p4, p5, p6, p7⟩ := popStep_inv hpok h.len h.pool t5 htag t7
 have hq := popStep_ok (m := m) hpok h.ok t5
 have hmm := popStep_mem (m := m) hpok h.ok t5
 obtain ⟨Q, hQ⟩ : ∃ Q, popStep x.pool m w.a.t.q = Q := ⟨_, rfl⟩
 have e0 : takeStep x.pool x.ba m w.s w.a.t = if Q.1.done then (Q.2, popped w.s { w.a.t with q := Q.1 }) else (Q.2, w.s, { w.a.t with q := Q.1 }) := by
  unfold takeStep; rw [t2, t1]; simp only [Bool.false_eq_true, if_false, hQ, t1, t2]
 rw [hQ] at p1 p2 p3 p4 p5 p6 p7 hq hmm
 have hroot : ∀ s, s < x.sl → (rtOf (Q.2.at_ (x.root + s))).ok := fun s hs => by rw [p4 _ (by omega)]; exact h.root s hs
 have hfr : FrG x w.own m Q.2 := fun a h1 _ _ _ => p4 a h1
 have hout : ∀ w', (∀ y, P'.count y + w'.own.count y = P.count y + w.own.count y) → WkG x (T + 1) Q.2 P' w' → ApG x Q.2 (A ++ w' :: B) P' R (T + 1) := fun w' hc hk =>
  h.upd (by rw [hmm.2]; exact h.len) hmm.1 hroot p1 p3 p5 (fun y => by have := hc y; omega) hfr hk
 cases hqd : Q.1.done with
 | false =>
   have e2 : alStep (x.al slot gen w.n) m w.s w.a = (Q.2, w.s, ⟨2, { w.a.v with cnt := w.a.v.cnt + 1 }, { w.a.t with q := Q.1 }, gNone, false⟩) := by
    unfold alStep; rw [hd, h0]; simp only [Bool.false_eq_true, if_false, e0, hqd, t2]
   rw [e2]
   have hP := p6 hqd
   refine ⟨P', R, hout _ (fun y => ?_) ⟨hw.n1, hw.n2, hw.lm, hw.m0, hw.m2, (by show 2 ≤ 6; omega), fun hh => (by rcases hh with hh | hh <;> cases hh), fun _ => rfl, (by show w.a.v.cnt + 1 ≤ T + 1; omega), fun _ => ?_⟩⟩
   ·rw [ho, own_n, hP]
    dsimp only
    rw [if_neg (by omega), List.append_nil]
   ·exact ⟨r.h0, r.wok, fun _ _ => hne, fun hh => (by cases hh), fun hh => (by simp at hh), fun hh => (by cases hh), fun _ _ => hz0, fun _ => ⟨hhand, hask⟩, fun _ => ⟨t1, t2, t3, t4, hq, hqd, p2⟩, fun hh => (by cases hh), fun _ => hco⟩
 | true =>
   have hP := p7 t6 hqd
   cases hg : Q.1.got with
   | nil =>
     rw [hg, List.nil_append] at hP
     have e2 : alStep (x.al slot gen w.n) m w.s w.a = (Q.2, w.s, ⟨0, { w.a.v with cnt := w.a.v.cnt + 1 }, { w.a.t with q := Q.1, done := true }, gNone, false⟩) := by
      unfold alStep; rw [hd, h0]; simp only [Bool.false_eq_true, if_false, e0, hqd, if_true, popped, hg, alTaken, t4]
     rw [e2]
     refine ⟨P', R, hout _ (fun y => ?_) ⟨hw.n1, hw.n2, hw.lm, hw.m0, hw.m2, (by show 0 ≤ 6; omega), fun hh => (by rcases hh with hh | hh <;> cases hh), fun _ => rfl, (by show w.a.v.cnt + 1 ≤ T + 1; omega), fun _ => ?_⟩⟩
     ·rw [ho, own_n, hP]
      dsimp only
      rw [if_neg (by omega), List.append_nil]
     ·exact ⟨r.h0, r.wok, fun hh => absurd rfl hh, fun hh => (by cases hh), fun hh => (by simp at hh), fun hh => (by cases hh), fun _ _ => hz0, fun hh => (by cases hh), fun hh => (by cases hh), fun hh => (by cases hh), fun _ => hco⟩
   | cons z l =>
     rw [hg] at hP
     have hzr : 0 ≤ z ∧ z < (x.c : Int) := h.rng z (by rw [hP]; simp; omega)
     have e2 : alStep (x.al slot gen w.n) m w.s w.a = (Q.2, w.s.give l, ⟨3, { w.a.v with cnt := w.a.v.cnt + 1, hand := z }, { w.a.t with q := Q.1, chunk := z, is_ := true, done := true }, gNone, false⟩) := by
      unfold alStep; rw [hd, h0]; simp only [Bool.false_eq_true, if_false, e0, hqd, if_true, popped, hg, alTaken]
     rw [e2]
     refine ⟨P', R, hout _ (fun y => ?_) ⟨hw.n1, hw.n2, hw.lm, hw.m0, hw.m2, (by show 3 ≤ 6; omega), fun hh => (by rcases hh with hh | hh <;> cases hh), fun _ => rfl, (by show w.a.v.cnt + 1 ≤ T + 1; omega), fun _ => ?_⟩⟩
     ·rw [ho, own_n, hP]
      dsimp only
      rw [if_pos hzr.1]
      simp only [SupS.give, List.count_append, List.count_cons, List.cons_append, List.count_nil]
      omega
     ·refine ⟨by show -1 ≤ z; omega, r.wok, fun _ _ => hne, fun hh => (by cases hh), fun _ => hzr.1, fun _ => ?_, fun _ _ => hz0, fun hh => (by cases hh), fun hh => (by cases hh), fun hh => (by cases hh), fun _ => hco⟩
      show w.a.v.zat < x.wd
      omega
theorem ag_zero (h : ApG x m (A ++ w :: B) P R T) (hx : x.ok) (hd : w.a.done = false) (h0 : w.a.at_ = 3) :
  AgS x A B w.n T (alStep (x.al slot gen w.n) m w.s w.a) := by
 have g1 : x.root + x.sl ≤ x.link := by unfold Cn.root Cn.link; omega
 have g2 : x.link + x.c = x.word := by unfold Cn.link Cn.word; omega
 have g3 : 3 ≤ x.root := by unfold Cn.root; omega
 have g5 : x.word + x.c * x.wd = x.len := by unfold Cn.word Cn.len; omega
 have g0 : x.pool.head = 0 := rfl
 have hw := h.mid
 have r := hw.run hd
 have h6 : w.a.at_ ≠ 6 := by omega
 have ho := Wk.own_g hw h6
 have hcnt := hw.cnt
 have hh0 := r.hand (.inl h0)
 have hzl := r.zlt h0
 have hmem : w.a.v.hand ∈ w.own := by rw [ho, if_pos hh0]; simp
 have hr := h.own_rng _ hmem
 have e1 : alStep (x.al slot gen w.n) m w.s w.a = (m.put (x.word + w.a.v.hand.toNat * x.wd + w.a.v.zat) 0, w.s, ⟨if w.a.v.zat + 1 < x.wd then 3 else 4, { w.a.v with cnt := w.a.v.cnt + 1, zat := w.a.v.zat + 1 }, w.a.t, gNone, false⟩) := by
  unfold alStep; rw [hd, h0]; rfl
 rw [e1]
 have hmul : w.a.v.hand.toNat * x.wd + x.wd ≤ x.c * x.wd := by
  have : (w.a.v.hand.toNat + 1) * x.wd ≤ x.c * x.wd := Nat.mul_le_mul_right _ (by omega)
  rw [Nat.succ_mul] at this; exact this
 obtain ⟨q, hq⟩ : ∃ q, x.word + w.a.v.hand.toNat * x.wd + w.a.v.zat = q := ⟨_, rfl⟩
 have hql : q < m.ws.length := by rw [h.len]; omega
 have hput : ∀ a, (m.put q 0).at_ a = if q = a then 0 else m.at_ a := fun a => Mm.at_put a hql
 rw [hq]
 have hhead : (m.put q 0).at_ x.pool.head = m.at_ x.pool.head := by rw [hput, if_neg (by omega)]
 refine ⟨P, R, h.upd (by rw [Mm.len_put]; exact h.len) (Mm.ok_put h.ok (by omega)) (fun s hs => by dsimp only; rw [hput, if_neg (by omega)]; exact h.root s hs) (h.pool.put_other hql (by omega) (fun y hy => ?_)) (.inl ⟨hhead, rfl⟩) (by dsimp only; rw [hhead]; omega) (fun y => ?_) (fun a _ _ _ h4 => ?_) ?_⟩
 ·have := h.pool.c.mem y hy
  have h2 : y < (x.c : Int) := this.2
  show q ≠ x.link + y.toNat
  omega
 ·rw [ho, own_n]
 ·dsimp only
  rw [hput, if_neg (by omega)]
 ·refine ⟨hw.n1, hw.n2, hw.lm, hw.m0, hw.m2, (by dsimp only; split <;> omega), fun hh => ?_, fun _ => rfl, (by show w.a.v.cnt + 1 ≤ T + 1; omega), fun _ => ?_⟩
  ·dsimp only at hh
   rcases hh with hh | hh
   ·cases hh
   ·split at hh <;> omega
  ·refine ⟨r.h0, r.wok, fun _ _ => r.need (by omega) h6, fun hh => ?_, fun _ => hh0, fun hh => ?_, fun _ hh => absurd hh0 (by have : w.a.v.hand < 0 := hh; omega), fun hh => ?_, fun hh => ?_, fun hh => ?_, fun _ => r.co h6⟩
   ·dsimp only at hh; split at hh <;> omega
   ·dsimp only at hh ⊢
    split at hh
    ·assumption
    ·omega
   ·dsimp only at hh; split at hh <;> omega
   ·dsimp only at hh; split at hh <;> omega
   ·dsimp only at hh; split at hh <;> omega
theorem ag_link (h : ApG x m (A ++ w :: B) P R T) (hx : x.ok) (hd : w.a.done = false) (h0 : w.a.at_ = 4) :
  AgS x A B w.n T (alStep (x.al slot gen w.n) m w.s w.a) := by
 have g1 : x.root + x.sl ≤ x.link := by unfold Cn.root Cn.link; omega
 have g2 : x.link + x.c = x.word := by unfold Cn.link Cn.word; omega
 have g3 : 3 ≤ x.root := by unfold Cn.root; omega
 have g5 : x.word + x.c * x.wd = x.len := by unfold Cn.word Cn.len; omega
 have g0 : x.pool.head = 0 := rfl
 have hw := h.mid
 have r := hw.run hd
 have h6 : w.a.at_ ≠ 6 := by omega
 have ho := Wk.own_g hw h6
 have hcnt := hw.cnt
 have hh0 := r.hand (.inr (.inl h0))
 have hmem : w.a.v.hand ∈ w.own := by rw [ho, if_pos hh0]; simp
 have hr := h.own_rng _ hmem
 obtain ⟨V, hV⟩ : ∃ V, ((rtOf w.a.v.was).chunk + 1).toNat = V := ⟨_, rfl⟩
 have hVl : V < 18446744073709551616 := by
  rw [← hV]; unfold Rt.chunk
  have := rtOf_mrk w.a.v.was
  split <;> omega
 have e1 : alStep (x.al slot gen w.n) m w.s w.a = (m.put (x.link + w.a.v.hand.toNat) V, w.s, ⟨5, { w.a.v with cnt := w.a.v.cnt + 1 }, w.a.t, gNone, false⟩) := by
  unfold alStep; rw [hd, h0, ← hV]; rfl
 rw [e1]
 obtain ⟨q, hq⟩ : ∃ q, x.link + w.a.v.hand.toNat = q := ⟨_, rfl⟩
 have hql : q < m.ws.length := by rw [h.len]; omega
 have hput : ∀ a, (m.put q V).at_ a = if q = a then V else m.at_ a := fun a => Mm.at_put a hql
 rw [hq]
 have hhead : (m.put q V).at_ x.pool.head = m.at_ x.pool.head := by rw [hput, if_neg (by omega)]
 refine ⟨P, R, h.upd (by rw [Mm.len_put]; exact h.len) (Mm.ok_put h.ok hVl) (fun s hs => by dsimp only; rw [hput, if_neg (by omega)]; exact h.root s hs) (h.pool.put_other hql (by omega) (fun y hy => ?_)) (.inl ⟨hhead, rfl⟩) (by dsimp only; rw [hhead]; omega) (fun y => by rw [ho, own_n]) (fun a _ _ h3 _ => ?_) ?_⟩
 ·have := h.pool.c.mem y hy
  have hyn : y ≠ w.a.v.hand := fun e => h.own_P hmem (by rw [← e]; exact hy)
  show q ≠ x.link + y.toNat
  omega
 ·dsimp only
  rw [hput, if_neg (fun e => h3 _ hmem (by rw [hq]; exact e.symm))]
 ·refine ⟨hw.n1, hw.n2, hw.lm, hw.m0, hw.m2, (by show 5 ≤ 6; omega), fun hh => (by rcases hh with hh | hh <;> cases hh), fun _ => rfl, (by show w.a.v.cnt + 1 ≤ T + 1; omega), fun _ => ?_⟩
  exact ⟨r.h0, r.wok, fun _ _ => r.need (by omega) h6, fun hh => (by cases hh), fun _ => hh0, fun hh => (by cases hh), fun _ => r.z0 h6, fun hh => (by cases hh), fun hh => (by cases hh), fun hh => (by cases hh), fun _ => r.co h6⟩
theorem ag_push (h : ApG x m (A ++ w :: B) P R T) (hx : x.ok) (hT : T ≤ 1000) (hd : w.a.done = false) (h0 : w.a.at_ = 6) :
  AgS x A B w.n T (alStep (x.al slot gen w.n) m w.s w.a) := by
 have hlen := hx.len_le
 have hpok := hx.pool (n := x.len) (Nat.le_refl _) hlen
 have g1 : x.root + x.sl ≤ x.link := by unfold Cn.root Cn.link; omega
 have g3 : 3 ≤ x.root := by unfold Cn.root; omega
 have g0 : x.pool.head = 0 := rfl
 have gl : x.pool.links = x.link := rfl
 have hw := h.mid
 have r := hw.run hd
 have hcnt := hw.cnt
 have hhand := hw.h6 (.inr h0)
 obtain ⟨t1, t2, t3⟩ := r.ps h0
 have hog : ownG w.a = w.a.g.l := by unfold ownG; rw [t2]; rfl
 have ho : w.own = w.s.xs ++ w.a.g.l := by unfold Wk.own ownH; rw [if_neg (by omega), hog, List.nil_append]
 have hsub : ∀ y ∈ w.a.g.l, y ∈ w.own := fun y hy => by rw [ho]; exact List.mem_append_right _ hy
 have htag : Tagged x.pool m := by unfold Tagged; have := h.tag; omega
 have hnd := h.own_nd
 rw [ho] at hnd
 obtain ⟨P', p1, p2, p3, p4, p5, p6, p7, p8⟩ := pushStep_inv hpok h.len h.pool t1 (List.nodup_append.1 hnd).2.1 (fun y hy => h.own_P (hsub y hy)) htag t3
 have hq := pushStep_ok (k := x.pool) (m := m) h.ok t1
 have hmm := pushStep_mem (m := m) hpok h.ok t1
 obtain ⟨Q, hQ⟩ : ∃ Q, pushStep x.pool m w.a.g = Q := ⟨_, rfl⟩
 rw [hQ] at p1 p2 p3 p4 p5 p6 p7 p8 hq hmm
 have e1 : alStep (x.al slot gen w.n) m w.s w.a = (Q.2, w.s, ⟨6, { w.a.v with cnt := w.a.v.cnt + 1 }, w.a.t, Q.1, Q.1.done⟩) := by
  unfold alStep; rw [hd, h0, ← hQ]; rfl
 rw [e1]
 refine ⟨P', R, h.upd (by dsimp only; rw [hmm.2]; exact h.len) hmm.1 (fun s hs => by dsimp only; rw [p4 _ (by omega) (fun y hy => by rw [gl]; omega)]; exact h.root s hs) p1 p3 p5 (fun y => ?_) (fun a k1 _ k3 _ => p4 a k1 (fun y hy => k3 y (hsub y hy))) ?_⟩
 ·rw [ho]
  cases hqd : Q.1.done with
  | false =>
    have e : Wk.own ⟨w.s, ⟨6, { w.a.v with cnt := w.a.v.cnt + 1 }, w.a.t, Q.1, Q.1.done⟩, w.n⟩ = w.s.xs ++ w.a.g.l := by
     show w.s.xs ++ ((if 0 ≤ w.a.v.hand then [w.a.v.hand] else []) ++ (if Q.1.done = true then [] else Q.1.l)) = _
     rw [hqd, if_neg (by omega), p6]; rfl
    rw [hqd] at e
    rw [p7 hqd]
    dsimp only
    rw [e]
  | true =>
    have e : Wk.own ⟨w.s, ⟨6, { w.a.v with cnt := w.a.v.cnt + 1 }, w.a.t, Q.1, Q.1.done⟩, w.n⟩ = w.s.xs := by
     show w.s.xs ++ ((if 0 ≤ w.a.v.hand then [w.a.v.hand] else []) ++ (if Q.1.done = true then [] else Q.1.l)) = _
     rw [hqd, if_neg (by omega)]; simp
    rw [hqd] at e
    rw [p8 t2 hqd]
    dsimp only
    rw [e]
    simp only [List.count_append]; omega
 ·refine ⟨hw.n1, hw.n2, hw.lm, hw.m0, hw.m2, Nat.le_refl _, fun _ => hhand, fun hh => hh.elim id (fun hh => absurd rfl hh), (by show w.a.v.cnt + 1 ≤ T + 1; omega), fun hh => ?_⟩
  exact ⟨r.h0, r.wok, fun _ hh => absurd rfl hh, fun hh => (by cases hh), fun hh => (by simp at hh), fun hh => (by cases hh), fun hh => absurd rfl hh, fun hh => (by cases hh), fun hh => (by cases hh), fun _ => ⟨hq, hh, p2⟩, fun hh => absurd rfl hh⟩
theorem ag_step (h : ApG x m (A ++ w :: B) P R T) (hx : x.ok) (hs : slot < x.sl) (hT : T ≤ 1000) (hw8 : x.wd % 8 = 0) (hd : w.a.done = false) : AgS x A B w.n T (alStep (x.al slot gen w.n) m w.s w.a) := by
 have ha := h.mid.a6
 rcases (show w.a.at_ = 0 ∨ w.a.at_ = 1 ∨ w.a.at_ = 2 ∨ w.a.at_ = 3 ∨ w.a.at_ = 4 ∨ w.a.at_ = 5 ∨ w.a.at_ = 6 by omega) with h0 | h0 | h0 | h0 | h0 | h0 | h0
 ·exact ag_look h hx hs hw8 hd h0
 ·exact ag_fit h hx hs hd h0
 ·exact ag_take h hx hT hd h0
 ·exact ag_zero h hx hd h0
 ·exact ag_link h hx hd h0
 ·exact ag_new h hx hs hd h0
 ·exact ag_push h hx hT hd h0
theorem ApG.alOk (h : ApG x m (A ++ w :: B) P R T) (hT : T ≤ 1000) (hd : w.a.done = false) : AlOk x w.a := by
 have hw := h.mid
 have r := hw.run hd
 refine ⟨hw.a6, by have := hw.cnt; omega, r.h0, ?_, r.wok, r.fit, fun h5 => r.need (by omega) (by omega), r.hand, r.zlt, fun h2 => ?_⟩
 ·by_cases hh : 0 ≤ w.a.v.hand
  ·exact (h.own_rng w.a.v.hand (by unfold Wk.own ownH; rw [if_pos hh]; simp)).2
  ·omega
 ·obtain ⟨t1, t2, t3, t4, _⟩ := r.tk h2
  exact ⟨by omega, fun _ => ⟨t3, t4⟩⟩
theorem ApG.refA (h : ApG x m (A ++ w :: B) P R T) (hx : x.ok) (hd : w.a.done = false) : RefA x w.s w.a := by
 obtain ⟨b1, b2, b3, b4, b5, b6, b7⟩ := show MayC (x.w : Int) x.c x.wd x.sl x.ca x.ba from hx
 have hw := h.mid
 have r := hw.run hd
 have hnd := h.own_nd
 have hor := h.own_rng
 refine ⟨fun h6 => (r.co h6).1, fun h6 => (r.co h6).2, r.z0, fun h2 => ?_, fun h6 => ?_, fun h6 => ?_, fun h6 => ?_⟩
 ·obtain ⟨t1, t2, t3, t4, t5, _⟩ := r.tk h2
  exact ⟨(r.noh h2).2, (r.noh h2).1, t5, t1, t2, t4⟩
 ·obtain ⟨t1, t2, _⟩ := r.ps h6
  refine ⟨t1, ?_⟩
  have hog : ownG w.a = w.a.g.l := by unfold ownG; rw [t2]; rfl
  have : w.a.g.l.length ≤ x.c := by
   refine length_nodup x.c _ ?_ t1.g
   unfold Wk.own at hnd; rw [hog] at hnd
   exact (List.nodup_append.1 (List.nodup_append.1 hnd).2.1).2.1
  omega
 ·rw [Wk.own_g hw h6] at hnd; exact hnd
 ·rw [Wk.own_g hw h6] at hor; exact hor
end
end Go.Proofs.YtflalhdofhobmaaGreat


namespace Go.Proofs.YtflalhdofhobmaaGreat
theorem ApG.other {x : Cn} {T : Nat} {m m' : Mm} {ws : List Wk} {P R : List Int} (h : ApG x m ws P R T) (hlen : m'.ws.length = x.len) (hok : m'.ok) (hroot : ∀ s, s < x.sl → (rtOf (m'.at_ (x.root + s))).ok) (hf : ∀ a, a < x.root ∨ x.root + x.sl ≤ a → m'.at_ a = m.at_ a) : ApG x m' ws P R (T + 1) := by
 have g1 : x.root + x.sl ≤ x.link := by unfold Cn.root Cn.link; omega
 have g3 : 3 ≤ x.root := by unfold Cn.root; omega
 have g0 : x.pool.head = 0 := rfl
 have hh : m'.at_ x.pool.head = m.at_ x.pool.head := hf _ (by omega)
 have hfr : FrG x [] m m' := fun a _ h2 _ _ => hf a h2
 refine ⟨hlen, hok, hroot, ⟨?_, h.pool.nd⟩, by rw [hh]; have := h.tag; omega, h.one, h.rng, fun w hw => ?_⟩
 ·rw [hh]
  refine h.pool.c.congr fun y hy => hf _ ?_
  have := h.pool.c.mem y hy
  show x.link + y.toNat < _ ∨ _ ≤ x.link + y.toNat
  omega
 ·refine (h.wk w hw).frame (.inl ⟨hh, rfl⟩) hfr (fun y hy => h.rng y ?_) (fun y hy => by cases hy) (fun y _ hy => by cases hy)
  have := List.count_pos_iff.2 (List.mem_flatMap.2 ⟨w, hw, hy⟩)
  omega
structure EndI (e : EndS) : Prop where
 a : e.at_ ≤ 1
 w : e.was < 18446744073709551616
 o : (rtOf e.was).ok
theorem EndI.init : EndI EndS.init := ⟨Nat.zero_le _, by show 0 < _; omega, rt_zero_ok⟩
theorem ApG.end_ {x : Cn} {T : Nat} {m : Mm} {ws : List Wk} {P R : List Int} {e : EndS} {slot : Nat} {gen : Int} (h : ApG x m ws P R T) (hx : x.ok) (hs : slot < x.sl) (he : EndI e) : ApG x (endStep (x.root + slot) gen m e).2 ws P R (T + 1) ∧ EndI (endStep (x.root + slot) gen m e).1 := by
 have g1 : x.root + x.sl ≤ x.link := by unfold Cn.root Cn.link; omega
 have g4 : x.link ≤ x.len := by unfold Cn.link Cn.len; omega
 have htick : ApG x m.tick ws P R (T + 1) := h.other h.len (Mm.ok_tick h.ok) h.root (fun _ _ => rfl)
 have hro := h.root slot hs
 have hwl := Mm.at_lt h.ok (x.root + slot)
 have hR : Rt.ok ⟨(rtOf e.was).gen, 0, 0, 0⟩ := ⟨he.o.g, by show 0 ≤ 4097; omega, by show 0 ≤ 3; omega, by show 0 ≤ 1024; omega⟩
 unfold endStep
 split
 ·exact ⟨h.other h.len h.ok h.root (fun _ _ => rfl), he⟩
 ·split
  ·refine ⟨htick, ?_⟩
   dsimp only
   split
   ·exact ⟨Nat.le_refl _, hwl, hro⟩
   ·exact ⟨he.a, hwl, hro⟩
  ·refine ⟨?_, ?_⟩
   ·unfold Mm.cas
    split
    ·have hl : x.root + slot < m.ws.length := by rw [h.len]; omega
     have hput : ∀ v a, (m.put (x.root + slot) v).at_ a = if x.root + slot = a then v else m.at_ a := fun v a => Mm.at_put a hl
     refine h.other (by rw [Mm.len_put]; exact h.len) (Mm.ok_put h.ok (Rt.w_lt hR)) (fun s hs2 => ?_) (fun a ha => by rw [hput, if_neg (by omega)])
     rw [hput]
     split
     ·rw [rtOf_w hR]; exact hR
     ·exact h.root s hs2
    ·exact htick
   ·dsimp only
    split
    ·exact ⟨he.a, he.w, he.o⟩
    ·exact ⟨Nat.zero_le _, he.w, he.o⟩
def Ag (x : Cn) (m : Mm) (W : Nat → Wk) (T : Nat) : Prop := ∃ P R, ApG x m (wl W) P R T
section
variable {x : Cn} {T i : Nat} {m : Mm} {W : Nat → Wk}
theorem Ag.fst0 {ca : Nat} (hx : x.ok) (hca : ca ≤ 64) (hl : m.ws.length = x.len) (hm : m.ok) (hp : Pool x.pool m (iotaI x.c)) (hrt : ∀ s, s < x.sl → (rtOf (m.at_ (x.root + s))).ok) (h0 : hdT (m.at_ 0) ≤ 10) : Ag x m (fun _ => ⟨SupS.nil ca, aIdle, 1⟩) 0 := by
 obtain ⟨b1, b2, b3, b4, b5, b6, b7⟩ := show MayC (x.w : Int) x.c x.wd x.sl x.ca x.ba from hx
 have hown : ∀ y : Int, ((wl fun _ => (⟨SupS.nil ca, aIdle, 1⟩ : Wk)).flatMap Wk.own).count y = 0 := fun y => rfl
 refine ⟨iotaI x.c, [], hl, hm, hrt, hp, by show hdT (m.at_ 0) ≤ _; omega, fun y => ?_, fun y hy => ?_, fun w hw => ?_⟩
 ·rw [hown, List.count_nil]
  have := List.nodup_iff_count.1 hp.nd y
  omega
 ·rw [hown, List.count_nil] at hy
  have := List.count_pos_iff.1 (show 0 < (iotaI x.c).count y by omega)
  exact hp.c.mem y this
 ·have hw : w = ⟨SupS.nil ca, aIdle, 1⟩ := by simpa [wl] using hw
  subst hw
  refine ⟨Nat.le_refl _, by show 1 ≤ x.wd; omega, rfl, ?_, ?_, Nat.zero_le _, fun _ => rfl, fun _ => rfl, Nat.zero_le _, fun h => (by cases h)⟩
  ·show 0 ≤ min (max (ca : Int) 0) 64; omega
  ·show min (max (ca : Int) 0) 64 ≤ 64; omega
theorem Ag.bgn (h : Ag x m W T) (hi : i < 3) (hd : (W i).a.done = true) {n : Nat} (h1 : 1 ≤ n) (h2 : n ≤ x.wd) : Ag x m (updW W i ⟨(W i).s, AlS.init, n⟩) (T + 1) := by
 obtain ⟨P, R, h⟩ := h
 obtain ⟨A, B, e, eu⟩ := wl_split W hi
 rw [e] at h
 have hw := h.mid
 have hh := hw.h6 (.inl hd)
 have hgd := hw.gd (.inl hd)
 have ho : (W i).own = (W i).s.xs := by unfold Wk.own ownH ownG; rw [if_neg (by omega), hgd]; simp
 refine ⟨P, R, ?_⟩
 rw [eu]
 refine h.upd h.len h.ok h.root h.pool (.inl ⟨rfl, rfl⟩) (by omega) (fun y => ?_) (fun _ _ _ _ _ => rfl) ⟨h1, h2, hw.lm, hw.m0, hw.m2, Nat.zero_le _, fun hh => (by rcases hh with hh | hh <;> cases hh), fun _ => rfl, Nat.zero_le _, fun _ => ?_⟩
 ·rw [ho]
  show P.count y + R.count y + ((W i).s.xs ++ ([] ++ [])).count y = _
  rw [List.append_nil, List.append_nil]
 ·exact ⟨Int.le_refl _, rt_zero_ok, fun hh => absurd rfl hh, fun hh => (by cases hh), fun hh => (by simp [AlS.init] at hh), fun hh => (by cases hh), fun _ _ => rfl, fun hh => (by cases hh), fun hh => (by cases hh), fun hh => (by cases hh), fun _ => ⟨rfl, rfl⟩⟩
theorem Ag.steps {slot : Nat} {gen : Int} (h : Ag x m W T) (hx : x.ok) (hs : slot < x.sl) (hT : T ≤ 1000) (hw8 : x.wd % 8 = 0) (hi : i < 3) (hd : (W i).a.done = false) :
  Ag x (alStep (x.al slot gen (W i).n) m (W i).s (W i).a).1 (updW W i ⟨(alStep (x.al slot gen (W i).n) m (W i).s (W i).a).2.1, (alStep (x.al slot gen (W i).n) m (W i).s (W i).a).2.2, (W i).n⟩) (T + 1) := by
 obtain ⟨P, R, h⟩ := h
 obtain ⟨A, B, e, eu⟩ := wl_split W hi
 rw [e] at h
 obtain ⟨P', R', h'⟩ := ag_step h hx hs hT hw8 hd
 exact ⟨P', R', by rw [eu]; exact h'⟩
theorem Ag.mays (h : Ag x m W T) (hx : x.ok) (hT : T ≤ 1000) (hi : i < 3) (hd : (W i).a.done = false) :
  1 ≤ (W i).n ∧ (W i).n ≤ x.wd ∧ m.ws.length = x.len ∧ m.ok ∧ (∀ s, s < x.sl → (rtOf (m.at_ (x.root + s))).ok) ∧ (W i).s.xs.length + (W i).s.lm.size ≤ 4096 ∧ 0 ≤ (W i).s.most ∧ (W i).s.most ≤ 64 ∧ AlOk x (W i).a ∧ RefA x (W i).s (W i).a := by
 obtain ⟨b1, b2, b3, b4, b5, b6, b7⟩ := show MayC (x.w : Int) x.c x.wd x.sl x.ca x.ba from hx
 obtain ⟨P, R, h⟩ := h
 obtain ⟨A, B, e, eu⟩ := wl_split W hi
 rw [e] at h
 have hw := h.mid
 have := h.xs_le
 have := hw.lm
 exact ⟨hw.n1, hw.n2, h.len, h.ok, h.root, by omega, hw.m0, hw.m2, h.alOk hT hd, h.refA hx hd⟩
theorem Ag.mlen (h : Ag x m W T) : m.ws.length = x.len := by obtain ⟨P, R, h⟩ := h; exact h.len
theorem Ag.mok (h : Ag x m W T) : m.ok := by obtain ⟨P, R, h⟩ := h; exact h.ok
theorem Ag.at6 (h : Ag x m W T) (hi : i < 3) : (W i).a.at_ ≤ 6 := by
 obtain ⟨P, R, h⟩ := h
 obtain ⟨A, B, e, eu⟩ := wl_split W hi
 rw [e] at h
 exact h.mid.a6
theorem Ag.xsle (h : Ag x m W T) (hx : x.ok) (hi : i < 3) : (W i).s.xs.length ≤ 4096 := by
 obtain ⟨b1, b2, b3, b4, b5, b6, b7⟩ := show MayC (x.w : Int) x.c x.wd x.sl x.ca x.ba from hx
 obtain ⟨P, R, h⟩ := h
 obtain ⟨A, B, e, eu⟩ := wl_split W hi
 rw [e] at h
 have := h.xs_le
 omega
theorem Ag.end_ {e : EndS} {slot : Nat} {gen : Int} (h : Ag x m W T) (hx : x.ok) (hs : slot < x.sl) (he : EndI e) : Ag x (endStep (x.root + slot) gen m e).2 W (T + 1) ∧ EndI (endStep (x.root + slot) gen m e).1 := by
 obtain ⟨P, R, h⟩ := h
 have := h.end_ (gen := gen) hx hs he
 exact ⟨⟨P, R, this.1⟩, this.2⟩
end
end Go.Proofs.YtflalhdofhobmaaGreat


namespace Go.Proofs.YtflalhdofhobmaaGreat
open Go
attribute [local irreducible] Sx Cx Rx Fx Krg Ksq Kbl Klp Kr
def handG (p : PushS) : List Int := if p.done then [] else p.l
def handS (s : AlS) : List Int := if s.v.ends then handG s.g else if 0 ≤ s.v.hand then [s.v.hand] else []
def EnA (s : AlS) : Prop := s.v.ends = Nat.beq s.at_ 6
theorem alStep_en {p : AlP} {m : Mm} {s : SupS} {a : AlS} (ha : a.at_ ≤ 6) (hd : a.done = false) (he : EnA a) : EnA (alStep p m s a).2.2 := by
 have hcl : ∀ (k : Sk) (s : SupS) (v : AlV) (t : TakeS) (c : Nat) (o : Hd), EnA (alClose k s v t c o).2 := fun _ _ _ _ _ _ => rfl
 have htk : ∀ (v : AlV) (t : TakeS), v.ends = false → EnA (alTaken v t) := fun v t h => by unfold alTaken; split <;> exact h
 have hse : ∀ (v : AlV) (t : TakeS), v.ends = false → EnA (alSeen p s v t).2 := fun v t h => by
  unfold alSeen
  split
  ·dsimp only
   split
   ·exact h
   ·split
    ·exact h
    ·split
     ·exact hcl _ _ _ _ _ _
     ·split
      ·exact htk _ _ h
      ·exact h
  ·exact hcl _ _ _ _ _ _
 unfold EnA at he
 rcases (show a.at_ = 0 ∨ a.at_ = 1 ∨ a.at_ = 2 ∨ a.at_ = 3 ∨ a.at_ = 4 ∨ a.at_ = 5 ∨ a.at_ = 6 by omega) with h0 | h0 | h0 | h0 | h0 | h0 | h0 <;> (rw [h0] at he; unfold alStep; rw [hd, h0]; simp only [Bool.false_eq_true, if_false])
 ·exact hse _ _ he
 ·split
  ·exact hcl _ _ _ _ _ _
  ·exact he
 ·split
  ·exact htk _ _ he
  ·exact he
 ·show a.v.ends = Nat.beq (if _ then 3 else 4) 6
  split <;> exact he
 ·exact he
 ·split
  ·exact hcl _ _ _ _ _ _
  ·exact he
 ·exact he
section
variable {L F G : St}
theorem alPointQ {b g u pb : Nat} {x : Cn} {slot : Nat} {gen : Int} {n : Nat} {s : AlS} {F1 : St} (h6 : s.done = false → s.at_ ≤ 6) [t1 : Take L (some ⟨b, 0, none⟩) (AlO g u pb x slot gen n s) F1] : Fx Tryz.prog 22 [.pointer (some ⟨b, 0, none⟩)] L (fun v L' => v = .int .i64 (s.v.point : Nat) ∧ L = L') := by
 cases hd : s.done with
 | true => exact alPoint (b := b) (g := g) (u := u) (pb := pb) (x := x) (slot := slot) (gen := gen) (n := n) (s := s) hd
 | false =>
   have h7 := h6 hd
   refine Fx.kept (t := t1) ?_
   refine Fx.mk Tryz.func22 k22 nb_ ?_
   dsimp only [c22, envOf, Nat.reduceAdd]
   refine Cx.ent (Ent.of t1.out) ?_
   by_cases h2 : s.at_ = 2
   ·refine Cx.openp (a := some ⟨b, 0, none⟩) (AlO.tt_ hd h2) ?_
    intro q
    simp only [alTL, List.cons_append, List.nil_append]
    refine go ?_
    exact Kr.one (.inr rfl) rfl (AlO.closeT (v := s.v) (rt := rtOf s.v.was) s hd h2 rfl rfl rfl rfl) ⟨rfl, rfl⟩
   ·by_cases h6 : s.at_ = 6
    ·refine Cx.openp (a := some ⟨b, 0, none⟩) (AlO.gg_ hd h6) ?_
     rintro ⟨q, tp⟩
     simp only [alGL, List.cons_append, List.nil_append]
     refine go ?_
     exact Kr.one (.inr rfl) rfl (AlO.closeG (v := s.v) (rt := rtOf s.v.was) s hd h6 rfl rfl rfl rfl) ⟨rfl, rfl⟩
    ·refine Cx.openp (a := some ⟨b, 0, none⟩) (AlO.ss_ hd h2 h6) ?_
     rintro ⟨n1, n2, n3, tp⟩
     simp only [alSL, List.cons_append, List.nil_append]
     refine go ?_
     exact Kr.one (.inr rfl) rfl (AlO.closeS (v := s.v) (rt := rtOf s.v.was) s hd (by rw [← Bool.not_eq_true, Nat.beq_eq]; exact h2) (by rw [← Bool.not_eq_true, Nat.beq_eq]; exact h6) rfl rfl rfl rfl) ⟨rfl, rfl⟩
theorem alCodeNo {b g u pb : Nat} {x : Cn} {slot : Nat} {gen : Int} {n : Nat} {s : AlS} {F1 : St} (h6 : s.done = false → s.at_ ≤ 6) (hd : s.done = false) [t1 : Take L (some ⟨b, 0, none⟩) (AlO g u pb x slot gen n s) F1] : Fx Tryz.prog 21 [.pointer (some ⟨b, 0, none⟩)] L (fun v L' => v = .int .i64 0 ∧ L = L') := by
 refine Fx.mk Tryz.func21 k21 nb_ ?_
 dsimp only [c21, envOf, Nat.reduceAdd]
 refine go ?_
 refine Sx.ca rfl (alDoneQ (b := b) (g := g) (u := u) (pb := pb) (x := x) (slot := slot) (gen := gen) (n := n) (s := s) h6) ?_
 rw [hd]
 rintro v L' ⟨rfl, rfl⟩
 refine go ?_
 exact Kr.one (.inr rfl) rfl (Ent.refl _) ⟨rfl, rfl⟩
theorem alObjectNo {b g u pb : Nat} {x : Cn} {slot : Nat} {gen : Int} {n : Nat} {s : AlS} {F1 : St} (h6 : s.done = false → s.at_ ≤ 6) (hd : s.done = false) [t1 : Take L (some ⟨b, 0, none⟩) (AlO g u pb x slot gen n s) F1] : Fx Tryz.prog 28 [.pointer (some ⟨b, 0, none⟩)] L (fun v L' => v = hdA Hd.zero ∧ L = L') := by
 refine Fx.mk Tryz.func28 k28 nb_ ?_
 dsimp only [c28, envOf, Nat.reduceAdd]
 refine Cx.sq ?_
 refine Cx.rg ?_
 refine Sx.al fun o => ?_
 refine go ?_
 refine Sx.ca rfl (alDoneQ (b := b) (g := g) (u := u) (pb := pb) (x := x) (slot := slot) (gen := gen) (n := n) (s := s) h6) ?_
 rw [hd]
 rintro v L' ⟨rfl, rfl⟩
 refine go ?_
 refine Sx.st (b := o) rfl rfl rfl rfl rfl rfl ?_
 refine Sx.re (hdL Hd.zero) rfl ?_
 refine go ?_
 refine Kr_cell (b := o) (.inr rfl) rfl rfl ?_ ⟨rfl, rfl⟩
 exact Ent.drop
end
end Go.Proofs.YtflalhdofhobmaaGreat


namespace Go.Proofs.YtflalhdofhobmaaGreat
open Go
attribute [local irreducible] Sx Cx Rx Fx Krg Ksq Kbl Klp Kr
section
variable {L F G : St}
theorem handG_done {p : PushS} (h : p.done = true) : handG p = [] := by unfold handG; rw [h]; rfl
theorem handG_on {p : PushS} (h : p.done = false) : handG p = p.l := by unfold handG; rw [h]; rfl
theorem giveHandQ {b pb : Nat} {k : Sk} {p : PushS} {F1 : St} (hb : p.done = false → p.l.length ≤ 1000000) [t1 : Take L (some ⟨b, 0, none⟩) (GiveO pb k p) F1] : Fx Tryz.prog 117 [.pointer (some ⟨b, 0, none⟩)] L
  (fun v L' => ∃ a c, v = .slice a (handG p).length c ∧ L' = pt a (Row 3 1 (handG p).length c (ints (handG p))) :: pt (some ⟨b, 0, none⟩) (GiveO pb k p) :: F1) := by
 refine Fx.mk Tryz.func117 k117 nb_ ?_
 dsimp only [c117, envOf, Nat.reduceAdd]
 refine Cx.ent (Ent.of t1.out) ?_
 refine go ?_
 refine Sx.ca rfl (giveDone (b := b) (pb := pb) (k := k) (p := p)) ?_
 rintro v L' ⟨rfl, rfl⟩
 cases hd : p.done with
 | true =>
   rw [handG_done hd]
   refine go ?_
   exact Kr.one (.inr rfl) rfl (Ent.rownil _ _) ⟨none, 0, rfl, rfl⟩
 | false =>
   rw [handG_on hd]
   have hb := hb hd
   refine Sx.ent (Ent.take (a := some ⟨b, 0, none⟩)) ?_
   refine Sx.openp (a := some ⟨b, 0, none⟩) (GiveO.p hd) ?_
   rintro ⟨g, cnt, r, c⟩
   simp only [givePL, List.cons_append, List.nil_append]
   refine go ?_
   refine Sx.rowkey (a := r) fun hxl hc1 _ hkr => ?_
   have hk2 : p.l.length = 0 ∨ ∃ g, r = some ⟨g, 0, none⟩ := hkr.imp (fun h => h.2.1) id
   refine go ?_
   refine Sx.ca rfl (clone (Rd.any (a := r) hxl hk2) (ones_ints _) (by omega)) ?_
   rintro v L' ⟨a', c', rfl, rfl⟩
   refine go ?_
   refine Kr.one (.inr rfl) rfl (Ent.cons ?_) ⟨a', c', rfl, rfl⟩
   exact GiveO.closeP p hd rfl rfl rfl
theorem refGiveHand {b rp : Nat} {p : PushS} {F1 : St} (hb : p.done = false → p.l.length ≤ 1000000) [t1 : Take L (some ⟨b, 0, none⟩) (RGiveO rp p) F1] : Fx Tryz.prog 131 [.pointer (some ⟨b, 0, none⟩)] L
  (fun v L' => ∃ a c, v = .slice a (handG p).length c ∧ L' = pt a (Row 3 1 (handG p).length c (ints (handG p))) :: pt (some ⟨b, 0, none⟩) (RGiveO rp p) :: F1) := by
 refine Fx.mk Tryz.func131 k131 nb_ ?_
 dsimp only [c131, envOf, Nat.reduceAdd]
 refine Cx.ent (Ent.of t1.out) ?_
 refine Cx.openp (a := some ⟨b, 0, none⟩) rfl ?_
 rintro ⟨q, r, c⟩
 simp only [rgiveL, List.cons_append, List.nil_append]
 refine Cx.ent (Ent.trans (Ent.cons (Ent.cons (Ent.take (a := r)))) (Ent.refl _)) ?_
 refine Cx.rowkey (a := r) fun hxl hc1 _ hkr => ?_
 have hk2 : p.l.length = 0 ∨ ∃ g, r = some ⟨g, 0, none⟩ := hkr.imp (fun h => h.2.1) id
 cases hd : p.done with
 | true =>
   rw [handG_done hd]
   refine go ?_
   exact Kr.one (.inr rfl) rfl (Ent.trans (RGiveO.close p rfl rfl hd.symm rfl) (Ent.rownil _ _)) ⟨none, 0, rfl, rfl⟩
 | false =>
   rw [handG_on hd]
   have hb := hb hd
   refine go ?_
   refine Sx.apn rfl rfl (Rd.any (a := r) hxl hk2) (ones_ints _) (by simp [maxLen]; omega) (by omega) fun r2 c2 h4 => ?_
   refine go ?_
   refine Kr.one (.inr rfl) rfl (Ent.cons ?_) ⟨r2, c2, rfl, rfl⟩
   exact RGiveO.close p rfl rfl hd.symm rfl
theorem handS_6 {s : AlS} (he : EnA s) (h6 : s.at_ = 6) : s.v.ends = true ∧ handS s = handG s.g := by
 have e : s.v.ends = true := by unfold EnA at he; rw [he, h6]; rfl
 exact ⟨e, by unfold handS; rw [e]; rfl⟩
theorem handS_no {s : AlS} (he : EnA s) (h6 : s.at_ ≠ 6) : s.v.ends = false ∧ handS s = if 0 ≤ s.v.hand then [s.v.hand] else [] := by
 have e : s.v.ends = false := by
  unfold EnA at he; rw [he]
  cases hb : Nat.beq s.at_ 6 with
  | true => exact absurd (Nat.eq_of_beq_eq_true hb) h6
  | false => rfl
 exact ⟨e, by unfold handS; rw [e]; rfl⟩
set_option maxHeartbeats 1000000 in
theorem alHandQ {b g u pb : Nat} {x : Cn} {slot : Nat} {gen : Int} {n : Nat} {s : AlS} {F1 : St} (he : EnA s) (hd6 : s.done = true → s.at_ = 6) (hl : s.g.done = false → s.g.l.length ≤ 1000000) [t1 : Take L (some ⟨b, 0, none⟩) (AlO g u pb x slot gen n s) F1] : Fx Tryz.prog 42 [.pointer (some ⟨b, 0, none⟩)] L
  (fun v L' => ∃ a c, v = .slice a (handS s).length c ∧ L' = pt a (Row 3 1 (handS s).length c (ints (handS s))) :: pt (some ⟨b, 0, none⟩) (AlO g u pb x slot gen n s) :: F1) := by
 refine Fx.mk Tryz.func42 k42 nb_ ?_
 dsimp only [c42, envOf, Nat.reduceAdd]
 refine Cx.ent (Ent.of t1.out) ?_
 by_cases h6 : s.at_ = 6
 ·obtain ⟨e, eh⟩ := handS_6 he h6
  rw [eh]
  cases hd : s.done with
  | true =>
    refine Cx.openp (a := some ⟨b, 0, none⟩) (AlO.dd_ hd) ?_
    rintro ⟨q, n1, n2, n3, tp⟩
    simp only [alDL, List.cons_append, List.nil_append]
    refine go ?_
    rw [e]
    refine go ?_
    refine Sx.ca rfl (giveHandQ (b := q) (pb := pb) (k := x.pool) (p := s.g) hl) ?_
    rintro v L' ⟨a, c, rfl, rfl⟩
    refine go ?_
    refine Kr.one (.inr rfl) rfl (Ent.cons ?_) ⟨a, c, rfl, rfl⟩
    refine Ent.trans (Ent.take (a := some ⟨b, 0, none⟩)) ?_
    exact AlO.closeD (v := s.v) (rt := rtOf s.v.was) s hd rfl rfl rfl rfl
  | false =>
    refine Cx.openp (a := some ⟨b, 0, none⟩) (AlO.gg_ hd h6) ?_
    rintro ⟨q, tp⟩
    simp only [alGL, List.cons_append, List.nil_append]
    refine go ?_
    rw [e]
    refine go ?_
    refine Sx.ca rfl (giveHandQ (b := q) (pb := pb) (k := x.pool) (p := s.g) hl) ?_
    rintro v L' ⟨a, c, rfl, rfl⟩
    refine go ?_
    refine Kr.one (.inr rfl) rfl (Ent.cons ?_) ⟨a, c, rfl, rfl⟩
    refine Ent.trans (Ent.take (a := some ⟨b, 0, none⟩)) ?_
    exact AlO.closeG (v := s.v) (rt := rtOf s.v.was) s hd h6 rfl rfl rfl rfl
 ·obtain ⟨e, eh⟩ := handS_no he h6
  rw [eh]
  have hd : s.done = false := by
   cases hq : s.done with
   | true => exact absurd (hd6 hq) h6
   | false => rfl
  by_cases h2 : s.at_ = 2
  ·refine Cx.openp (a := some ⟨b, 0, none⟩) (AlO.tt_ hd h2) ?_
   intro q
   simp only [alTL, List.cons_append, List.nil_append]
   refine go ?_
   rw [e]
   refine go ?_
   by_cases h0 : 0 ≤ s.v.hand
   ·rw [if_pos h0]
    refine Cx.cyes rfl (decide_eq_true h0) ?_
    refine go ?_
    refine Sx.bs (sz := 1) (cs := [.int .i64 s.v.hand]) rfl rfl fun a => ?_
    refine go ?_
    refine Kr.one (.inr rfl) rfl (Ent.cons ?_) ⟨_, 1, rfl, rfl⟩
    exact AlO.closeT (v := s.v) (rt := rtOf s.v.was) s hd h2 rfl rfl rfl rfl
   ·rw [if_neg h0]
    refine Cx.cno rfl (decide_eq_false h0) ?_
    refine go ?_
    refine Kr.one (.inr rfl) rfl ?_ ⟨none, 0, rfl, rfl⟩
    refine Ent.trans ?_ (Ent.rownil _ _)
    exact AlO.closeT (v := s.v) (rt := rtOf s.v.was) s hd h2 rfl rfl rfl rfl
  ·refine Cx.openp (a := some ⟨b, 0, none⟩) (AlO.ss_ hd h2 h6) ?_
   rintro ⟨n1, n2, n3, tp⟩
   simp only [alSL, List.cons_append, List.nil_append]
   refine go ?_
   rw [e]
   refine go ?_
   by_cases h0 : 0 ≤ s.v.hand
   ·rw [if_pos h0]
    refine Cx.cyes rfl (decide_eq_true h0) ?_
    refine go ?_
    refine Sx.bs (sz := 1) (cs := [.int .i64 s.v.hand]) rfl rfl fun a => ?_
    refine go ?_
    refine Kr.one (.inr rfl) rfl (Ent.cons ?_) ⟨_, 1, rfl, rfl⟩
    exact AlO.closeS (v := s.v) (rt := rtOf s.v.was) s hd (by rw [← Bool.not_eq_true, Nat.beq_eq]; exact h2) (by rw [← Bool.not_eq_true, Nat.beq_eq]; exact h6) rfl rfl rfl rfl
   ·rw [if_neg h0]
    refine Cx.cno rfl (decide_eq_false h0) ?_
    refine go ?_
    refine Kr.one (.inr rfl) rfl ?_ ⟨none, 0, rfl, rfl⟩
    refine Ent.trans ?_ (Ent.rownil _ _)
    exact AlO.closeS (v := s.v) (rt := rtOf s.v.was) s hd (by rw [← Bool.not_eq_true, Nat.beq_eq]; exact h2) (by rw [← Bool.not_eq_true, Nat.beq_eq]; exact h6) rfl rfl rfl rfl
set_option maxHeartbeats 1000000 in
theorem refAlHand {b sa rp slot : Nat} {gen : Int} {n : Nat} {s : AlS} {F1 : St} (he : EnA s) (hd6 : s.done = true → s.at_ = 6) (hl : s.g.done = false → s.g.l.length ≤ 1000000) [t1 : Take L (some ⟨b, 0, none⟩) (RAgO sa rp slot gen n s) F1] : Fx Tryz.prog 115 [.pointer (some ⟨b, 0, none⟩)] L
  (fun v L' => ∃ a c, v = .slice a (handS s).length c ∧ L' = pt a (Row 3 1 (handS s).length c (ints (handS s))) :: pt (some ⟨b, 0, none⟩) (RAgO sa rp slot gen n s) :: F1) := by
 refine Fx.mk Tryz.func115 k115 nb_ ?_
 dsimp only [c115, envOf, Nat.reduceAdd]
 refine Cx.ent (Ent.of t1.out) ?_
 by_cases h6 : s.at_ = 6
 ·obtain ⟨e, eh⟩ := handS_6 he h6
  rw [eh]
  refine Cx.openp (a := some ⟨b, 0, none⟩) (RAgO.g_ h6) ?_
  rintro ⟨tp, q, dry⟩
  simp only [ralGL, List.cons_append, List.nil_append]
  refine go ?_
  refine Sx.ca rfl (refGiveHand (b := q) (rp := rp) (p := s.g) hl) ?_
  rintro v L' ⟨a, c, rfl, rfl⟩
  refine go ?_
  refine Kr.one (.inr rfl) rfl (Ent.cons ?_) ⟨a, c, rfl, rfl⟩
  refine Ent.trans (Ent.take (a := some ⟨b, 0, none⟩)) ?_
  exact RAgO.closeG (v := s.v) s h6 rfl rfl rfl rfl rfl
 ·obtain ⟨e, eh⟩ := handS_no he h6
  rw [eh]
  have hd : s.done = false := by
   cases hq : s.done with
   | true => exact absurd (hd6 hq) h6
   | false => rfl
  have e6 : RAgO sa rp slot gen n s = RAlO sa rp slot gen n s := RAgO.fun_ h6
  rw [e6]
  by_cases h2 : s.at_ = 2
  ·refine Cx.openp (a := some ⟨b, 0, none⟩) (RAlO.t_ hd h2) ?_
   rintro ⟨q, gp⟩
   simp only [ralTL, List.cons_append, List.nil_append]
   refine go ?_
   by_cases h0 : 0 ≤ s.v.hand
   ·rw [if_pos h0]
    refine Cx.cno rfl (decide_eq_false (by omega)) ?_
    refine go ?_
    refine Sx.bs (sz := 1) (cs := [.int .i64 s.v.hand]) rfl rfl fun a => ?_
    refine go ?_
    refine Kr.one (.inr rfl) rfl (Ent.cons ?_) ⟨_, 1, rfl, rfl⟩
    exact RAlO.closeT (v := s.v) s hd h2 rfl rfl rfl
   ·rw [if_neg h0]
    refine Cx.cyes rfl (decide_eq_true (by omega)) ?_
    refine go ?_
    refine Kr.one (.inr rfl) rfl ?_ ⟨none, 0, rfl, rfl⟩
    refine Ent.trans ?_ (Ent.rownil _ _)
    exact RAlO.closeT (v := s.v) s hd h2 rfl rfl rfl
  ·refine Cx.openp (a := some ⟨b, 0, none⟩) (RAlO.s_ (.inr h2)) ?_
   rintro ⟨tp, gp, dry⟩
   simp only [ralSL, List.cons_append, List.nil_append]
   refine Cx.liftp fun hdr => ?_
   refine go ?_
   rw [decide_eq_false (show ¬ (s.at_ : Int) = 6 by omega)]
   refine go ?_
   by_cases h0 : 0 ≤ s.v.hand
   ·rw [if_pos h0]
    refine Cx.cno rfl (decide_eq_false (by omega)) ?_
    refine go ?_
    refine Sx.bs (sz := 1) (cs := [.int .i64 s.v.hand]) rfl rfl fun a => ?_
    refine go ?_
    refine Kr.one (.inr rfl) rfl (Ent.cons ?_) ⟨_, 1, rfl, rfl⟩
    exact RAlO.closeS (v := s.v) s (.inr h2) rfl rfl rfl rfl hdr
   ·rw [if_neg h0]
    refine Cx.cyes rfl (decide_eq_true (by omega)) ?_
    refine go ?_
    refine Kr.one (.inr rfl) rfl ?_ ⟨none, 0, rfl, rfl⟩
    refine Ent.trans ?_ (Ent.rownil _ _)
    exact RAlO.closeS (v := s.v) s (.inr h2) rfl rfl rfl rfl hdr
end
end Go.Proofs.YtflalhdofhobmaaGreat


namespace Go.Proofs.YtflalhdofhobmaaGreat
open Go
attribute [local irreducible] Sx Cx Rx Fx Krg Ksq Kbl Klp Kr
def clQ (q : Int) : Nat := (min (max q 0) 3).toNat
theorem clQ_le (q : Int) : clQ q ≤ 3 := by unfold clQ; omega
section
variable {L F G : St}
theorem rootsCreateQ {g mp sb : Nat} {x : Cn} (q : Int) (hx : x.ok) [c : Take L (some ⟨g, 0, none⟩) (RoO mp sb x) F] {F2 : St} [s : Take F (some ⟨sb, 0, none⟩) (SkO mp x.spare) F2] :
  Fx Tryz.prog 84 [.pointer (some ⟨g, 0, none⟩), .int .i64 q] L (fun v L' => ∃ b, v = .pointer (some ⟨b, 0, none⟩) ∧ L' = pt (some ⟨b, 0, none⟩) (CreO g sb x.spare (clQ q) CreS.init) :: L) := by
 obtain ⟨b1, b2, b3, b4, b5, b6, b7⟩ := show MayC (x.w : Int) x.c x.wd x.sl x.ca x.ba from hx
 refine Fx.mk Tryz.func84 k84 nb_ ?_
 dsimp only [c84, envOf, Nat.reduceAdd]
 refine Cx.ent (Ent.trans (Ent.of c.out) (Ent.cons (Ent.of s.out))) ?_
 refine go ?_
 have e1 : (bif true then (if q < 0 then (0 : Int) else q) else (if (0 : Int) < q then (0 : Int) else q)) = max q 0 := by
  rw [cond_true]; split <;> omega
 have e2 : (bif false then (if max q 0 < 3 then (3 : Int) else max q 0) else (if (3 : Int) < max q 0 then (3 : Int) else max q 0)) = (clQ q : Nat) := by
  rw [cond_false]; unfold clQ; split <;> omega
 rw [e1, e2]
 refine Sx.ca rfl (stackPop (sb := sb) (k := x.spare) 1 (by show 1 ≤ x.sl; omega)) ?_
 rintro v L' ⟨p, rfl, rfl⟩
 refine go ?_
 refine Sx.bx rfl rfl fun b => ?_
 refine Sx.re [.nilFunc, .nilFunc, .nilFunc, .nilFunc, .int .i64 0, .pointer (some ⟨g, 0, none⟩), .int .i64 (clQ q : Nat), .pointer (some ⟨p, 0, none⟩), .int .i64 (-1), .int .i64 0, .int .i64 0, .int .i64 0, .int .i64 0, .int .i64 0, .int .i64 0] rfl ?_
 refine go ?_
 refine Cx.ordc rfl kr_ ?_
 refine ge ?_
 refine Ev.caH kr_ rfl rfl (machThrough (b := b) (machOnNo (b := b) kr_ (popDoneC (b := p) (sb := sb) (k := x.spare) (q := PopS.init 1)))) (Pres.deps kr_) ?_
 rintro v L' ⟨rfl, w, rfl, rfl⟩
 refine ge ?_
 refine go ?_
 refine Kr.one (.inr rfl) rfl ?_ ⟨b, rfl, rfl⟩
 refine Ent.trans (CreO.closeP (b := b) (r := g) (sp := sb) (p := p) (k := x.spare) (cl := clQ q) (rt := ⟨0, 0, 0, 0⟩) CreS.init rfl rfl rfl rfl rfl rfl rfl rfl) (Ent.cons ?_)
 exact Ent.trans (Ent.cons (Ent.of s.back)) (Ent.of c.back)
theorem refCreateQ {w rm rp rs re : Nat} {x : Cn} (q : Int) [c : Take L (some ⟨w, 0, none⟩) (RWO x rm rp rs re) F] {F2 : St} [s : Take F (some ⟨rs, 0, none⟩) (RSkO rm x.spare) F2] :
  Fx Tryz.prog 85 [.pointer (some ⟨w, 0, none⟩), .int .i64 q] L (fun v L' => ∃ b, v = .pointer (some ⟨b, 0, none⟩) ∧ L' = pt (some ⟨b, 0, none⟩) (RCreO w rs (clQ q) CreS.init) :: L) := by
 refine Fx.mk Tryz.func85 k85 nb_ ?_
 dsimp only [c85, envOf, Nat.reduceAdd]
 refine Cx.ent (Ent.trans (Ent.of c.out) (Ent.cons (Ent.of s.out))) ?_
 refine go ?_
 have e1 : (bif true then (if q < 0 then (0 : Int) else q) else (if (0 : Int) < q then (0 : Int) else q)) = max q 0 := by
  rw [cond_true]; split <;> omega
 have e2 : (bif false then (if max q 0 < 3 then (3 : Int) else max q 0) else (if (3 : Int) < max q 0 then (3 : Int) else max q 0)) = (clQ q : Nat) := by
  rw [cond_false]; unfold clQ; split <;> omega
 rw [e1, e2]
 refine Sx.ca rfl (refPopNew (sb := rs) (rm := rm) (k := x.spare) 1) ?_
 rintro v L' ⟨p, rfl, rfl⟩
 refine go ?_
 refine Sx.bx rfl rfl fun b => ?_
 refine Sx.re (rcrV w (clQ q) 0 0 0 0 0 p ⟨0, 0, 0, 0⟩ 0 false) rfl ?_
 refine go ?_
 refine Kr.one (.inr rfl) rfl ?_ ⟨b, rfl, rfl⟩
 refine Ent.trans (RCreO.close (b := b) (w := w) (rs := rs) (cl := clQ q) (p := p) CreS.init rfl rfl rfl rfl rfl rfl rfl rfl rfl) (Ent.cons ?_)
 exact Ent.trans (Ent.cons (Ent.of s.back)) (Ent.of c.back)
set_option maxHeartbeats 4000000 in
theorem grRegionQ {x : Cn} {n : Hn} {r r2 : Option Addr} {k c c2 : Nat} {m : Mm} (q : Int) {cl : Nat} (hq : clQ q = cl) (hx : x.ok) (hl : m.ws.length = x.len) (hm : m.ok) {s : Nat} {l : List Int} (hp : Pool x.spare m ((s : Int) :: l)) :
  Fx Tryz.prog 25 [.pointer (some ⟨n.a, 0, none⟩), .int .i64 q] (rgF x n r r2 k c c2 m G)
   (fun v L' => v = .tuple #[.int .i64 s, .int .i64 (laterT (rtOf (m.at_ (x.root + s))).gen : Nat), .bool true] ∧ L' = rgF x n r r2 k c c2 (crIt x.spare x.root cl 10 (CreS.init, m)).2 G) := by
 have hcl : cl ≤ 3 := by rw [← hq]; exact clQ_le q
 have hlen := hx.len_le
 have hk := hx.spare (n := m.ws.length) (by omega) (by omega)
 have hroot : x.root + x.sl = x.slot := by unfold Cn.root Cn.slot; omega
 obtain ⟨C, M, e10, hd, hcode, hslot, hat, hwas, _⟩ := cr_alone (k := x.spare) (ro := x.root) (cl := cl) (m := m) hk rfl hm hp (by show x.root + x.sl ≤ x.slot; omega) (by show 1 < x.root; unfold Cn.root; omega) hcl
 rw [Int.toNat_natCast] at hwas
 refine Fx.mk Tryz.func25 k25 nb_ ?_
 dsimp only [c25, envOf, Nat.reduceAdd]
 refine go ?_
 refine Cx.ordc rfl kr_ ?_
 refine ge ?_
 iterate 5 (refine Ev.bring 1 rfl ?_; refine ge ?_)
 refine Ev.caH kr_ rfl rfl (rootsCreateQ (g := n.ro) (mp := n.mp) (sb := n.sp) (x := x) q hx) (.keep (fun v L' ⟨_, _, e⟩ => by subst e; exact Has.cell rfl) (.dep rfl .nil)) ?_
 rw [hq]
 rintro v L' ⟨b, rfl, rfl⟩
 refine ge ?_
 refine Ev.caH kr_ rfl rfl (refCreateQ (w := n.w) (rm := n.rm) (rp := n.rp) (rs := n.rs) (re := n.re) (x := x) q) (Pres.deps kr_) ?_
 rw [hq]
 rintro v L' ⟨bb, rfl, rfl⟩
 refine ge ?_
 refine go ?_
 refine Cx.lp (α := {j : Nat // j ≤ 10}) (fun j => [(7, .pointer (some ⟨b, 0, none⟩)), (8, .pointer (some ⟨bb, 0, none⟩)), (9, .int .i64 j.1)])
  (fun j => pt (some ⟨b, 0, none⟩) (CreO n.ro n.sp x.spare cl (crIt x.spare x.root cl j.1 (CreS.init, m)).1) :: pt (some ⟨bb, 0, none⟩) (RCreO n.w n.rs cl (crIt x.spare x.root cl j.1 (CreS.init, m)).1) :: rgF x n r r2 k c c2 (crIt x.spare x.root cl j.1 (CreS.init, m)).2 G)
  (fun j => 10 - j.1) ⟨0, by omega⟩ (sub.cons rfl (sub.cons rfl (sub.cons rfl sub.nil))) ?_ ?_
 ·dsimp only [rgF, crIt]
  exact ent
 rintro ⟨j, hj⟩
 dsimp only [rgF]
 obtain ⟨k1, k2, k3, k4⟩ := crIt_ok (ro := x.root) (m := m) hk hm hcl j (by omega)
 refine go ?_
 refine Cx.ifp rfl (fun h => ?_) (fun h => ?_)
 ·refine go ?_
  refine Sx.ca rfl (crStepC (b := b) (r := n.ro) (mp := n.mp) (sp := n.sp) (x := x) (m := (crIt x.spare x.root cl j (CreS.init, m)).2) (cl := cl) (c := (crIt x.spare x.root cl j (CreS.init, m)).1) hx (by omega) hcl k1) ?_
  rintro v L' ⟨rfl, rfl⟩
  refine go ?_
  refine Sx.ca rfl (refCrStep (b := bb) (w := n.w) (rm := n.rm) (rp := n.rp) (rs := n.rs) (re := n.re) (x := x) (m := (crIt x.spare x.root cl j (CreS.init, m)).2) (cl := cl) (c := (crIt x.spare x.root cl j (CreS.init, m)).1) hx (by omega) hcl k1) ?_
  rintro v L' ⟨rfl, rfl⟩
  refine go ?_
  rw [w64 (n := (j : Int) + 1) (by omega) (by omega)]
  refine Klp.nm ⟨j + 1, by omega⟩ (sub.cons rfl (sub.cons rfl (sub.cons rfl sub.nil))) ?_ (by dsimp only; omega)
  dsimp only [rgF, crIt]
  refine Ent.trans (Ent.take (a := some ⟨b, 0, none⟩)) (Ent.cons ?_)
  exact ent
 ·obtain rfl : j = 10 := by omega
  rw [e10]
  dsimp only
  refine go ?_
  refine Sx.ca rfl (crRegion (b := b) (r := n.ro) (sp := n.sp) (k := x.spare) (cl := cl) (c := C) hd hat hcode) ?_
  rintro v L' ⟨rfl, rfl⟩
  rw [hslot, hwas]
  refine go ?_
  refine Cx.ent (Ent.take (a := some ⟨bb, 0, none⟩)) ?_
  refine Cx.openp (a := some ⟨bb, 0, none⟩) rfl ?_
  intro p
  have er : C.rslot = s := by unfold CreS.rslot; rw [if_neg (by omega), hslot]
  have eg : C.rgen = laterT (rtOf (m.at_ (x.root + s))).gen := by unfold CreS.rgen; rw [if_pos ⟨hd, hat⟩, hwas]
  simp only [rcrL, List.cons_append, List.nil_append, er, eg, hd, hcode]
  refine Cx.ordc rfl kr_ ?_
  refine ge ?_
  refine Ev.cakH kr_ rfl rfl (crDone (b := b) (r := n.ro) (sp := n.sp) (k := x.spare) (cl := cl) (c := C) hd) ?_
  refine ge ?_
  refine Ev.yes 43 rfl rfl ?_
  refine ge ?_
  refine Ev.yes 49 rfl rfl ?_
  refine ge ?_
  refine Ev.cakH kr_ rfl rfl (crCode (b := b) (r := n.ro) (sp := n.sp) (k := x.spare) (cl := cl) (c := C) hd) ?_
  rw [hcode]
  refine ge ?_
  refine Ev.yes 54 rfl rfl ?_
  refine ge ?_
  refine Ev.yes 61 rfl rfl ?_
  refine ge ?_
  refine Ev.yes 69 rfl (decide_eq_true rfl) ?_
  refine ge ?_
  refine go ?_
  refine Kr.three (.inr rfl) rfl rfl rfl ?_ ⟨by rw [decide_eq_true rfl], rfl⟩
  refine Ent.trans Ent.drop ?_
  exact ent
end
end Go.Proofs.YtflalhdofhobmaaGreat


namespace Go.Proofs.YtflalhdofhobmaaGreat
theorem cas_n (m : Mm) (i o v : Nat) : (m.cas i o v).n = m.n + 1 := by unfold Mm.cas; split <;> rfl
theorem popStep_n (k : Sk) (m : Mm) (q : PopS) : (popStep k m q).2.n ≤ m.n + 1 := by
 unfold popStep
 split
 ·exact Nat.le_succ _
 split
 ·split <;> exact Nat.le_refl _
 ·split <;> exact Nat.le_refl _
 ·exact Nat.le_of_eq (cas_n _ _ _ _)
theorem pushStep_n (k : Sk) (m : Mm) (p : PushS) : (pushStep k m p).2.n ≤ m.n + 1 := by
 unfold pushStep
 split
 ·exact Nat.le_succ _
 split
 ·exact Nat.le_refl _
 split
 ·exact Nat.le_refl _
 split
 ·exact Nat.le_refl _
 ·exact Nat.le_of_eq (cas_n _ _ _ _)
theorem takeStep_n (k : Sk) (ba : Int) (m : Mm) (s : SupS) (t : TakeS) : (takeStep k ba m s t).1.n ≤ m.n + 1 := by
 unfold takeStep
 split
 ·exact Nat.le_succ _
 split
 ·dsimp only
  split <;> exact Nat.le_refl _
 ·dsimp only
  split <;> exact popStep_n _ _ _
theorem alStep_n (p : AlP) (m : Mm) (s : SupS) (a : AlS) : (alStep p m s a).1.n ≤ m.n + 1 := by
 unfold alStep
 split
 ·exact Nat.le_succ _
 dsimp only
 split
 ·exact Nat.le_refl _
 ·split <;> exact Nat.le_refl _
 ·exact takeStep_n _ _ _ _ _
 ·exact Nat.le_refl _
 ·exact Nat.le_refl _
 ·split <;> exact Nat.le_refl _
 ·exact pushStep_n _ _ _
theorem endStep_n (a : Nat) (gen : Int) (m : Mm) (e : EndS) : (endStep a gen m e).2.n ≤ m.n + 1 := by
 unfold endStep
 split
 ·exact Nat.le_succ _
 split
 ·exact Nat.le_refl _
 ·exact Nat.le_of_eq (cas_n _ _ _ _)
section
variable {x : Cn} {T i : Nat} {m : Mm} {W : Nat → Wk}
theorem Ag.gd (h : Ag x m W T) (hi : i < 3) (hd : (W i).a.done = true ∨ (W i).a.at_ ≠ 6) : (W i).a.g.done = true := by
 obtain ⟨P, R, h⟩ := h
 obtain ⟨A, B, e, eu⟩ := wl_split W hi
 rw [e] at h
 exact h.mid.gd hd
end
theorem regions2 {x : Cn} (hx : x.ok) (h2 : x.sl = 2) {c0 c1 : Nat} (h0 : c0 ≤ 3) (h1 : c1 ≤ 3) : ∃ M1 M2, (crIt x.spare x.root c0 10 (CreS.init, allM x)).2 = M1 ∧ (crIt x.spare x.root c1 10 (CreS.init, M1)).2 = M2 ∧ M1.ws.length = x.len ∧ M1.ok ∧ M2.ws.length = x.len ∧ M2.ok ∧
  Pool x.spare (allM x) (((0 : Nat) : Int) :: [((1 : Nat) : Int)]) ∧ Pool x.spare M1 (((1 : Nat) : Int) :: []) ∧ laterT (rtOf ((allM x).at_ (x.root + 0))).gen = 1 ∧ laterT (rtOf (M1.at_ (x.root + 1))).gen = 1 ∧ Pool x.pool M2 (iotaI x.c) ∧ hdT (M2.at_ 0) ≤ 10 ∧ (∀ s, s < x.sl → (rtOf (M2.at_ (x.root + s))).ok) ∧ M2.n = 10 := by
 obtain ⟨b1, b2, b3, b4, b5, b6, b7⟩ := show MayC (x.w : Int) x.c x.wd x.sl x.ca x.ba from hx
 have hlen := hx.len_le
 have hl := allM_len x
 have hk := hx.spare (n := x.len) (Nat.le_refl _) hlen
 have hroot : x.root + x.sl = x.slot := by unfold Cn.root Cn.slot; omega
 have hslot : x.slot + x.sl = x.link := by unfold Cn.slot Cn.link; omega
 have hword : x.link + x.c ≤ x.len := by unfold Cn.link Cn.len; omega
 have g3 : 3 ≤ x.root := by unfold Cn.root; omega
 have hsp := allM_spare hx
 have hio : iotaI x.sl = ((0 : Nat) : Int) :: [((1 : Nat) : Int)] := by rw [h2]; rfl
 rw [hio] at hsp
 have hz : ∀ s, s < 2 → (allM x).at_ (x.root + s) = 0 := fun s hs => allM_at hx (by omega) (by omega) (by omega) (by omega)
 obtain ⟨C1, M1, e1, _, _, _, _, _, hn1, hl1, ho1, hp1, hv1, hr1⟩ := cr_alone (k := x.spare) (ro := x.root) (cl := c0) (m := allM x) hk hl (allM_ok hx) hsp (by show x.root + x.sl ≤ x.slot; omega) (by show 1 < x.root; omega) h0
 obtain ⟨C2, M2, e2, _, _, _, _, _, hn2, hl2, ho2, hp2, hv2, hr2⟩ := cr_alone (k := x.spare) (ro := x.root) (cl := c1) (m := M1) hk hl1 ho1 hp1 (by show x.root + x.sl ≤ x.slot; omega) (by show 1 < x.root; omega) h1
 rw [Int.toNat_natCast] at hv1 hr1 hv2 hr2
 have hM1 : M1.at_ (x.root + 1) = 0 := by rw [hr1 _ (by show x.root + 1 ≠ 1; omega) (by omega)]; exact hz 1 (by omega)
 have hat : ∀ a, a ≠ 1 → a ≠ x.root + 0 → a ≠ x.root + 1 → M2.at_ a = (allM x).at_ a := fun a h1 h2 h3 => by rw [hr2 a h1 h3, hr1 a h1 h2]
 refine ⟨M1, M2, by rw [e1], by rw [e2], hl1, ho1, hl2, ho2, hsp, hp1, by rw [hz 0 (by omega)]; rfl, by rw [hM1]; rfl, ?_, ?_, fun s hs => ?_, ?_⟩
 ·have hpl := allM_pool hx
  refine ⟨?_, hpl.nd⟩
  rw [hat _ (by show (0 : Nat) ≠ 1; omega) (by show 0 ≠ x.root + 0; omega) (by show 0 ≠ x.root + 1; omega)]
  refine hpl.c.congr fun z hz => ?_
  have hz2 := hpl.c.mem z hz
  exact hat _ (by show x.link + z.toNat ≠ 1; omega) (by show x.link + z.toNat ≠ x.root + 0; omega) (by show x.link + z.toNat ≠ x.root + 1; omega)
 ·rw [hat 0 (by omega) (by omega) (by omega), show (allM x).at_ 0 = 1 from allM_0 hx]; decide
 ·rcases (show s = 0 ∨ s = 1 by omega) with rfl | rfl
  ·rw [hr2 _ (by show x.root + 0 ≠ 1; omega) (by omega), hv1, hz 0 (by omega), rtOf_w (nextRt_ok (by omega) h0)]
   exact nextRt_ok (by omega) h0
  ·rw [hv2, hM1, rtOf_w (nextRt_ok (by omega) h1)]
   exact nextRt_ok (by omega) h1
 ·rw [hn2, hn1]
  have : (allM x).n = 0 := by unfold allM poolM; rw [fillM_n]; first | rw [fillM_n]; rfl | rfl
  omega
end Go.Proofs.YtflalhdofhobmaaGreat


namespace Go.Proofs.YtflalhdofhobmaaGreat
open Go
attribute [local irreducible] Sx Cx Rx Fx Krg Ksq Kbl Klp Kr
abbrev rendV (w slot : Nat) (gen : Int) (at_ : Nat) (cnt : Int) (point : Nat) (chunk : Int) (was code : Nat) (d : Bool) : List Value :=
 [.pointer (some ⟨w, 0, none⟩), .int .i64 (slot : Nat), .int .i64 gen, .int .i64 (at_ : Nat), .int .i64 cnt, .int .i64 (point : Nat), .int .i64 chunk, wd was, .int .i64 (code : Nat), .bool d]
abbrev rendB (b w slot : Nat) (gen : Int) (at_ : Nat) (cnt : Int) (point : Nat) (chunk : Int) (was code : Nat) (d : Bool) : As := pt (some ⟨b, 0, none⟩) (Blk 77 (rendV w slot gen at_ cnt point chunk was code d))
def rendL (T : TypeId) (w slot : Nat) (gen : Int) (e : EndS) (a : Option Addr) (y : Nat) : St := [lift (e.done = false → y = e.at_), pt a (Blk T (rendV w slot gen y (e.cnt : Nat) e.point e.chunk e.was e.code e.done))]
def REndT (T : TypeId) (w slot : Nat) (gen : Int) (e : EndS) (a : Option Addr) : As := exs (rendL T w slot gen e a)
abbrev REndO := REndT 77
section
variable {L F G : St}
theorem REndO.close {b w slot at_ point was code : Nat} {gen cnt chunk : Int} {d : Bool} (e : EndS) (h : e.done = false → at_ = e.at_) (e1 : cnt = (e.cnt : Nat)) (e2 : point = e.point) (e3 : chunk = e.chunk) (e4 : was = e.was) (e5 : code = e.code) (e6 : d = e.done) :
  Ent (rendB b w slot gen at_ cnt point chunk was code d :: G) (pt (some ⟨b, 0, none⟩) (REndO w slot gen e) :: G) := by
 subst e1 e2 e3 e4 e5 e6
 refine Ent.trans (Ent.lift h (Ent.refl _)) ?_
 exact Ent.close (f := rendL 77 w slot gen e (some ⟨b, 0, none⟩)) rfl at_
theorem refEndNew {w : Nat} (slot : Nat) (gen : Int) :
  Fx Tryz.prog 36 [.pointer (some ⟨w, 0, none⟩), .int .i64 slot, .int .i64 gen] L (fun v L' => ∃ b, v = .pointer (some ⟨b, 0, none⟩) ∧ L' = pt (some ⟨b, 0, none⟩) (REndO w slot gen EndS.init) :: L) := by
 refine Fx.mk Tryz.func36 k36 nb_ ?_
 dsimp only [c36, envOf, Nat.reduceAdd]
 refine go ?_
 refine Sx.bx rfl rfl fun b => ?_
 refine Sx.re (rendV w slot gen 0 0 0 (-1) 0 0 false) rfl ?_
 refine go ?_
 exact Kr.one (.inr rfl) rfl (REndO.close EndS.init (fun _ => rfl) rfl rfl rfl rfl rfl rfl) ⟨b, rfl, rfl⟩
set_option maxHeartbeats 2000000 in
theorem refEndStep {b w rm rp rs re slot : Nat} {gen : Int} {x : Cn} {m : Mm} {e : EndS} {F1 F2 : St} (hx : x.ok) (hl : x.len ≤ m.ws.length) (hs : slot < x.sl) (he : e.ok) (hei : EndI e)
  [t1 : Take L (some ⟨b, 0, none⟩) (REndO w slot gen e) F1] [t2 : Take F1 (some ⟨rm, 0, none⟩) (RMemO m) F2] [t3 : Take F2 (some ⟨w, 0, none⟩) (RWO x rm rp rs re) G] :
  Fx Tryz.prog 33 [.pointer (some ⟨b, 0, none⟩)] L
   (fun v L' => v = .bool (!e.done) ∧ L' = pt (some ⟨b, 0, none⟩) (REndO w slot gen (endStep (x.root + slot) gen m e).1) :: pt (some ⟨rm, 0, none⟩) (RMemO (endStep (x.root + slot) gen m e).2) :: F2) := by
 have hback : Ent (pt (some ⟨w, 0, none⟩) (RWO x rm rp rs re) :: G) F2 := Ent.of t3.back
 obtain ⟨ha, hw, hg, hn⟩ := he
 have hsz : x.root + x.sl ≤ x.len := by unfold Cn.root Cn.len; omega
 refine Fx.mk Tryz.func33 k33 nb_ ?_
 dsimp only [c33, envOf, Nat.reduceAdd]
 refine Cx.ent (Ent.trans (Ent.of t1.out) (Ent.cons (Ent.trans (Ent.of t2.out) (Ent.cons (Ent.of t3.out))))) ?_
 refine Cx.pure (rmemKey (rm := rm) (m := m)) fun hm => ?_
 refine Cx.openp (a := some ⟨b, 0, none⟩) rfl ?_
 intro at_
 simp only [rendL, List.cons_append, List.nil_append]
 refine Cx.liftp fun hat => ?_
 cases hd : e.done with
 | true =>
   have e1 : endStep (x.root + slot) gen m e = (e, m) := by unfold endStep; rw [hd]; rfl
   rw [e1]
   refine go ?_
   exact Kr.one (.inr rfl) rfl (Ent.trans (REndO.close e (fun h => by rw [hd] at h; cases h) rfl rfl rfl rfl rfl hd.symm) (Ent.cons (Ent.cons hback))) ⟨rfl, rfl⟩
 | false =>
   obtain rfl := hat hd
   refine go ?_
   rw [cntW hn]
   refine Cx.ordc rfl kr_ ?_
   refine ge ?_
   refine Ev.cakH kr_ rfl rfl (refRootAt hx slot hs) ?_
   refine ge ?_
   refine go ?_
   rcases (show e.at_ = 0 ∨ e.at_ = 1 by omega) with h0 | h0
   ·have e1 : endStep (x.root + slot) gen m e = (if (rtOf (m.at_ (x.root + slot))).live gen then { e with cnt := e.cnt + 1, was := m.at_ (x.root + slot), at_ := 1 } else { e with cnt := e.cnt + 1, was := m.at_ (x.root + slot), code := 3, point := e.cnt + 1, done := true }, m.tick) := by unfold endStep; rw [hd, h0]; rfl
    rw [e1, h0]
    refine go ?_
    refine Sx.ca rfl (refLoad (rm := rm) (m := m) (x.root + slot) (by omega)) ?_
    rintro v' L' ⟨rfl, rfl⟩
    refine go ?_
    refine Cx.ordc rfl kr_ ?_
    refine ge ?_
    refine Ev.cakH kr_ rfl rfl (refGetRoot (m.at_ (x.root + slot)) (Mm.at_lt hm.1 _)) ?_
    refine ge ?_
    refine Ev.cakH kr_ rfl rfl (refLive (rtOf (m.at_ (x.root + slot))) gen) ?_
    refine ge ?_
    by_cases hlive : (rtOf (m.at_ (x.root + slot))).live gen
    ·rw [if_pos hlive, decide_eq_true hlive]
     refine go ?_
     refine Kr.one (.inr rfl) rfl ?_ ⟨rfl, rfl⟩
     refine Ent.trans (Ent.take (a := some ⟨b, 0, none⟩)) ?_
     refine Ent.trans (REndO.close { e with cnt := e.cnt + 1, was := m.at_ (x.root + slot), at_ := 1 } (fun _ => rfl) rfl rfl rfl rfl rfl hd.symm) (Ent.cons ?_)
     refine Ent.trans ?_ (Ent.cons hback)
     exact ent
    ·rw [if_neg hlive, decide_eq_false hlive]
     refine go ?_
     refine Kr.one (.inr rfl) rfl ?_ ⟨rfl, rfl⟩
     refine Ent.trans (Ent.take (a := some ⟨b, 0, none⟩)) ?_
     refine Ent.trans (REndO.close { e with at_ := 0, cnt := e.cnt + 1, was := m.at_ (x.root + slot), code := 3, point := e.cnt + 1, done := true } (fun h => by cases h) rfl rfl rfl rfl rfl rfl) (Ent.cons ?_)
     refine Ent.trans ?_ (Ent.cons hback)
     exact ent
   ·have e1 : endStep (x.root + slot) gen m e = (if m.at_ (x.root + slot) = e.was then { e with cnt := e.cnt + 1, chunk := (rtOf e.was).chunk, point := e.cnt + 1, done := true } else { e with cnt := e.cnt + 1, at_ := 0 }, m.cas (x.root + slot) e.was (Rt.w ⟨(rtOf e.was).gen, 0, 0, 0⟩)) := by unfold endStep; rw [hd, h0]; rfl
    rw [e1, h0]
    have hR : Rt.ok ⟨(rtOf e.was).gen, 0, 0, 0⟩ := ⟨hei.o.g, by show 0 ≤ 4097; omega, by show 0 ≤ 3; omega, by show 0 ≤ 1024; omega⟩
    refine go ?_
    refine Sx.ca rfl (refGetRoot e.was hw) ?_
    rintro v' L' ⟨rfl, rfl⟩
    refine Sx.al fun o => ?_
    refine Sx.st (b := o) rfl rfl rfl rfl rfl rfl ?_
    refine Sx.re (rtL (rtOf e.was)) rfl ?_
    refine go ?_
    refine Sx.ca (vs := [rtV ⟨(rtOf e.was).gen, 0, 0, 0⟩]) rfl (refPutRoot ⟨(rtOf e.was).gen, 0, 0, 0⟩ hR) ?_
    rintro v' L' ⟨rfl, rfl⟩
    refine go ?_
    obtain ⟨wN, hwN⟩ : ∃ wN, Rt.w ⟨(rtOf e.was).gen, 0, 0, 0⟩ = wN := ⟨_, rfl⟩
    have hwNl : wN < 18446744073709551616 := by rw [← hwN]; exact Rt.w_lt hR
    rw [hwN]
    refine Cx.ordc rfl kr_ ?_
    refine ge ?_
    refine Ev.caH kr_ rfl rfl (refCas (rm := rm) (m := m) (x.root + slot) e.was wN (by omega) hw hwNl) (Pres.deps kr_) ?_
    rintro v' L' ⟨rfl, rfl⟩
    refine ge ?_
    by_cases hc : m.at_ (x.root + slot) = e.was
    ·rw [if_pos hc, decide_eq_true hc]
     refine go ?_
     refine Cx.ordc rfl kr_ ?_
     refine ge ?_
     refine Ev.cakH kr_ rfl rfl (refChunk (rtOf e.was) (by have := hei.o.m; omega)) ?_
     refine ge ?_
     refine Ev.stbH (b := b) kr_ rfl rfl rfl rfl rfl (by rfl) rfl (Pres.deps kr_) ?_
     refine ge ?_
     refine Ev.stbH (b := b) kr_ rfl rfl rfl rfl rfl (by rfl) rfl (Pres.deps kr_) ?_
     refine ge ?_
     refine Ev.stbH (b := b) kr_ rfl rfl rfl rfl rfl (by rfl) rfl (Pres.deps kr_) ?_
     refine ge ?_
     refine go ?_
     refine Kr.one (.inr rfl) rfl ?_ ⟨rfl, rfl⟩
     refine Ent.trans (Ent.take (a := some ⟨b, 0, none⟩)) ?_
     refine Ent.trans (REndO.close { e with at_ := 1, cnt := e.cnt + 1, chunk := (rtOf e.was).chunk, point := e.cnt + 1, done := true } (fun h => by cases h) rfl rfl rfl rfl rfl rfl) (Ent.cons ?_)
     refine Ent.trans ?_ (Ent.cons hback)
     exact ent
    ·rw [if_neg hc, decide_eq_false hc]
     refine go ?_
     refine Kr.one (.inr rfl) rfl ?_ ⟨rfl, rfl⟩
     refine Ent.trans (Ent.take (a := some ⟨b, 0, none⟩)) ?_
     refine Ent.trans (REndO.close { e with cnt := e.cnt + 1, at_ := 0 } (fun _ => rfl) rfl rfl rfl rfl rfl hd.symm) (Ent.cons ?_)
     refine Ent.trans ?_ (Ent.cons hback)
     exact ent
end
end Go.Proofs.YtflalhdofhobmaaGreat


namespace Go.Proofs.YtflalhdofhobmaaGreat
open Go
attribute [local irreducible] Sx Cx Rx Fx Krg Ksq Kbl Klp Kr
section
variable {L F G : St}
theorem Fx.pre {P : Program} {f : FuncId} {vs : List Value} {R : Value → St → Prop} {p : Prop} (h : ∀ h, holds L h → p) (x : p → Fx P f vs L R) : Fx P f vs L R := by
 unfold Fx at *
 intro w0 w s
 obtain ⟨hh, H, _⟩ := s.heap
 exact x (h hh H) w0 w s
theorem sameIntsR {xs ys : List Int} {a b : Option Addr} {n m c d : Nat} {F1 F2 : St} [t1 : Take L a (Row 3 1 n c (ints xs)) F1] [t2 : Take L b (Row 3 1 m d (ints ys)) F2] (hb : n ≤ 1000000000) :
  Fx Tryz.prog 62 [.slice a n c, .slice b m d] L (fun v L' => v = .bool (decide (xs = ys)) ∧ L = L') :=
 Fx.pre (Row.key (t := t1)) fun h1 => Fx.pre (Row.key (t := t2)) fun h2 => sameInts (Rd.any (a := a) h1.1 (h1.2.2.2.imp (fun h => h.2.1) id)) (Rd.any (a := b) h2.1 (h2.2.2.2.imp (fun h => h.2.1) id)) hb
theorem Cx.rag {N : Nat} {c : C} {e : En} {K : Kx} {b sa rp slot : Nat} {gen : Int} {n : Nat} {s : AlS} (hd6 : s.done = true → s.at_ = 6) [t : Take L (some ⟨b, 0, none⟩) (RAgO sa rp slot gen n s) F]
  (k : ∀ (at_ : Nat) (tp gp : Value) (dry : Bool) (rest : As), (∀ G, Ent (ralB b sa slot gen n at_ (s.v.cnt : Nat) s.v tp gp dry s.done :: rest :: G) (pt (some ⟨b, 0, none⟩) (RAgO sa rp slot gen n s) :: G)) → Cx Tryz.prog N c e K (ralB b sa slot gen n at_ (s.v.cnt : Nat) s.v tp gp dry s.done :: rest :: F)) : Cx Tryz.prog N c e K L := by
 by_cases h6 : s.at_ = 6
 ·refine Cx.openp (a := some ⟨b, 0, none⟩) (RAgO.g_ h6) ?_
  rintro ⟨tp, q, dry⟩
  exact k 6 tp _ dry (pt (some ⟨q, 0, none⟩) (RGiveO rp s.g)) fun G => RAgO.closeG (v := s.v) s h6 rfl rfl rfl rfl rfl
 ·have hd : s.done = false := by
   cases hq : s.done with
   | true => exact absurd (hd6 hq) h6
   | false => rfl
  have e6 : RAgO sa rp slot gen n s = RAlO sa rp slot gen n s := RAgO.fun_ h6
  rw [e6] at t k
  by_cases h2 : s.at_ = 2
  ·refine Cx.openp (a := some ⟨b, 0, none⟩) (RAlO.t_ hd h2) ?_
   rintro ⟨q, gp⟩
   have := k 2 (.pointer (some ⟨q, 0, none⟩)) gp false (pt (some ⟨q, 0, none⟩) (RTakeO sa rp s.t)) fun G => by rw [hd]; exact RAlO.closeT (v := s.v) s hd h2 rfl rfl rfl
   rw [hd] at this
   exact this
  ·refine Cx.openp (a := some ⟨b, 0, none⟩) (RAlO.s_ (.inr h2)) ?_
   rintro ⟨tp, gp, dry⟩
   refine Cx.liftp fun hdr => ?_
   refine Cx.ent ?_ (k s.at_ tp gp dry (lift True) fun G => ?_)
   ·exact Ent.cons (Ent.lift trivial (Ent.refl _))
   ·refine Ent.trans (Ent.cons Ent.drop) ?_
    exact RAlO.closeS (v := s.v) s (.inr h2) rfl rfl rfl rfl hdr
theorem Sx.rag {N : Nat} {l : List Go.Proofs.YtflalhdofhobmaaGreat.G} {e : En} {K : En → St → Prop} {b sa rp slot : Nat} {gen : Int} {n : Nat} {s : AlS} (hd6 : s.done = true → s.at_ = 6) [t : Take L (some ⟨b, 0, none⟩) (RAgO sa rp slot gen n s) F]
  (k : ∀ (at_ : Nat) (tp gp : Value) (dry : Bool) (rest : As), (∀ G, Ent (ralB b sa slot gen n at_ (s.v.cnt : Nat) s.v tp gp dry s.done :: rest :: G) (pt (some ⟨b, 0, none⟩) (RAgO sa rp slot gen n s) :: G)) → Sx Tryz.prog N l e K (ralB b sa slot gen n at_ (s.v.cnt : Nat) s.v tp gp dry s.done :: rest :: F)) : Sx Tryz.prog N l e K L := by
 by_cases h6 : s.at_ = 6
 ·refine Sx.openp (a := some ⟨b, 0, none⟩) (RAgO.g_ h6) ?_
  rintro ⟨tp, q, dry⟩
  exact k 6 tp _ dry (pt (some ⟨q, 0, none⟩) (RGiveO rp s.g)) fun G => RAgO.closeG (v := s.v) s h6 rfl rfl rfl rfl rfl
 ·have hd : s.done = false := by
   cases hq : s.done with
   | true => exact absurd (hd6 hq) h6
   | false => rfl
  have e6 : RAgO sa rp slot gen n s = RAlO sa rp slot gen n s := RAgO.fun_ h6
  rw [e6] at t k
  by_cases h2 : s.at_ = 2
  ·refine Sx.openp (a := some ⟨b, 0, none⟩) (RAlO.t_ hd h2) ?_
   rintro ⟨q, gp⟩
   have := k 2 (.pointer (some ⟨q, 0, none⟩)) gp false (pt (some ⟨q, 0, none⟩) (RTakeO sa rp s.t)) fun G => by rw [hd]; exact RAlO.closeT (v := s.v) s hd h2 rfl rfl rfl
   rw [hd] at this
   exact this
  ·refine Sx.openp (a := some ⟨b, 0, none⟩) (RAlO.s_ (.inr h2)) ?_
   rintro ⟨tp, gp, dry⟩
   refine Sx.liftp fun hdr => ?_
   refine Sx.ent ?_ (k s.at_ tp gp dry (lift True) fun G => ?_)
   ·exact Ent.cons (Ent.lift trivial (Ent.refl _))
   ·refine Ent.trans (Ent.cons Ent.drop) ?_
    exact RAlO.closeS (v := s.v) s (.inr h2) rfl rfl rfl rfl hdr
set_option maxHeartbeats 2000000 in
theorem alikeC {b bb sa rp g u pb : Nat} {x : Cn} {slot : Nat} {gen : Int} {n : Nat} {s : AlS} {F1 F2 : St} (h6 : s.done = false → s.at_ ≤ 6) (he : EnA s) (hd6 : s.done = true → s.at_ = 6) (hl : s.g.done = false → s.g.l.length ≤ 1000000) (hh : (handS s).length ≤ 1000000000)
  [t1 : Take L (some ⟨b, 0, none⟩) (AlO g u pb x slot gen n s) F1] [t2 : Take F1 (some ⟨bb, 0, none⟩) (RAgO sa rp slot gen n s) F2] :
  Fx Tryz.prog 39 [.pointer (some ⟨b, 0, none⟩), .pointer (some ⟨bb, 0, none⟩)] L (fun v L' => v = .bool true ∧ L' = pt (some ⟨b, 0, none⟩) (AlO g u pb x slot gen n s) :: pt (some ⟨bb, 0, none⟩) (RAgO sa rp slot gen n s) :: F2) := by
 refine Fx.mk Tryz.func39 k39 nb_ ?_
 dsimp only [c39, envOf, Nat.reduceAdd]
 refine Cx.ent (Ent.trans (Ent.of t1.out) (Ent.cons (Ent.of t2.out))) ?_
 refine Cx.rag (b := bb) (s := s) hd6 ?_
 intro at1 tp gp dry rest hbk
 refine go ?_
 refine Cx.ordc rfl kr_ ?_
 refine ge ?_
 refine Ev.cakH kr_ rfl rfl (alDoneQ (b := b) (g := g) (u := u) (pb := pb) (x := x) (slot := slot) (gen := gen) (n := n) (s := s) h6) ?_
 refine ge ?_
 refine Ev.no 12 rfl (by simp) ?_
 refine ge ?_
 refine Ev.cakH kr_ rfl rfl (alPointQ (b := b) (g := g) (u := u) (pb := pb) (x := x) (slot := slot) (gen := gen) (n := n) (s := s) h6) ?_
 refine ge ?_
 refine Ev.no 21 rfl (by simp) ?_
 refine ge ?_
 refine Ev.bring 1 rfl ?_
 refine ge ?_
 refine Ev.caH kr_ rfl rfl (alHandQ (b := b) (g := g) (u := u) (pb := pb) (x := x) (slot := slot) (gen := gen) (n := n) (s := s) he hd6 hl) (Pres.deps kr_) ?_
 rintro v L' ⟨a1, c1, rfl, rfl⟩
 refine ge ?_
 refine Ev.caH kr_ rfl rfl (Fx.ent (M := pt (some ⟨bb, 0, none⟩) (RAgO sa rp slot gen n s) :: pt a1 (Row 3 1 (handS s).length c1 (ints (handS s))) :: pt (some ⟨b, 0, none⟩) (AlO g u pb x slot gen n s) :: F2) (Ent.trans (M := ralB bb sa slot gen n at1 (s.v.cnt : Nat) s.v tp gp dry s.done :: rest :: pt a1 (Row 3 1 (handS s).length c1 (ints (handS s))) :: pt (some ⟨b, 0, none⟩) (AlO g u pb x slot gen n s) :: F2) (Ent.deep (N := [_, _]) (M := [_, _])) (hbk _)) (refAlHand (b := bb) (sa := sa) (rp := rp) (slot := slot) (gen := gen) (n := n) (s := s) he hd6 hl)) (Pres.deps kr_) ?_
 rintro v L' ⟨a2, c2, rfl, rfl⟩
 refine ge ?_
 refine Ev.cakH kr_ rfl rfl (sameIntsR (a := a1) (b := a2) hh) ?_
 refine ge ?_
 rw [decide_eq_true rfl]
 refine go ?_
 refine Sx.ent (Ent.take (a := some ⟨bb, 0, none⟩)) ?_
 refine Sx.rag (b := bb) (s := s) hd6 ?_
 intro at2 tp2 gp2 dry2 rest2 hbk2
 cases hd : s.done with
 | false =>
   rw [hd] at hbk2
   refine go ?_
   refine Sx.ca rfl (alCodeNo (b := b) (g := g) (u := u) (pb := pb) (x := x) (slot := slot) (gen := gen) (n := n) (s := s) h6 hd) ?_
   rintro v L' ⟨rfl, rfl⟩
   refine go ?_
   refine Sx.ca rfl (alObjectNo (b := b) (g := g) (u := u) (pb := pb) (x := x) (slot := slot) (gen := gen) (n := n) (s := s) h6 hd) ?_
   rintro v L' ⟨rfl, rfl⟩
   refine go ?_
   refine Kr.one (.inr rfl) rfl ?_ ⟨?_, rfl⟩
   ·refine Ent.trans (hbk2 _) ?_
    exact ent
   ·simp [Hd.zero]
 | true =>
   rw [hd] at hbk2
   refine go ?_
   refine Cx.ordc rfl kr_ ?_
   refine ge ?_
   refine Ev.cakH kr_ rfl rfl (alCode (b := b) (g := g) (u := u) (pb := pb) (x := x) (slot := slot) (gen := gen) (n := n) (s := s) hd) ?_
   refine ge ?_
   refine Ev.yes 50 rfl (decide_eq_true rfl) ?_
   refine ge ?_
   refine Ev.cakH kr_ rfl rfl (alObject (b := b) (g := g) (u := u) (pb := pb) (x := x) (slot := slot) (gen := gen) (n := n) (s := s) hd) ?_
   refine ge ?_
   refine go ?_
   refine Kr.one (.inr rfl) rfl ?_ ⟨?_, rfl⟩
   ·refine Ent.trans (hbk2 _) ?_
    exact ent
   ·simp [Hd.zero]
end
end Go.Proofs.YtflalhdofhobmaaGreat


namespace Go.Proofs.YtflalhdofhobmaaGreat
open Go
attribute [local irreducible] Sx Cx Rx Fx Krg Ksq Kbl Klp Kr
section
variable {L F G : St}
theorem Fx.iso {P : Program} {f : FuncId} {vs : List Value} {V : Value} {M : St} (h1 : Ent L M) (h2 : Ent M L) (x : Fx P f vs M (fun v L' => v = V ∧ L' = M)) : Fx P f vs L (fun v L' => v = V ∧ L' = L) := by
 unfold Fx at *
 intro w0 w s
 exact (x w0 w (s.ent h1)).mono fun en w' ⟨v', L', he, ⟨hv, hL⟩, hS⟩ => ⟨v', L, he, ⟨hv, rfl⟩, hS.ent (by subst hL; exact h2)⟩
theorem sm_in {n i : Nat} {f : Nat → St} {N G A R : St} [t : Many L n f N G] (h : i < n) (e : f i = A ++ R) : Ent L (A ++ ((N ++ (many n (updS f i []) ++ G)) ++ R)) := by
 rw [t.eq]
 refine Ent.trans (Ent.trans Ent.deep (Ent.trans (Ent.one h) (Ent.app Ent.deep))) ?_
 rw [e, List.append_assoc]
 exact Ent.app (.perm List.perm_append_comm)
theorem sm_out {n i : Nat} {f : Nat → St} {N G A R : St} [t : Many L n f N G] (h : i < n) (e : f i = A ++ R) : Ent (A ++ ((N ++ (many n (updS f i []) ++ G)) ++ R)) L := by
 rw [t.eq]
 have h1 : Ent (A ++ ((N ++ (many n (updS f i []) ++ G)) ++ R)) (f i ++ (N ++ (many n (updS f i []) ++ G))) := by
  rw [e, List.append_assoc A R]
  exact Ent.app (.perm List.perm_append_comm)
 refine Ent.trans h1 (Ent.trans (Ent.ithBack h) ?_)
 rw [updS_id]
 exact Ent.refl _
def smW (n : Hn) (x : Cn) (q : Who) (s : SupS) (R : St) : St := pt (some ⟨q.u, 0, none⟩) (SupO n.mp q.pb x s) :: pt (some ⟨q.s, 0, none⟩) (RSupO n.w s) :: R
abbrev smF (x : Cn) (n : Hn) (r r2 c c2 : Nat) (Q : Nat → Who) (S : Nat → SupS) (R : Nat → St) (m : Mm) (G : St) : St :=
 pt (some ⟨n.a, 0, none⟩) (Blk 45 (grV x n (some ⟨r, 0, none⟩) (some ⟨r2, 0, none⟩) 3 c c2)) :: pt (some ⟨r, 0, none⟩) (Row 47 1 3 c (ptrs 3 fun i => (Q i).u)) :: pt (some ⟨r2, 0, none⟩) (Row 81 1 3 c2 (ptrs 3 fun i => (Q i).s)) ::
 pt (some ⟨n.mp, 0, none⟩) (MemO m) :: pt (some ⟨n.w, 0, none⟩) (RWO x n.rm n.rp n.rs n.re) :: pt (some ⟨n.rm, 0, none⟩) (RMemO m) ::
 (many 3 (fun i => smW n x (Q i) (S i) (R i)) ++ G)
abbrev smM (n : Hn) (m : Mm) (rg : Option Addr) (cg : Nat) (G : St) : St := pt (some ⟨n.rm, 0, none⟩) (Blk 110 [.slice rg m.ws.length cg, .int .i64 (IntKind.i64.wrap (m.n : Int))]) :: pt rg (Row 56 1 m.ws.length cg (us m.ws)) :: G
abbrev smG (x : Cn) (n : Hn) (r r2 c c2 : Nat) (Q : Nat → Who) (S : Nat → SupS) (R : Nat → St) (m : Mm) (rg : Option Addr) (cg : Nat) (G : St) : St :=
 pt (some ⟨n.a, 0, none⟩) (Blk 45 (grV x n (some ⟨r, 0, none⟩) (some ⟨r2, 0, none⟩) 3 c c2)) :: pt (some ⟨r, 0, none⟩) (Row 47 1 3 c (ptrs 3 fun i => (Q i).u)) :: pt (some ⟨r2, 0, none⟩) (Row 81 1 3 c2 (ptrs 3 fun i => (Q i).s)) ::
 pt (some ⟨n.mp, 0, none⟩) (MemO m) :: pt (some ⟨n.w, 0, none⟩) (RWO x n.rm n.rp n.rs n.re) :: smM n m rg cg
 (many 3 (fun i => smW n x (Q i) (S i) (R i)) ++ G)
set_option maxHeartbeats 2000000 in
theorem sameM {x : Cn} {n : Hn} {r r2 c c2 : Nat} {Q : Nat → Who} {S : Nat → SupS} {R : Nat → St} {m : Mm} (hn : m.n ≤ 1000000000000) (hS : ∀ i, i < 3 → (S i).xs.length ≤ 1000000000) :
  Fx Tryz.prog 40 [.pointer (some ⟨n.a, 0, none⟩)] (smF x n r r2 c c2 Q S R m G) (fun v L' => v = .bool true ∧ L' = smF x n r r2 c c2 Q S R m G) := by
 refine Fx.mk Tryz.func40 k40 nb_ ?_
 dsimp only [c40, envOf, Nat.reduceAdd]
 dsimp only [smF]
 refine Cx.openp (a := some ⟨n.rm, 0, none⟩) rfl ?_
 rintro ⟨rg, cg⟩
 simp only [rmemL, List.cons_append, List.nil_append]
 refine Cx.liftp fun hm => ?_
 refine Cx.rowkey (a := rg) fun hx0 hn0 _ hk1 => ?_
 have hmx : maxLen = 9223372036854775807 := rfl
 refine go ?_
 refine Cx.lp (α := {j : Nat // j ≤ m.ws.length}) (fun j => [(0, .pointer (some ⟨n.a, 0, none⟩)), (3, .int .i64 j.1)]) (fun _ => smG x n r r2 c c2 Q S R m rg cg G) (fun j => m.ws.length - j.1) ⟨0, Nat.zero_le _⟩ (sub.cons rfl (sub.cons rfl sub.nil)) ?_ ?_
 ·dsimp only [smG, smM]
  exact entm
 rintro ⟨j, hj⟩
 dsimp only [smG, smM]
 refine go ?_
 refine Cx.ifp rfl (fun h => ?_) (fun h => ?_)
 ·have hjl : j < m.ws.length := by omega
  obtain ⟨g0, rfl⟩ := row_some hjl (hk1.imp (fun h => ⟨h.1, h.2.1, h.2.2⟩) id)
  refine go ?_
  refine Cx.ordc rfl kr_ ?_
  refine ge ?_
  refine Ev.cakH kr_ rfl rfl (cellsPeek (b := n.mp) (m := m) j hjl) ?_
  refine ge ?_
  refine Ev.ldrH (b := g0) kr_ rfl rfl (show (us m.ws)[0 + (j : Int).toNat * 1]? = some (wd (m.at_ j)) by rw [show 0 + (j : Int).toNat * 1 = j by omega]; exact us_get (Mm.get hjl)) ?_
  refine ge ?_
  rw [decide_eq_true rfl]
  refine go ?_
  rw [w64 (n := (j : Int) + 1) (by omega) (by omega)]
  refine Klp.nm ⟨j + 1, by omega⟩ (sub.cons rfl (sub.cons rfl sub.nil)) ?_ (by dsimp only; omega)
  exact entm
 ·refine go ?_
  refine Cx.lp (α := {j : Nat // j ≤ 3}) (fun j => [(0, .pointer (some ⟨n.a, 0, none⟩)), (4, .int .i64 j.1)]) (fun _ => smG x n r r2 c c2 Q S R m rg cg G) (fun j => 3 - j.1) ⟨0, Nat.zero_le _⟩ (sub.cons rfl (sub.cons rfl sub.nil)) ?_ ?_
  ·exact entm
  rintro ⟨i, hi⟩
  dsimp only [smG, smM]
  refine go ?_
  refine Cx.ifp rfl (fun h => ?_) (fun h => ?_)
  ·have hi3 : i < 3 := by omega
   refine go ?_
   refine Cx.ent (sm_in (A := [pt (some ⟨(Q i).u, 0, none⟩) (SupO n.mp (Q i).pb x (S i)), pt (some ⟨(Q i).s, 0, none⟩) (RSupO n.w (S i))]) (R := R i) hi3 rfl) ?_
   simp only [List.cons_append, List.nil_append]
   refine Cx.openp (a := some ⟨(Q i).s, 0, none⟩) rfl ?_
   rintro ⟨st, lm⟩
   simp only [rsupL, List.cons_append, List.nil_append]
   refine Cx.openp (a := some ⟨st, 0, none⟩) rfl ?_
   rintro ⟨ra, ca⟩
   simp only [List.cons_append, List.nil_append]
   have hpu : (ptrs 3 fun i => (Q i).u)[0 + (i : Int).toNat * 1]? = some (.pointer (some ⟨(Q i).u, 0, none⟩)) := by
    rw [show 0 + (i : Int).toNat * 1 = i by omega]; exact ptrs_get hi3
   have hps : (ptrs 3 fun i => (Q i).s)[0 + (i : Int).toNat * 1]? = some (.pointer (some ⟨(Q i).s, 0, none⟩)) := by
    rw [show 0 + (i : Int).toNat * 1 = i by omega]; exact ptrs_get hi3
   refine Cx.ordc rfl kr_ ?_
   refine ge ?_
   refine Ev.ldrH (b := r) kr_ rfl rfl hpu ?_
   refine ge ?_
   iterate 6 (refine Ev.bring 1 rfl ?_; refine ge ?_)
   refine Ev.bring 1 rfl ?_
   refine Ev.ldrH (b := r2) kr_ rfl rfl hps ?_
   iterate 6 (refine Ev.bring 1 rfl ?_; refine ge ?_)
   refine Ev.caH kr_ rfl rfl (supStash (u := (Q i).u) (mp := n.mp) (pb := (Q i).pb) (x := x) (s := S i) (hS i hi3)) (.keep (fun v L' ⟨_, _, _, e⟩ => by subst e; exact Has.cell rfl) (.keep (fun v L' ⟨_, _, _, e⟩ => by subst e; exact Has.cell rfl) (.keep (fun v L' ⟨_, _, _, e⟩ => by subst e; exact (Has.row (b := r2) (m := 1)).one (take_one hps)) (.keep (fun v L' ⟨_, _, _, e⟩ => by subst e; exact Has.cell rfl) (.dep rfl (.dep rfl .nil)))))) ?_
   rintro v L' ⟨a1, c1, rfl, rfl⟩
   refine ge ?_
   refine Ev.cakH kr_ rfl rfl (sameIntsR (xs := (S i).xs) (ys := (S i).xs) (a := a1) (b := ra) (hS i hi3)) ?_
   refine ge ?_
   rw [decide_eq_true rfl]
   refine go ?_
   rw [w64 (n := (i : Int) + 1) (by omega) (by omega)]
   refine Klp.nm ⟨i + 1, by omega⟩ (sub.cons rfl (sub.cons rfl sub.nil)) ?_ (by dsimp only; omega)
   refine Ent.trans ?_ (sm_out (A := [pt (some ⟨(Q i).u, 0, none⟩) (SupO n.mp (Q i).pb x (S i)), pt (some ⟨(Q i).s, 0, none⟩) (RSupO n.w (S i))]) (R := R i) hi3 rfl)
   simp only [List.cons_append, List.nil_append]
   refine Ent.trans (StashO.close (T := 191) (most := (S i).most) (xs := (S i).xs) (a := some ⟨st, 0, none⟩) (r := ra) rfl rfl rfl) ?_
   refine Ent.trans (RSupO.close (a := some ⟨(Q i).s, 0, none⟩) (st := st) (lm := lm) (w := n.w) (S i) rfl rfl rfl) ?_
   exact entm
  ·obtain rfl : i = 3 := by omega
   refine go ?_
   refine Cx.ordc rfl kr_ ?_
   refine ge ?_
   refine Ev.cakH kr_ rfl rfl (cellsCount (b := n.mp) (m := m) hn) ?_
   refine ge ?_
   rw [w64 (n := (m.n : Int)) (by omega) (by omega), decide_eq_true rfl]
   refine go ?_
   refine Kr.one (.inr rfl) rfl ?_ ⟨rfl, rfl⟩
   refine Ent.trans (RMemO.close (a := some ⟨n.rm, 0, none⟩) (r := rg) (v := .int .i64 (m.n : Int)) m hm (by rw [w64 (by omega) (by omega)]) rfl rfl) ?_
   exact entm
end
end Go.Proofs.YtflalhdofhobmaaGreat


namespace Go.Proofs.YtflalhdofhobmaaGreat
open Go
attribute [local irreducible] Sx Cx Rx Fx Krg Ksq Kbl Klp Kr
def updF {α : Type} (f : Nat → α) (i : Nat) (v : α) : Nat → α := fun j => if j = i then v else f j
def yvs (Y : Nat → Option Addr) : List Value := (List.range 3).map fun j => .pointer (Y j)
theorem yvs_get {Y : Nat → Option Addr} {i : Nat} (h : i < 3) : (yvs Y)[0 + (i : Int).toNat * 1]? = some (.pointer (Y i)) := by simp [yvs, h]
theorem yvs_set {Y : Nat → Option Addr} {i : Nat} {o : Option Addr} (h : i < 3) : (yvs Y).set (0 + (i : Int).toNat * 1) (.pointer o) = yvs (updF Y i o) := by
 rcases (show i = 0 ∨ i = 1 ∨ i = 2 by omega) with rfl | rfl | rfl <;> rfl
theorem yvs_blt {Y : Nat → Option Addr} {i : Nat} (h : i < 3) : Nat.blt (0 + (i : Int).toNat * 1) (yvs Y).length = true := by
 rw [show (yvs Y).length = 3 by simp [yvs]]; rcases (show i = 0 ∨ i = 1 ∨ i = 2 by omega) with rfl | rfl | rfl <;> rfl
def plR (g rp : Nat) (x : Cn) (mp : Nat) (q : Who) (w : Wk) (sl b : Nat) (y : Option Addr) : St :=
 pt (some ⟨q.pb, 0, none⟩) (SkO mp x.pool) :: (if w.a.done then [] else [pt (some ⟨b, 0, none⟩) (AlO g q.u q.pb x sl 1 w.n w.a), pt y (RAgO q.s rp sl 1 w.n w.a)])
def plW (w0 g rp : Nat) (x : Cn) (mp : Nat) (q : Who) (w : Wk) (sl b : Nat) (y : Option Addr) : St :=
 pt (some ⟨q.u, 0, none⟩) (SupO mp q.pb x w.s) :: pt (some ⟨q.s, 0, none⟩) (RSupO w0 w.s) :: plR g rp x mp q w sl b y
section
variable {L F G : St}
theorem pl_back {w0 g rp : Nat} {x : Cn} {mp : Nat} {Q : Nat → Who} {W : Nat → Wk} {A bs : Nat → Nat} {Y : Nat → Option Addr} {i sl b : Nat} {w : Wk} {y : Option Addr} {s : St} (hi : i < 3) (hs : ∀ G, Ent (s ++ G) (plW w0 g rp x mp (Q i) w sl b y ++ G)) :
  Ent (s ++ (many 3 (updS (fun i => plW w0 g rp x mp (Q i) (W i) (A i) (bs i) (Y i)) i []) ++ G)) (many 3 (fun j => plW w0 g rp x mp (Q j) (updW W i w j) (updF A i sl j) (updN bs i b j) (updF Y i y j)) ++ G) := by
 refine Ent.trans (hs _) ?_
 refine Ent.trans (Ent.oneBack hi) ?_
 have e : updS (fun i => plW w0 g rp x mp (Q i) (W i) (A i) (bs i) (Y i)) i (plW w0 g rp x mp (Q i) w sl b y) = fun j => plW w0 g rp x mp (Q j) (updW W i w j) (updF A i sl j) (updN bs i b j) (updF Y i y j) := by
  funext j
  unfold updS updW updN updF
  by_cases h : j = i
  ·subst h; simp
  ·simp [h]
 rw [e]
 exact Ent.refl _
structure EnX where
 b : Nat
 bb : Nat
 e : EndS
 s : Nat
def enP : Option EnX → Value
 | none => .pointer none
 | some q => .pointer (some ⟨q.b, 0, none⟩)
def enQ : Option EnX → Value
 | none => .pointer none
 | some q => .pointer (some ⟨q.bb, 0, none⟩)
def enH (ro w : Nat) : Option EnX → St
 | none => []
 | some q => [pt (some ⟨q.b, 0, none⟩) (EndO ro q.s 1 q.e), pt (some ⟨q.bb, 0, none⟩) (REndO w q.s 1 q.e)]
structure PlS where
 i : Nat
 m : Mm
 W : Nat → Wk
 A : Nat → Nat
 bs : Nat → Nat
 Y : Nat → Option Addr
 en : Option EnX
structure PlOk (x : Cn) (len : Nat) (p : PlS) : Prop where
 i : p.i ≤ len
 ag : Ag x p.m p.W p.i
 n : p.m.n ≤ 10 + p.i
 wk : ∀ j, j < 3 → (p.W j).a.done = false → EnA (p.W j).a ∧ p.A j < 2 ∧ ∃ b, p.Y j = some ⟨b, 0, none⟩
 en : ∀ q, p.en = some q → q.e.ok ∧ EndI q.e ∧ q.e.cnt ≤ p.i ∧ q.s < 2
abbrev plF (x : Cn) (n : Hn) (r r2 c c2 : Nat) (Q : Nat → Who) (gb sb gn xb yb : Nat) (m : Mm) (W : Nat → Wk) (A bs : Nat → Nat) (Y : Nat → Option Addr) (en : Option EnX) (G : St) : St :=
 pt (some ⟨n.a, 0, none⟩) (Blk 45 (grV x n (some ⟨r, 0, none⟩) (some ⟨r2, 0, none⟩) 3 c c2)) :: pt (some ⟨r, 0, none⟩) (Row 47 1 3 c (ptrs 3 fun i => (Q i).u)) :: pt (some ⟨r2, 0, none⟩) (Row 81 1 3 c2 (ptrs 3 fun i => (Q i).s)) ::
 pt (some ⟨n.mp, 0, none⟩) (MemO m) :: pt (some ⟨n.w, 0, none⟩) (RWO x n.rm n.rp n.rs n.re) :: pt (some ⟨n.rm, 0, none⟩) (RMemO m) :: pt (some ⟨n.rp, 0, none⟩) (RSkO n.rm x.pool) :: pt (some ⟨n.g, 0, none⟩) (GrO n.mp x) :: pt (some ⟨n.ro, 0, none⟩) (RoO n.mp n.sp x) ::
 pt (some ⟨gb, 0, none⟩) (Blk 24 [.int .i64 x.w, .int .i64 x.c, .int .i64 x.wd, .int .i64 x.sl, .int .i64 x.ca, .int .i64 x.ba]) :: pt (some ⟨sb, 0, none⟩) (Blk 71 [.int .i64 ((0 : Nat) : Int), .int .i64 ((1 : Nat) : Int)]) :: pt (some ⟨gn, 0, none⟩) (Blk 71 [.int .i64 ((1 : Nat) : Int), .int .i64 ((1 : Nat) : Int)]) ::
 pt (some ⟨xb, 0, none⟩) (Blk 59 (xvs W bs)) :: pt (some ⟨yb, 0, none⟩) (Blk 73 (yvs Y)) ::
 (many 3 (fun i => plW n.w n.g n.rp x n.mp (Q i) (W i) (A i) (bs i) (Y i)) ++ (enH n.ro n.w en ++ G))
abbrev plO (x : Cn) (n : Hn) (gb sb gn xb yb : Nat) (W : Nat → Wk) (bs : Nat → Nat) (Y : Nat → Option Addr) : St :=
 [pt (some ⟨n.rp, 0, none⟩) (RSkO n.rm x.pool), pt (some ⟨n.g, 0, none⟩) (GrO n.mp x), pt (some ⟨n.ro, 0, none⟩) (RoO n.mp n.sp x),
   pt (some ⟨gb, 0, none⟩) (Blk 24 [.int .i64 x.w, .int .i64 x.c, .int .i64 x.wd, .int .i64 x.sl, .int .i64 x.ca, .int .i64 x.ba]), pt (some ⟨sb, 0, none⟩) (Blk 71 [.int .i64 ((0 : Nat) : Int), .int .i64 ((1 : Nat) : Int)]), pt (some ⟨gn, 0, none⟩) (Blk 71 [.int .i64 ((1 : Nat) : Int), .int .i64 ((1 : Nat) : Int)]),
   pt (some ⟨xb, 0, none⟩) (Blk 59 (xvs W bs)), pt (some ⟨yb, 0, none⟩) (Blk 73 (yvs Y))]
theorem plSame {x : Cn} {n : Hn} {r r2 c c2 : Nat} {Q : Nat → Who} {gb sb gn xb yb : Nat} {m : Mm} {W : Nat → Wk} {A bs : Nat → Nat} {Y : Nat → Option Addr} {en : Option EnX} (hn : m.n ≤ 1000000000000) (hS : ∀ i, i < 3 → (W i).s.xs.length ≤ 1000000000) :
  Fx Tryz.prog 40 [.pointer (some ⟨n.a, 0, none⟩)] (plF x n r r2 c c2 Q gb sb gn xb yb m W A bs Y en G) (fun v L' => v = .bool true ∧ L' = plF x n r r2 c c2 Q gb sb gn xb yb m W A bs Y en G) := by
 have e : (fun i => smW n x (Q i) ((fun i => (W i).s) i) ((fun i => plR n.g n.rp x n.mp (Q i) (W i) (A i) (bs i) (Y i)) i)) = fun i => plW n.w n.g n.rp x n.mp (Q i) (W i) (A i) (bs i) (Y i) := rfl
 refine Fx.iso ?_ ?_ (sameM (x := x) (n := n) (r := r) (r2 := r2) (c := c) (c2 := c2) (Q := Q) (S := fun i => (W i).s) (R := fun i => plR n.g n.rp x n.mp (Q i) (W i) (A i) (bs i) (Y i)) (m := m)
  (G := plO x n gb sb gn xb yb W bs Y ++ (enH n.ro n.w en ++ G)) hn hS)
 ·dsimp only [plF, smF] at e ⊢
  rw [e]
  iterate 6 (refine Ent.cons ?_)
  show Ent (plO x n gb sb gn xb yb W bs Y ++ ((many 3 fun i => plW n.w n.g n.rp x n.mp (Q i) (W i) (A i) (bs i) (Y i)) ++ (enH n.ro n.w en ++ G))) _
  exact Ent.deep
 ·dsimp only [plF, smF] at e ⊢
  rw [e]
  iterate 6 (refine Ent.cons ?_)
  exact Ent.deep (M := plO x n gb sb gn xb yb W bs Y)
theorem Fx.opn {α : Type} {P : Program} {fn : FuncId} {vs : List Value} {f : α → St} {a : Option Addr} {R : Option Addr → As} {V : Value} (hR : R a = exs f) (x : Fx P fn vs L (fun v L' => v = V ∧ L' = pt a R :: F)) : Fx P fn vs L (fun v L' => v = V ∧ ∃ y, L' = f y ++ F) := by
 unfold Fx at *
 intro w0 w s
 refine (x w0 w s).mono fun en w' ⟨v', L', he, ⟨hv, hL⟩, hS⟩ => ?_
 subst hL
 obtain ⟨hh, H, hw⟩ := hS.heap
 unfold pt at H
 rw [hR] at H
 obtain ⟨y, hy⟩ := holds_ex.1 H
 exact ⟨v', f y ++ F, he, ⟨hv, y, rfl⟩, ⟨hS.os, hS.tape, hS.output, hS.size, hh, hy, hw⟩⟩
theorem Ag.root {x : Cn} {T : Nat} {m : Mm} {W : Nat → Wk} (h : Ag x m W T) : ∀ s, s < x.sl → (rtOf (m.at_ (x.root + s))).ok := by
 obtain ⟨P, R, h⟩ := h; exact h.root
theorem handS_len {s : AlS} (hl : s.g.done = false → s.g.l.length ≤ 1000000) : (handS s).length ≤ 1000000000 := by
 unfold handS
 split
 ·cases hd : s.g.done with
  | true => rw [handG_done hd]; exact Nat.zero_le _
  | false => rw [handG_on hd]; have := hl hd; omega
 ·split
  ·show 1 ≤ _; omega
  ·exact Nat.zero_le _
theorem updF_id {α : Type} (f : Nat → α) (i : Nat) : updF f i (f i) = f := by
 funext j; unfold updF; split
 ·rename_i h; rw [h]
 ·rfl
theorem updN_id (f : Nat → Nat) (i : Nat) : updN f i (f i) = f := by
 funext j; unfold updN; split
 ·rename_i h; rw [h]
 ·rfl
theorem Ag.gl {x : Cn} {T i : Nat} {m : Mm} {W : Nat → Wk} (h : Ag x m W T) (hx : x.ok) (hT : T ≤ 1000) (hi : i < 3) : (W i).a.g.done = false → (W i).a.g.l.length ≤ 1000000 := fun hg => by
 cases hd : (W i).a.done with
 | true => have := h.gd hi (.inl hd); rw [hg] at this; cases this
 | false =>
   by_cases h6 : (W i).a.at_ = 6
   ·exact ((h.mays hx hT hi hd).2.2.2.2.2.2.2.2.2.gv h6).2
   ·have := h.gd hi (.inr h6); rw [hg] at this; cases this
theorem Ag.tick1 {x : Cn} {T : Nat} {m : Mm} {W : Nat → Wk} (h : Ag x m W T) : Ag x m W (T + 1) := by
 obtain ⟨P, R, h⟩ := h
 exact ⟨P, R, h.other h.len h.ok h.root (fun _ _ => rfl)⟩
theorem pl_en {x : Cn} {n : Hn} {r r2 c c2 : Nat} {Q : Nat → Who} {gb sb gn xb yb : Nat} {m : Mm} {W : Nat → Wk} {A bs : Nat → Nat} {Y : Nat → Option Addr} {en : Option EnX} :
  Ent (plF x n r r2 c c2 Q gb sb gn xb yb m W A bs Y en G) (enH n.ro n.w en ++ plF x n r r2 c c2 Q gb sb gn xb yb m W A bs Y none G) := by
 refine Ent.trans (M := _) ?_ (Ent.deep (N := [_, _, _, _, _, _] ++ plO x n gb sb gn xb yb W bs Y) (M := enH n.ro n.w en))
 rotate_left
 dsimp only [plF]
 iterate 14 (refine Ent.cons ?_)
 exact Ent.deep
theorem pl_en_back {x : Cn} {n : Hn} {r r2 c c2 : Nat} {Q : Nat → Who} {gb sb gn xb yb : Nat} {m : Mm} {W : Nat → Wk} {A bs : Nat → Nat} {Y : Nat → Option Addr} {en : Option EnX} :
  Ent (enH n.ro n.w en ++ plF x n r r2 c c2 Q gb sb gn xb yb m W A bs Y none G) (plF x n r r2 c c2 Q gb sb gn xb yb m W A bs Y en G) := by
 refine Ent.trans (Ent.deep (N := enH n.ro n.w en) (M := [_, _, _, _, _, _] ++ plO x n gb sb gn xb yb W bs Y) (G := many 3 (fun i => plW n.w n.g n.rp x n.mp (Q i) (W i) (A i) (bs i) (Y i)) ++ G)) ?_
 iterate 14 (refine Ent.cons ?_)
 show Ent (enH n.ro n.w en ++ (many 3 (fun i => plW n.w n.g n.rp x n.mp (Q i) (W i) (A i) (bs i) (Y i)) ++ G)) _
 exact Ent.deep
theorem refEndStepO {b w rm rp rs re slot : Nat} {gen : Int} {x : Cn} {m : Mm} {e : EndS} {F1 F2 : St} (hx : x.ok) (hl : x.len ≤ m.ws.length) (hs : slot < x.sl) (he : e.ok) (hei : EndI e)
  [t1 : Take L (some ⟨b, 0, none⟩) (REndO w slot gen e) F1] [t2 : Take F1 (some ⟨rm, 0, none⟩) (RMemO m) F2] [t3 : Take F2 (some ⟨w, 0, none⟩) (RWO x rm rp rs re) G] :
  Fx Tryz.prog 33 [.pointer (some ⟨b, 0, none⟩)] L
   (fun v L' => v = .bool (!e.done) ∧ ∃ y, L' = rendL 77 w slot gen (endStep (x.root + slot) gen m e).1 (some ⟨b, 0, none⟩) y ++ pt (some ⟨rm, 0, none⟩) (RMemO (endStep (x.root + slot) gen m e).2) :: F2) :=
 Fx.opn (R := REndO w slot gen (endStep (x.root + slot) gen m e).1) rfl (refEndStep (rp := rp) (rs := rs) (re := re) hx hl hs he hei)
end
end Go.Proofs.YtflalhdofhobmaaGreat


namespace Go.Proofs.YtflalhdofhobmaaGreat
open Go
attribute [local irreducible] Sx Cx Rx Fx Krg Ksq Kbl Klp Kr
section
variable {L F G : St}
set_option maxRecDepth 100000 in
set_option maxHeartbeats 8000000 in
theorem grantPlays {w : World} {v : Value} {xs : List Int} (n : Int) (hv : In w 1 v xs.length (ints xs)) : Fx Tryz.prog 6 [.int .i64 n, v] [Old w] (fun v L' => v = .bool true ∧ Ent L' [Old w]) := by
 obtain ⟨hn, sa, scp, rfl, hRd⟩ := hv.rd
 have hmx : maxLen = 9223372036854775807 := rfl
 refine Fx.mk Tryz.func6 k6 nb_ ?_
 dsimp only [c6, envOf, Nat.reduceAdd]
 refine go ?_
 refine Sx.ca rfl grFirst ?_
 rintro v L' ⟨rfl, rfl⟩
 refine go ?_
 refine Cx.ifp rfl (fun h => ?_) (fun hlen2 => ?_)
 ·refine go ?_
  exact Kr.one (.inr rfl) rfl (Ent.refl _) ⟨rfl, Ent.refl _⟩
 refine go ?_
 refine Sx.ca rfl (config_ n) ?_
 rintro v L' ⟨⟨w', c, wd, sl, ca, ba, rfl, hsm⟩, rfl⟩
 obtain ⟨x, hxv, hx0, hca, hc8, hba, hw4, hw16, hsl4⟩ := small_cfg2 hsm
 rw [hxv]
 clear hxv hsm
 clear w' c wd sl ca ba
 refine Sx.al fun gb => ?_
 refine Sx.st (b := gb) rfl rfl rfl rfl rfl rfl ?_
 refine Sx.re [.int .i64 x.w, .int .i64 x.c, .int .i64 x.wd, .int .i64 x.sl, .int .i64 x.ca, .int .i64 x.ba] rfl ?_
 refine go ?_
 have hx2 : (⟨x.w, x.c, x.wd, 2, x.ca, x.ba⟩ : Cn).ok := by
  have hx1 := hx0.b
  unfold Cn.ok MayC at hx0 ⊢
  dsimp only
  omega
 refine Sx.ca (vs := [(⟨x.w, x.c, x.wd, 2, x.ca, x.ba⟩ : Cn).v]) rfl (grMade hx2) ?_
 obtain ⟨x2, hxe⟩ : ∃ x2 : Cn, x2 = ⟨x.w, x.c, x.wd, 2, x.ca, x.ba⟩ := ⟨_, rfl⟩
 rw [← hxe] at hx2 ⊢
 have h2 : x2.sl = 2 := by rw [hxe]
 have e1 : x2.w = x.w := by rw [hxe]
 have e2 : x2.c = x.c := by rw [hxe]
 have e3 : x2.wd = x.wd := by rw [hxe]
 have e5 : x2.ca = x.ca := by rw [hxe]
 have e6 : x2.ba = x.ba := by rw [hxe]
 clear hxe
 rintro v L' ⟨nn, r, r2, c, c2, Q, rfl, rfl⟩
 refine Sx.ent grF_out ?_
 refine Sx.re [.int .i64 x.w, .int .i64 x.c, .int .i64 x.wd, .int .i64 ((2 : Nat) : Int), .int .i64 x.ca, .int .i64 x.ba] rfl ?_
 rw [← e1, ← e2, ← e3, ← e5, ← e6, show ((2 : Nat) : Int) = (x2.sl : Int) by rw [h2]]
 rw [← e1] at hw4; rw [← e2] at hc8; rw [← e3] at hw16; rw [← e5] at hca; rw [← e6] at hba
 clear e1 e2 e3 e5 e6 hx0 hsl4
 have hx' := hx2
 have hlen := hx2.len_le
 obtain ⟨b1, b2, b3, b4, b5, b6, b7⟩ := hx'.b
 have hw8 := hx2.w8
 refine go ?_
 refine Sx.al fun sb => ?_
 refine Sx.al fun gnb => ?_
 refine go ?_
 clear hx'
 obtain ⟨q0, hq0⟩ : ∃ q0, q0 = IntKind.i64.wrap (IntKind.i64.wrap (Int.tdiv n 7) + ((0 : Nat) : Int)) := ⟨_, rfl⟩
 obtain ⟨q1, hq1⟩ : ∃ q1, q1 = IntKind.i64.wrap (IntKind.i64.wrap (Int.tdiv n 7) + ((1 : Nat) : Int)) := ⟨_, rfl⟩
 obtain ⟨M1, M2, hM1, hM2, hl1, ho1, hl2, ho2, hp0, hp1, hg0, hg1, hpl, h10, hrk, hn2⟩ := regions2 hx2 h2 (c0 := clQ q0) (c1 := clQ q1) (clQ_le _) (clQ_le _)
 have gr0 := grRegionQ (x := x2) (n := nn) (r := some ⟨r, 0, none⟩) (r2 := some ⟨r2, 0, none⟩) (k := 3) (c := c) (c2 := c2) (m := allM x2) (s := 0) (l := [((1 : Nat) : Int)])
  (G := pt (some ⟨gb, 0, none⟩) (Blk 24 [.int .i64 x2.w, .int .i64 x2.c, .int .i64 x2.wd, .int .i64 x2.sl, .int .i64 x2.ca, .int .i64 x2.ba]) :: pt (some ⟨sb, 0, none⟩) (Blk 71 [.int .i64 0, .int .i64 0]) :: pt (some ⟨gnb, 0, none⟩) (Blk 71 [.int .i64 0, .int .i64 0]) ::
   pt (some ⟨r, 0, none⟩) (Row 47 1 3 c (ptrs 3 fun i => (Q i).u)) :: pt (some ⟨r2, 0, none⟩) (Row 81 1 3 c2 (ptrs 3 fun i => (Q i).s)) ::
   pt (some ⟨nn.g, 0, none⟩) (GrO nn.mp x2) :: pt (some ⟨nn.rp, 0, none⟩) (RSkO nn.rm x2.pool) :: pt (some ⟨nn.pb, 0, none⟩) (SkO nn.mp x2.pool) :: pt (some ⟨nn.re, 0, none⟩) (REpO x2 nn.rm) :: (many 3 (fun i => whoL nn.mp nn.w x2 (Q i) (SupS.nil x2.ca) (SupS.nil x2.ca)) ++ [Old w])) q0 rfl hx2 (allM_len x2) (allM_ok hx2) hp0
 rw [hM1, hg0] at gr0
 have gr1 := grRegionQ (x := x2) (n := nn) (r := some ⟨r, 0, none⟩) (r2 := some ⟨r2, 0, none⟩) (k := 3) (c := c) (c2 := c2) (m := M1) (s := 1) (l := [])
  (G := pt (some ⟨gb, 0, none⟩) (Blk 24 [.int .i64 x2.w, .int .i64 x2.c, .int .i64 x2.wd, .int .i64 x2.sl, .int .i64 x2.ca, .int .i64 x2.ba]) :: pt (some ⟨sb, 0, none⟩) (Blk 71 [.int .i64 ((0 : Nat) : Int), .int .i64 0]) :: pt (some ⟨gnb, 0, none⟩) (Blk 71 [.int .i64 ((1 : Nat) : Int), .int .i64 0]) ::
   pt (some ⟨r, 0, none⟩) (Row 47 1 3 c (ptrs 3 fun i => (Q i).u)) :: pt (some ⟨r2, 0, none⟩) (Row 81 1 3 c2 (ptrs 3 fun i => (Q i).s)) ::
   pt (some ⟨nn.g, 0, none⟩) (GrO nn.mp x2) :: pt (some ⟨nn.rp, 0, none⟩) (RSkO nn.rm x2.pool) :: pt (some ⟨nn.pb, 0, none⟩) (SkO nn.mp x2.pool) :: pt (some ⟨nn.re, 0, none⟩) (REpO x2 nn.rm) :: (many 3 (fun i => whoL nn.mp nn.w x2 (Q i) (SupS.nil x2.ca) (SupS.nil x2.ca)) ++ [Old w])) q1 rfl hx2 hl1 ho1 hp1
 rw [hM2, hg1] at gr1
 obtain ⟨MS, hMS⟩ : ∃ MS : Nat → Mm, MS = fun j => if j = 0 then allM x2 else if j = 1 then M1 else M2 := ⟨_, rfl⟩
 have hMS0 : MS 0 = allM x2 := by rw [hMS]; rfl
 have hMS1 : MS 1 = M1 := by rw [hMS]; rfl
 have hMS2 : MS 2 = M2 := by rw [hMS]; rfl
 clear hMS
 refine Cx.lp (α := {j : Nat // j ≤ 2})
  (fun j => [(0, .int .i64 n), (1, .slice sa xs.length scp), (5, .bool true), (6, .pointer (some ⟨gb, 0, none⟩)), (7, .pointer (some ⟨nn.a, 0, none⟩)), (8, .pointer (some ⟨sb, 0, none⟩)), (9, .pointer (some ⟨gnb, 0, none⟩)), (10, .int .i64 (j.1 : Nat))])
  (fun j => pt (some ⟨gb, 0, none⟩) (Blk 24 [.int .i64 x2.w, .int .i64 x2.c, .int .i64 x2.wd, .int .i64 x2.sl, .int .i64 x2.ca, .int .i64 x2.ba]) ::
   pt (some ⟨sb, 0, none⟩) (Blk 71 [.int .i64 0, .int .i64 (if j.1 = 2 then 1 else 0)]) :: pt (some ⟨gnb, 0, none⟩) (Blk 71 [.int .i64 (if 1 ≤ j.1 then 1 else 0), .int .i64 (if j.1 = 2 then 1 else 0)]) ::
   grF x2 nn (some ⟨r, 0, none⟩) (some ⟨r2, 0, none⟩) 3 c c2 Q (fun _ => SupS.nil x2.ca) (fun _ => SupS.nil x2.ca) (MS j.1) (MS j.1) [Old w])
  (fun j => 2 - j.1) ⟨0, Nat.zero_le _⟩ (sub.cons rfl (sub.cons rfl (sub.cons rfl (sub.cons rfl (sub.cons rfl (sub.cons rfl (sub.cons rfl (sub.cons rfl sub.nil)))))))) (by dsimp only [grF]; rw [hMS0]; exact entm) ?_
 rintro ⟨j, hj⟩
 dsimp only [grF] at hj ⊢
 refine go ?_
 refine Cx.ifp rfl (fun h => ?_) (fun h => ?_)
 ·rcases (show j = 0 ∨ j = 1 by omega) with rfl | rfl
  ·rw [hMS0]
   refine go ?_
   refine Sx.pv rfl (by omega) ?_
   refine go ?_
   rw [← hq0]
   refine Sx.ent (by dsimp only [rgF]; exact entm) (Sx.ca rfl gr0 ?_)
   rintro v L' ⟨rfl, rfl⟩
   dsimp only [rgF]
   refine go ?_
   refine gg ?_
   rw [w64 (n := ((0 : Nat) : Int) + 1) (by omega) (by omega)]
   refine Klp.nm ⟨1, by omega⟩ (sub.cons rfl (sub.cons rfl (sub.cons rfl (sub.cons rfl (sub.cons rfl (sub.cons rfl (sub.cons rfl (sub.cons rfl sub.nil)))))))) ?_ (by dsimp only; omega)
   dsimp only
   rw [hMS1]
   exact entm
  ·rw [hMS1]
   refine go ?_
   refine Sx.pv rfl (by omega) ?_
   refine go ?_
   rw [← hq1]
   refine Sx.ent (by dsimp only [rgF]; exact entm) (Sx.ca rfl gr1 ?_)
   rintro v L' ⟨rfl, rfl⟩
   dsimp only [rgF]
   refine go ?_
   refine gg ?_
   rw [w64 (n := ((1 : Nat) : Int) + 1) (by omega) (by omega)]
   refine Klp.nm ⟨2, by omega⟩ (sub.cons rfl (sub.cons rfl (sub.cons rfl (sub.cons rfl (sub.cons rfl (sub.cons rfl (sub.cons rfl (sub.cons rfl sub.nil)))))))) ?_ (by dsimp only; omega)
   dsimp only
   rw [hMS2]
   exact entm
 ·obtain rfl : j = 2 := by omega
  rw [hMS2]
  refine go ?_
  refine Sx.al fun xb => ?_
  refine go ?_
  refine Sx.al fun yb => ?_
  refine go ?_
  have hA0 := Ag.fst0 (ca := x2.ca) hx2 (by omega) hl2 ho2 hpl hrk h10
  refine Cx.lp (α := {p : PlS // PlOk x2 xs.length p})
   (fun p => [(1, .slice sa xs.length scp), (5, .bool true), (6, .pointer (some ⟨gb, 0, none⟩)), (7, .pointer (some ⟨nn.a, 0, none⟩)), (8, .pointer (some ⟨sb, 0, none⟩)), (9, .pointer (some ⟨gnb, 0, none⟩)), (14, .pointer (some ⟨xb, 0, none⟩)), (15, .pointer (some ⟨yb, 0, none⟩)), (16, enP p.1.en), (17, enQ p.1.en), (18, .int .i64 (p.1.i : Nat))])
   (fun p => plF x2 nn r r2 c c2 Q gb sb gnb xb yb p.1.m p.1.W p.1.A p.1.bs p.1.Y p.1.en [Old w])
   (fun p => xs.length - p.1.i) ⟨⟨0, M2, (fun _ => ⟨SupS.nil x2.ca, aIdle, 1⟩), (fun _ => 0), (fun _ => 0), (fun _ => none), none⟩, ⟨Nat.zero_le _, hA0, (by dsimp only; omega), (fun _ _ h => by cases h), (fun _ h => by cases h)⟩⟩ (sub.cons rfl (sub.cons rfl (sub.cons rfl (sub.cons rfl (sub.cons rfl (sub.cons rfl (sub.cons rfl (sub.cons rfl (sub.cons rfl (sub.cons rfl (sub.cons rfl sub.nil))))))))))) ?_ ?_
  ·dsimp only [plF, rgF]
   have hm1 : Ent (many 3 (fun i => whoL nn.mp nn.w x2 (Q i) (SupS.nil x2.ca) (SupS.nil x2.ca)) ++ [Old w]) (many 3 (fun i => plW nn.w nn.g nn.rp x2 nn.mp (Q i) ⟨SupS.nil x2.ca, aIdle, 1⟩ 0 0 none) ++ ([] ++ [Old w])) := many_ent fun i _ G => Ent.cons (Ent.swap)
   repeat (first | exact hm1 | (refine Ent.take1 ?_) | (refine Ent.trans Ent.drop ?_))
  rintro ⟨⟨i, m, W, A, bs, Y, en⟩, ⟨hi, hA, hn, hwk, hen⟩⟩
  dsimp only [plF] at hi hA hn hwk hen ⊢
  refine go ?_
  refine Cx.ifp rfl (fun h => ?_) (fun h => ?_)
  ·have hik : i < xs.length := by omega
   have hg : (ints xs)[i]? = some (.int .i64 xs[i]) := by simp [ints]
   obtain ⟨b0, o, rfl, _⟩ := (hRd [Old w] (Ent.refl _)).at1_ hg
   have hat : ∀ L, Ent L [Old w] → Has L b0 (o + i * 1) [.int .i64 xs[i]] := fun L hL => by
    obtain ⟨_, _, e, h⟩ := (hRd L hL).at1_ hg
    simp only [Option.some.injEq, Addr.mk.injEq, and_true] at e
    obtain ⟨rfl, rfl⟩ := e
    simpa using h
   refine go ?_
   refine Cx.ordc rfl kr_ ?_
   refine ge ?_
   refine Ev.ldH kr_ rfl rfl (hat _ (by exact entm)) rfl ?_
   refine ge ?_
   refine Ev.cakH kr_ rfl rfl (number xs[i] 13 (by omega) (by omega)) ?_
   refine ge ?_
   refine Ev.ldH kr_ rfl rfl (hat _ (by exact entm)) rfl ?_
   refine ge ?_
   refine Ev.cakH kr_ rfl rfl (number (IntKind.i64.wrap (Int.tdiv xs[i] 13)) 60 (by omega) (by omega)) ?_
   refine ge ?_
   obtain ⟨D, hD⟩ : ∃ D, IntKind.i64.wrap (Int.tdiv xs[i] 13) % 60 = D := ⟨_, rfl⟩
   have hz1 := Int.emod_nonneg (IntKind.i64.wrap (Int.tdiv xs[i] 13)) (show (60 : Int) ≠ 0 by omega)
   have hz2 := Int.emod_lt_of_pos (IntKind.i64.wrap (Int.tdiv xs[i] 13)) (show (0 : Int) < 60 by omega)
   rw [hD] at hz1 hz2 ⊢
   obtain ⟨v, rfl⟩ : ∃ v : Nat, D = v := ⟨D.toNat, by omega⟩
   have hz3 := Int.emod_nonneg xs[i] (show (13 : Int) ≠ 0 by omega)
   have hz4 := Int.emod_lt_of_pos xs[i] (show (0 : Int) < 13 by omega)
   obtain ⟨who, hwho, hw3⟩ : ∃ who : Nat, IntKind.i64.wrap (Int.tdiv (xs[i] % 13) 4) = who ∧ who ≤ 3 := by
    rw [Int.tdiv_eq_ediv_of_nonneg hz3, w64 (by omega) (by omega)]
    exact ⟨(xs[i] % 13 / 4).toNat, by omega, by omega⟩
   rw [hwho]
   refine go ?_
   by_cases hw : who = 3
   ·subst hw
    refine go ?_
    cases en with
    | some q =>
      obtain ⟨k1, k2, k3, k4⟩ := hen q rfl
      obtain ⟨qb, qbb, qe, qs⟩ := q
      dsimp only at k1 k2 k3 k4
      dsimp only [enP, enQ]
      have hml := hA.mlen
      have hmo := hA.mok
      have hmr := hA.root qs (by omega)
      obtain ⟨hA', k2'⟩ := hA.end_ (slot := qs) (gen := 1) hx2 (by omega) k2
      have hen' := endStep_ok (a := x2.root + qs) (gen := 1) (m := m) (e := qe) hmo hmr.m k1 (by omega)
      have hnn := endStep_n (x2.root + qs) 1 m qe
      obtain ⟨⟨e', m'⟩, hR⟩ : ∃ R, endStep (x2.root + qs) 1 m qe = R := ⟨_, rfl⟩
      rw [hR] at hA' k2' hen' hnn
      dsimp only at hA' k2' hen' hnn
      refine go ?_
      refine Cx.ent (pl_en (n := nn) (en := some ⟨qb, qbb, qe, qs⟩)) ?_
      dsimp only [plF, enH, List.cons_append, List.nil_append]
      refine Cx.ordc rfl kr_ ?_
      refine ge ?_
      refine Ev.bring 1 rfl ?_
      refine ge ?_
      refine Ev.caH kr_ rfl rfl (endStepC (b := qb) (r := nn.ro) (mp := nn.mp) (sp := nn.sp) (slot := qs) (gen := 1) (x := x2) (m := m) (e := qe) hx2 (by omega) (by omega) k1) (Pres.deps kr_) ?_
      rw [hR]
      rintro v' L' ⟨rfl, rfl⟩
      refine ge ?_
      refine Ev.caH kr_ rfl rfl (refEndStepO (b := qbb) (w := nn.w) (rm := nn.rm) (rp := nn.rp) (rs := nn.rs) (re := nn.re) (slot := qs) (gen := 1) (x := x2) (m := m) (e := qe) hx2 (by omega) (by omega) k1 k2) (Pres.deps kr_) ?_
      rw [hR]
      rintro v' L' ⟨rfl, y, rfl⟩
      simp only [rendL, List.cons_append, List.nil_append]
      refine ge ?_
      refine Ev.no 119 rfl (by simp) ?_
      refine ge ?_
      refine Ev.cakH kr_ rfl rfl (endDone (b := qb) (r := nn.ro) (slot := qs) (gen := 1) (e := e') hen'.1.a) ?_
      refine ge ?_
      refine Cx.cno rfl (by simp) ?_
      refine Cx.liftp fun hy => ?_
      refine go ?_
      refine Sx.ent (M := plF x2 nn r r2 c c2 Q gb sb gnb xb yb m' W A bs Y (some ⟨qb, qbb, e', qs⟩) [Old w]) ?_ (Sx.ca rfl (plSame (by omega) (fun j hj => by have := hA.xsle hx2 hj; omega)) ?_)
      ·refine Ent.trans ?_ (pl_en_back (en := some ⟨qb, qbb, e', qs⟩))
       dsimp only [plF, enH, List.cons_append, List.nil_append]
       refine Ent.trans (Ent.trans (Ent.take (a := some ⟨qbb, 0, none⟩)) (REndO.close (w := nn.w) (slot := qs) (gen := 1) e' hy rfl rfl rfl rfl rfl rfl)) ?_
       exact entm
      rintro v' L' ⟨rfl, rfl⟩
      refine go ?_
      rw [w64 (n := (i : Int) + 1) (by omega) (by omega)]
      refine Klp.nm ⟨⟨i + 1, m', W, A, bs, Y, some ⟨qb, qbb, e', qs⟩⟩, ⟨(by dsimp only; omega), hA', (by dsimp only; omega), hwk, fun q hq => ?_⟩⟩ (sub.cons rfl (sub.cons rfl (sub.cons rfl (sub.cons rfl (sub.cons rfl (sub.cons rfl (sub.cons rfl (sub.cons rfl (sub.cons rfl (sub.cons rfl (sub.cons rfl sub.nil))))))))))) (Ent.refl _) (by dsimp only; omega)
      cases hq
      exact ⟨hen'.1, k2', by dsimp only; omega, k4⟩
    | none =>
      dsimp only [enP, enQ]
      have hv2 : Int.tmod (v : Int) 2 = ((v % 2 : Nat) : Int) := rfl
      obtain ⟨k, hk, hk2⟩ : ∃ k, v % 2 = k ∧ k < 2 := ⟨_, rfl, by omega⟩
      rw [hk] at hv2
      have hsl : [(Value.int .i64 ((0 : Nat) : Int)), .int .i64 ((1 : Nat) : Int)][0 + (k : Int).toNat * 1]? = some (.int .i64 (k : Nat)) := by
       rcases (show k = 0 ∨ k = 1 by omega) with rfl | rfl <;> rfl
      have hgn : [(Value.int .i64 ((1 : Nat) : Int)), .int .i64 ((1 : Nat) : Int)][0 + (k : Int).toNat * 1]? = some (.int .i64 ((1 : Nat) : Int)) := by
       rcases (show k = 0 ∨ k = 1 by omega) with rfl | rfl <;> rfl
      refine go ?_
      by_cases hv8 : v < 8
      ·rw [decide_eq_true (show (v : Int) < 8 by omega)]
       refine go ?_
       refine Cx.ordc rfl kr_ ?_
       refine ge ?_
       rw [hv2]
       refine Ev.ldbH (b := sb) kr_ rfl rfl hsl ?_
       refine ge ?_
       rw [hv2]
       refine Ev.ldbH (b := gnb) kr_ rfl rfl hgn ?_
       refine ge ?_
       refine Ev.caH kr_ rfl rfl (rootsEnd (g := nn.ro) (mp := nn.mp) (sb := nn.sp) (x := x2) k ((1 : Nat) : Int) (by omega)) (Pres.deps kr_) ?_
       rintro v' L' ⟨qb, rfl, rfl⟩
       refine ge ?_
       refine go ?_
       refine Cx.orde rfl kr_ ?_
       refine ge ?_
       rw [hv2]
       refine Ev.ldbH (b := sb) kr_ rfl rfl hsl ?_
       refine ge ?_
       rw [hv2]
       refine Ev.ldbH (b := gnb) kr_ rfl rfl hgn ?_
       refine ge ?_
       refine Ev.caH kr_ rfl rfl (refEndNew (w := nn.w) k ((1 : Nat) : Int)) (Pres.deps kr_) ?_
       rintro v' L' ⟨qbb, rfl, rfl⟩
       refine ge ?_
       refine go ?_
       refine Sx.ent (M := plF x2 nn r r2 c c2 Q gb sb gnb xb yb m W A bs Y (some ⟨qb, qbb, EndS.init, k⟩) [Old w]) ?_ (Sx.ca rfl (plSame (by omega) (fun j hj => by have := hA.xsle hx2 hj; omega)) ?_)
       ·refine Ent.trans ?_ (pl_en_back (en := some ⟨qb, qbb, EndS.init, k⟩))
        dsimp only [plF, enH, List.cons_append, List.nil_append]
        exact entm
       rintro v' L' ⟨rfl, rfl⟩
       refine go ?_
       rw [w64 (n := (i : Int) + 1) (by omega) (by omega)]
       refine Klp.nm ⟨⟨i + 1, m, W, A, bs, Y, some ⟨qb, qbb, EndS.init, k⟩⟩, ⟨(by dsimp only; omega), hA.tick1, (by dsimp only; omega), hwk, fun q hq => ?_⟩⟩ (sub.cons rfl (sub.cons rfl (sub.cons rfl (sub.cons rfl (sub.cons rfl (sub.cons rfl (sub.cons rfl (sub.cons rfl (sub.cons rfl (sub.cons rfl (sub.cons rfl sub.nil))))))))))) (Ent.refl _) (by dsimp only; omega)
       cases hq
       exact ⟨EndS.ok_init, EndI.init, Nat.zero_le _, hk2⟩
      ·rw [decide_eq_false (show ¬ (v : Int) < 8 by omega)]
       refine go ?_
       rw [w64 (n := (i : Int) + 1) (by omega) (by omega)]
       exact Klp.nm ⟨⟨i + 1, m, W, A, bs, Y, none⟩, ⟨(by dsimp only; omega), hA.tick1, (by dsimp only; omega), hwk, fun q hq => by cases hq⟩⟩ (sub.cons rfl (sub.cons rfl (sub.cons rfl (sub.cons rfl (sub.cons rfl (sub.cons rfl (sub.cons rfl (sub.cons rfl (sub.cons rfl (sub.cons rfl (sub.cons rfl sub.nil))))))))))) (Ent.refl _) (by dsimp only; omega)
   ·have hw3 : who < 3 := by omega
    have hw3' : ¬ (who : Int) = 3 := by omega
    rw [decide_eq_false hw3']
    refine go ?_
    rw [decide_eq_false hw3']
    refine go ?_
    rw [decide_eq_false hw3']
    refine go ?_
    refine Sx.ent (Ent.ith who hw3) ?_
    have hpu : (ptrs 3 fun i => (Q i).u)[0 + (who : Int).toNat * 1]? = some (.pointer (some ⟨(Q who).u, 0, none⟩)) := by
     rw [show 0 + (who : Int).toNat * 1 = who by omega]; exact ptrs_get hw3
    have hps : (ptrs 3 fun i => (Q i).s)[0 + (who : Int).toNat * 1]? = some (.pointer (some ⟨(Q who).s, 0, none⟩)) := by
     rw [show 0 + (who : Int).toNat * 1 = who by omega]; exact ptrs_get hw3
    cases hd : (W who).a.done with
    | true =>
      have hxv : (xvs W bs)[0 + (who : Int).toNat * 1]? = some (.pointer none) := by rw [xvs_get hw3, hd]; rfl
      have hv2 : Int.tmod (v : Int) 2 = ((v % 2 : Nat) : Int) := rfl
      obtain ⟨k, hk, hk2⟩ : ∃ k, v % 2 = k ∧ k < 2 := ⟨_, rfl, by omega⟩
      rw [hk] at hv2
      have hsl : [(Value.int .i64 ((0 : Nat) : Int)), .int .i64 ((1 : Nat) : Int)][0 + (k : Int).toNat * 1]? = some (.int .i64 (k : Nat)) := by
       rcases (show k = 0 ∨ k = 1 by omega) with rfl | rfl <;> rfl
      have hgn : [(Value.int .i64 ((1 : Nat) : Int)), .int .i64 ((1 : Nat) : Int)][0 + (k : Int).toNat * 1]? = some (.int .i64 ((1 : Nat) : Int)) := by
       rcases (show k = 0 ∨ k = 1 by omega) with rfl | rfl <;> rfl
      simp only [plW, plR, hd, if_true, List.cons_append, List.nil_append]
      refine gg ?_
      refine Sx.ldb rfl hxv ?_
      refine go ?_
      refine Sx.pv rfl (by omega) ?_
      refine go ?_
      refine Sx.pv rfl (by omega) ?_
      refine go ?_
      obtain ⟨sz, hsz, hs1, hs2⟩ : ∃ sz : Nat, IntKind.i64.wrap (1 + Int.tmod (IntKind.i64.wrap (Int.tdiv (v : Int) 2)) (x2.wd : Int)) = sz ∧ 1 ≤ sz ∧ sz ≤ x2.wd := by
       have e1 : Int.tdiv (v : Int) 2 = ((v / 2 : Nat) : Int) := rfl
       rw [e1, w64 (n := ((v / 2 : Nat) : Int)) (by omega) (by omega)]
       have e2 : Int.tmod ((v / 2 : Nat) : Int) (x2.wd : Int) = ((v / 2 % x2.wd : Nat) : Int) := rfl
       have e3 := Nat.mod_lt (v / 2) (show 0 < x2.wd by omega)
       rw [e2, w64 (by omega) (by omega)]
       exact ⟨1 + v / 2 % x2.wd, by push_cast; rfl, by omega, by omega⟩
      rw [hsz]
      refine Cx.ordc rfl kr_ ?_
      refine ge ?_
      refine Ev.ldrH (b := r) kr_ rfl rfl hpu ?_
      refine ge ?_
      rw [hv2]
      refine Ev.ldbH (b := sb) kr_ rfl rfl hsl ?_
      refine ge ?_
      rw [hv2]
      refine Ev.ldbH (b := gnb) kr_ rfl rfl hgn ?_
      refine ge ?_
      refine Ev.caH kr_ rfl rfl (grantAlloc (g := nn.g) (u := (Q who).u) (mp := nn.mp) (pb := (Q who).pb) (x := x2) k ((1 : Nat) : Int) sz (by omega) (by omega) (by omega)) (Pres.deps kr_) ?_
      rintro v' L' ⟨b, rfl, rfl⟩
      refine ge ?_
      refine go ?_
      refine Sx.ca rfl (alDoneQ (b := b) (g := nn.g) (u := (Q who).u) (pb := (Q who).pb) (x := x2) (slot := k) (gen := ((1 : Nat) : Int)) (n := sz) (s := AlS.init) (fun _ => Nat.zero_le _)) ?_
      rintro v' L' ⟨rfl, rfl⟩
      refine go ?_
      refine Cx.orde rfl kr_ ?_
      refine ge ?_
      refine Ev.ldrH (b := r2) kr_ rfl rfl hps ?_
      refine ge ?_
      rw [hv2]
      refine Ev.ldbH (b := sb) kr_ rfl rfl hsl ?_
      refine ge ?_
      rw [hv2]
      refine Ev.ldbH (b := gnb) kr_ rfl rfl hgn ?_
      refine ge ?_
      refine Ev.bring 1 rfl ?_
      refine ge ?_
      refine Ev.caH kr_ rfl rfl (refSupAlloc (sa := (Q who).s) (rp := nn.rp) k ((1 : Nat) : Int) sz) (Pres.deps kr_) ?_
      rintro v' L' ⟨bb, rfl, rfl⟩
      refine ge ?_
      refine Ev.stbH (b := xb) kr_ rfl rfl rfl rfl rfl (xvs_blt hw3) (xvs_set (W := W) (bs := bs) (b := b) (w := ⟨(W who).s, AlS.init, sz⟩) hw3) (Pres.deps kr_) ?_
      refine ge ?_
      refine Ev.stbH (b := yb) kr_ rfl rfl rfl rfl rfl (yvs_blt hw3) (yvs_set (Y := Y) (o := some ⟨bb, 0, none⟩) hw3) (Pres.deps kr_) ?_
      refine ge ?_
      refine go ?_
      have e6 : RAgO (Q who).s nn.rp k 1 sz AlS.init = RAlO (Q who).s nn.rp k 1 sz AlS.init := RAgO.fun_ (by show 0 ≠ 6; omega)
      have hb := pl_back (w0 := nn.w) (g := nn.g) (rp := nn.rp) (x := x2) (mp := nn.mp) (Q := Q) (W := W) (A := A) (bs := bs) (Y := Y) (i := who) (sl := k) (b := b) (w := ⟨(W who).s, AlS.init, sz⟩) (y := some ⟨bb, 0, none⟩)
       (s := [pt (some ⟨(Q who).u, 0, none⟩) (SupO nn.mp (Q who).pb x2 (W who).s), pt (some ⟨(Q who).s, 0, none⟩) (RSupO nn.w (W who).s), pt (some ⟨(Q who).pb, 0, none⟩) (SkO nn.mp x2.pool), pt (some ⟨b, 0, none⟩) (AlO nn.g (Q who).u (Q who).pb x2 k 1 sz AlS.init), pt (some ⟨bb, 0, none⟩) (RAlO (Q who).s nn.rp k 1 sz AlS.init)]) (G := enH nn.ro nn.w en ++ [Old w]) hw3 (fun G => by
        show Ent _ (pt (some ⟨(Q who).u, 0, none⟩) (SupO nn.mp (Q who).pb x2 (W who).s) :: pt (some ⟨(Q who).s, 0, none⟩) (RSupO nn.w (W who).s) :: pt (some ⟨(Q who).pb, 0, none⟩) (SkO nn.mp x2.pool) :: pt (some ⟨b, 0, none⟩) (AlO nn.g (Q who).u (Q who).pb x2 k 1 sz AlS.init) :: pt (some ⟨bb, 0, none⟩) (RAgO (Q who).s nn.rp k 1 sz AlS.init) :: G)
        rw [e6]
        exact Ent.refl _)
      have hb2 : ∀ L, Ent L _ → Ent L _ := fun L h => Ent.trans h hb
      refine Sx.ent (M := plF x2 nn r r2 c c2 Q gb sb gnb xb yb m (updW W who ⟨(W who).s, AlS.init, sz⟩) (updF A who k) (updN bs who b) (updF Y who (some ⟨bb, 0, none⟩)) en [Old w]) ?_ (Sx.ca rfl (plSame (by omega) (fun j hj => ?_)) ?_)
      ·dsimp only [plF]
       iterate 14 (refine Ent.take1 ?_)
       refine hb2 _ ?_
       exact entm
      ·have := hA.xsle hx2 hj
       unfold updW
       split
       ·rename_i hj2; subst hj2; dsimp only; omega
       ·omega
      rintro v' L' ⟨rfl, rfl⟩
      refine go ?_
      rw [w64 (n := (i : Int) + 1) (by omega) (by omega)]
      refine Klp.nm ⟨⟨i + 1, m, updW W who ⟨(W who).s, AlS.init, sz⟩, updF A who k, updN bs who b, updF Y who (some ⟨bb, 0, none⟩), en⟩, ⟨(by dsimp only; omega), hA.bgn hw3 hd hs1 hs2, (by dsimp only; omega), fun j hj hjd => ?_, fun q hq => ?_⟩⟩ (sub.cons rfl (sub.cons rfl (sub.cons rfl (sub.cons rfl (sub.cons rfl (sub.cons rfl (sub.cons rfl (sub.cons rfl (sub.cons rfl (sub.cons rfl (sub.cons rfl sub.nil))))))))))) (Ent.refl _) (by dsimp only; omega)
      ·dsimp only [updW, updF] at hjd ⊢
       split
       ·exact ⟨rfl, hk2, bb, rfl⟩
       ·rename_i hj2; rw [if_neg hj2] at hjd; exact hwk j hj hjd
      ·have := hen q hq
       exact ⟨this.1, this.2.1, by dsimp only; omega, this.2.2.2⟩
    | false =>
      obtain ⟨hEn, hAw, bb, hY⟩ := hwk who hw3 hd
      have hxv : (xvs W bs)[0 + (who : Int).toNat * 1]? = some (.pointer (some ⟨bs who, 0, none⟩)) := by rw [xvs_get hw3, hd]; rfl
      have hyv : (yvs Y)[0 + (who : Int).toNat * 1]? = some (.pointer (some ⟨bb, 0, none⟩)) := by rw [yvs_get hw3, hY]
      simp only [plW, plR, hd, Bool.false_eq_true, if_false, List.cons_append, List.nil_append]
      rw [hY]
      obtain ⟨g1, g2, g3, g4, g5, g6, g7, g8, g9, g10⟩ := hA.mays hx2 (by omega) hw3 hd
      have hgo := hA.steps (slot := A who) (gen := 1) hx2 (by omega) (by omega) hw8 hw3 hd
      have hd6 := alStep_done (p := x2.al (A who) 1 (W who).n) (m := m) (s := (W who).s) (hA.at6 hw3) hd
      have he6 := alStep_en (p := x2.al (A who) 1 (W who).n) (m := m) (s := (W who).s) (hA.at6 hw3) hd hEn
      have hnn := alStep_n (x2.al (A who) 1 (W who).n) m (W who).s (W who).a
      refine gg ?_
      refine Sx.ldb rfl hxv ?_
      refine go ?_
      refine Cx.ordc rfl kr_ ?_
      refine ge ?_
      refine Ev.ldbH (b := xb) kr_ rfl rfl hxv ?_
      refine ge ?_
      iterate 2 (refine Ev.bring 1 rfl ?_; refine ge ?_)
      refine Ev.bring 1 rfl ?_
      refine Ev.ldbH (b := yb) kr_ rfl rfl hyv ?_
      refine ge ?_
      refine Ev.caH kr_ rfl rfl (alStepC (b := bs who) (g := nn.g) (u := (Q who).u) (mp := nn.mp) (pb := (Q who).pb) (x := x2) (slot := A who) (gen := 1) (n := (W who).n) (S := (W who).s) (m := m) (a := (W who).a) hx2 (by omega) (by omega) g1 g2 hw8 (g5 _ (by omega)) (by omega) g7 g8 (fun _ => g9)) (.keep (fun v L' ⟨_, e⟩ => by subst e; exact Has.cell hyv) (.dep rfl .nil)) ?_
      rintro v' L' ⟨rfl, rfl⟩
      refine ge ?_
      refine Ev.caH kr_ rfl rfl (refAgStep (b := bb) (sa := (Q who).s) (w := nn.w) (rm := nn.rm) (rp := nn.rp) (rs := nn.rs) (re := nn.re) (slot := A who) (gen := 1) (n := (W who).n) (x := x2) (S := (W who).s) (m := m) (a := (W who).a) hx2 (by omega) (by omega) g1 g2 hw8 (g5 _ (by omega)) (by omega) g7 g8 (fun _ => g9) (fun _ => g10) (fun h => by rw [hd] at h; cases h)) (Pres.deps kr_) ?_
      rintro v' L' ⟨rfl, rfl⟩
      obtain ⟨⟨m', S', a'⟩, hR3⟩ : ∃ R3, alStep (x2.al (A who) 1 (W who).n) m (W who).s (W who).a = R3 := ⟨_, rfl⟩
      rw [hR3] at hgo hd6 he6 hnn ⊢
      dsimp only at hgo hd6 he6 hnn ⊢
      have ha6 := hgo.at6 hw3
      have hgl := hgo.gl hx2 (by omega) hw3
      rw [updW_at] at ha6 hgl
      dsimp only at ha6 hgl
      refine ge ?_
      refine Ev.no 89 rfl (by simp) ?_
      refine ge ?_
      refine Ev.ldbH (b := xb) kr_ rfl rfl hxv ?_
      refine ge ?_
      refine Ev.ldbH (b := yb) kr_ rfl rfl hyv ?_
      refine ge ?_
      refine Ev.caH kr_ rfl rfl (alikeC (b := bs who) (bb := bb) (sa := (Q who).s) (rp := nn.rp) (g := nn.g) (u := (Q who).u) (pb := (Q who).pb) (x := x2) (slot := A who) (gen := 1) (n := (W who).n) (s := a') (fun _ => ha6) he6 hd6 hgl (handS_len hgl)) (Pres.deps kr_) ?_
      rintro v' L' ⟨rfl, rfl⟩
      refine ge ?_
      refine go ?_
      refine gg ?_
      refine Sx.ldb rfl hyv ?_
      refine go ?_
      refine Sx.ent (Ent.take (a := some ⟨bb, 0, none⟩)) ?_
      refine Sx.rag (b := bb) (s := a') hd6 ?_
      intro at2 tp2 gp2 dry2 rest2 hbk2
      have eY : updF Y who (some ⟨bb, 0, none⟩) = Y := by rw [← hY]; exact updF_id Y who
      have hwk' : ∀ j, j < 3 → (updW W who ⟨S', a', (W who).n⟩ j).a.done = false → EnA (updW W who ⟨S', a', (W who).n⟩ j).a ∧ A j < 2 ∧ ∃ b, Y j = some ⟨b, 0, none⟩ := fun j hj hjd => by
       dsimp only [updW] at hjd ⊢
       split
       ·rename_i hj2; subst hj2; exact ⟨he6, hAw, bb, hY⟩
       ·rename_i hj2; rw [if_neg hj2] at hjd; exact hwk j hj hjd
      have hen' : ∀ q, en = some q → q.e.ok ∧ EndI q.e ∧ q.e.cnt ≤ i + 1 ∧ q.s < 2 := fun q hq => by
       have := hen q hq
       exact ⟨this.1, this.2.1, by omega, this.2.2.2⟩
      cases hq : a'.done with
      | false =>
        rw [hq] at hbk2
        refine go ?_
        have exv : xvs (updW W who ⟨S', a', (W who).n⟩) bs = xvs W bs := by
         have := xvs_same (W := W) (bs := bs) (i := who) (w := ⟨S', a', (W who).n⟩) hw3 (by rw [hd]; exact hq)
         rw [updN_id] at this
         exact this.symm
        have hb := pl_back (w0 := nn.w) (g := nn.g) (rp := nn.rp) (x := x2) (mp := nn.mp) (Q := Q) (W := W) (A := A) (bs := bs) (Y := Y) (i := who) (sl := A who) (b := bs who) (w := ⟨S', a', (W who).n⟩) (y := some ⟨bb, 0, none⟩)
         (s := [pt (some ⟨(Q who).u, 0, none⟩) (SupO nn.mp (Q who).pb x2 S'), pt (some ⟨(Q who).s, 0, none⟩) (RSupO nn.w S'), pt (some ⟨(Q who).pb, 0, none⟩) (SkO nn.mp x2.pool), pt (some ⟨bs who, 0, none⟩) (AlO nn.g (Q who).u (Q who).pb x2 (A who) 1 (W who).n a'), pt (some ⟨bb, 0, none⟩) (RAgO (Q who).s nn.rp (A who) 1 (W who).n a')]) (G := enH nn.ro nn.w en ++ [Old w]) hw3 (fun G => by
          simp only [plW, plR, hq, Bool.false_eq_true, if_false, List.cons_append, List.nil_append]
          exact Ent.refl _)
        rw [updF_id, updN_id, eY] at hb
        have hb2 : ∀ L, Ent L _ → Ent L _ := fun L h => Ent.trans h hb
        refine Sx.ent (M := plF x2 nn r r2 c c2 Q gb sb gnb xb yb m' (updW W who ⟨S', a', (W who).n⟩) A bs Y en [Old w]) ?_ (Sx.ca rfl (plSame (by omega) (fun j hj => ?_)) ?_)
        ·refine Ent.trans (hbk2 _) ?_
         dsimp only [plF]
         rw [exv]
         iterate 14 (refine Ent.take1 ?_)
         refine hb2 _ ?_
         exact entm
        ·have := hgo.xsle hx2 hj
         omega
        rintro v' L' ⟨rfl, rfl⟩
        refine go ?_
        rw [w64 (n := (i : Int) + 1) (by omega) (by omega)]
        refine Klp.nm ⟨⟨i + 1, m', updW W who ⟨S', a', (W who).n⟩, A, bs, Y, en⟩, ⟨(by dsimp only; omega), hgo, (by dsimp only; omega), hwk', hen'⟩⟩ (sub.cons rfl (sub.cons rfl (sub.cons rfl (sub.cons rfl (sub.cons rfl (sub.cons rfl (sub.cons rfl (sub.cons rfl (sub.cons rfl (sub.cons rfl (sub.cons rfl sub.nil))))))))))) (Ent.refl _) (by dsimp only; omega)
      | true =>
        rw [hq] at hbk2
        refine go ?_
        refine gg ?_
        have hxs : (xvs W bs).set (0 + (who : Int).toNat * 1) (.pointer none) = xvs (updW W who ⟨S', a', (W who).n⟩) bs := by
         have := xvs_set (W := W) (bs := bs) (i := who) (b := bs who) (w := ⟨S', a', (W who).n⟩) hw3
         simp only [hq, if_true, updN_id] at this
         exact this
        refine Sx.stb (b := xb) rfl rfl rfl rfl (xvs_blt hw3) hxs ?_
        refine go ?_
        have hb := pl_back (w0 := nn.w) (g := nn.g) (rp := nn.rp) (x := x2) (mp := nn.mp) (Q := Q) (W := W) (A := A) (bs := bs) (Y := Y) (i := who) (sl := A who) (b := bs who) (w := ⟨S', a', (W who).n⟩) (y := some ⟨bb, 0, none⟩)
         (s := [pt (some ⟨(Q who).u, 0, none⟩) (SupO nn.mp (Q who).pb x2 S'), pt (some ⟨(Q who).s, 0, none⟩) (RSupO nn.w S'), pt (some ⟨(Q who).pb, 0, none⟩) (SkO nn.mp x2.pool)]) (G := enH nn.ro nn.w en ++ [Old w]) hw3 (fun G => by
          simp only [plW, plR, hq, if_true, List.cons_append, List.nil_append]
          exact Ent.refl _)
        rw [updF_id, updN_id, eY] at hb
        have hb2 : ∀ L, Ent L _ → Ent L _ := fun L h => Ent.trans h hb
        refine Sx.ent (M := plF x2 nn r r2 c c2 Q gb sb gnb xb yb m' (updW W who ⟨S', a', (W who).n⟩) A bs Y en [Old w]) ?_ (Sx.ca rfl (plSame (by omega) (fun j hj => ?_)) ?_)
        ·dsimp only [plF]
         iterate 14 (refine Ent.take1 ?_)
         refine hb2 _ ?_
         exact entm
        ·have := hgo.xsle hx2 hj
         omega
        rintro v' L' ⟨rfl, rfl⟩
        refine go ?_
        rw [w64 (n := (i : Int) + 1) (by omega) (by omega)]
        refine Klp.nm ⟨⟨i + 1, m', updW W who ⟨S', a', (W who).n⟩, A, bs, Y, en⟩, ⟨(by dsimp only; omega), hgo, (by dsimp only; omega), hwk', hen'⟩⟩ (sub.cons rfl (sub.cons rfl (sub.cons rfl (sub.cons rfl (sub.cons rfl (sub.cons rfl (sub.cons rfl (sub.cons rfl (sub.cons rfl (sub.cons rfl (sub.cons rfl sub.nil))))))))))) (Ent.refl _) (by dsimp only; omega)
  ·refine go ?_
   exact Kr.one (.inr rfl) rfl (Ent.refl _) ⟨rfl, entm⟩
end
end Go.Proofs.YtflalhdofhobmaaGreat
