/-
  Parts of the proof, merged: what the statement leans on.
-/
import Derived.Deep.Slices
import Derived.Deep.Fields
import Derived.Test.YtflalhdofhobmaaGreatZHiF
set_option linter.unusedVariables false
set_option linter.unusedSimpArgs false

namespace Go.Proofs.YtflalhdofhobmaaGreat
section
open Go
attribute [local irreducible] Sx Cx Rx Fx Krg Ksq Kbl Klp Kr
structure RefA (x : Cn) (S : SupS) (a : AlS) : Prop where
 code : a.at_ ≠ 6 → a.v.code = 0
 obj : a.at_ ≠ 6 → a.v.obj = Hd.zero
 z : a.at_ ≠ 6 → a.v.hand < 0 → a.v.zat = 0
 tk : a.at_ = 2 → a.v.asked = true ∧ a.v.hand = -1 ∧ a.t.q.ok x.pool ∧ a.t.at_ = 1 ∧ a.t.done = false ∧ a.t.is_ = false
 gv : a.at_ = 6 → a.g.ok x.pool ∧ a.g.l.length ≤ 1000000
 nd : a.at_ ≠ 6 → (S.xs ++ (if 0 ≤ a.v.hand then [a.v.hand] else [])).Nodup
 rg : a.at_ ≠ 6 → ∀ y ∈ S.xs ++ (if 0 ≤ a.v.hand then [a.v.hand] else []), 0 ≤ y ∧ y < (x.c : Int)
section
variable {L F G : St}
theorem RAgO.closeS {b sa rp slot at_ : Nat} {gen : Int} {n : Nat} {cnt : Int} {v : AlV} {tp gp : Value} {dry d : Bool} (s : AlS) (h : s.done = true ∨ s.at_ ≠ 2) (hd : d = s.done) (ha : at_ = s.at_) (hc : cnt = (s.v.cnt : Nat)) (hv : { v with cnt := s.v.cnt, ends := s.v.ends, asked := s.v.asked } = s.v) (hdr : dryOk s dry) (h6 : s.at_ ≠ 6 := by intro h; cases h) :
  Ent (ralB b sa slot gen n at_ cnt v tp gp dry d :: G) (pt (ad b) (RAgO sa rp slot gen n s) :: G) := by
 rw [show RAgO sa rp slot gen n s = RAlO sa rp slot gen n s from RAgO.fun_ h6]
 exact RAlO.closeS s h hd ha hc hv hdr
theorem RAgO.closeT {b sa rp slot q : Nat} {gen : Int} {n : Nat} {cnt : Int} {v : AlV} {gp : Value} {t : TakeS} (s : AlS) (h : s.done = false) (ha : s.at_ = 2) (hc : cnt = (s.v.cnt : Nat)) (hv : { v with cnt := s.v.cnt, ends := s.v.ends, asked := s.v.asked } = s.v) (ht : t = s.t) :
  Ent (ralB b sa slot gen n 2 cnt v (zp q) gp false false :: pt (ad q) (RTakeO sa rp t) :: G) (pt (ad b) (RAgO sa rp slot gen n s) :: G) := by
 rw [show RAgO sa rp slot gen n s = RAlO sa rp slot gen n s from RAgO.fun_ (by omega)]
 exact RAlO.closeT s h ha hc hv ht
set_option maxRecDepth 100000 in
set_option maxHeartbeats 8000000 in
theorem refAgStep {b sa w rm rp rs re slot : Nat} {gen : Int} {n : Nat} {x : Cn} {S : SupS} {m : Mm} {a : AlS} {F1 F2 F3 F4 : St} (hx : x.ok) (hl : x.len ≤ m.ws.length) (hs : slot < x.sl) (hn : 1 ≤ n) (hn2 : n ≤ x.wd) (hw8 : x.wd % 8 = 0) (hok : (rtOf (m.at_ (x.root + slot))).ok) (hb : S.xs.length + S.lm.size ≤ 99999) (hm0 : 0 ≤ S.most) (hm2 : S.most ≤ 64)
  (ha : a.done = false → AlOk x a) (hr : a.done = false → RefA x S a) (hd6 : a.done = true → a.at_ = 6)
  [t1 : Take L (ad b) (RAgO sa rp slot gen n a) F1] [t2 : Take F1 (ad sa) (RSupO w S) F2] [t3 : Take F2 (ad rm) (RMemO m) F3] [t4 : Take F3 (ad w) (RWO x rm rp rs re) F4] [t5 : Take F4 (ad rp) (RSkO rm x.pool) G] :
  FX 38 [zp b] L
   (fun v L' => v = .bool (!a.done) ∧ L' = pt (ad b) (RAgO sa rp slot gen n (alStep (x.al slot gen n) m S a).2.2) :: pt (ad sa) (RSupO w (alStep (x.al slot gen n) m S a).2.1) :: pt (ad rm) (RMemO (alStep (x.al slot gen n) m S a).1) :: F3) := by
 obtain ⟨b1, b2, b3, b4, b5, b6, b7⟩ := hx.b
 have hsz : x.root + x.sl ≤ x.len := by unfold Cn.root Cn.len; omega
 have hlz : x.link + x.c ≤ x.len := by unfold Cn.link Cn.len; omega
 have hback : Ent (pt (ad w) (RWO x rm rp rs re) :: pt (ad rp) (RSkO rm x.pool) :: G) F3 := Et (Ec (Eo t5.back)) (Eo t4.back)
 refine Fm Tryz.func38 k38 ?_
 dsimp only [c38, eL]
 refine Xe (Et (Eo t1.out) (Ec (Et (Eo t2.out) (Ec (Et (Eo t3.out) (Ec (Et (Eo t4.out) (Ec (Eo t5.out))))))))) ?_
 refine Cx.pure (rmemKey (rm := rm) (m := m)) fun hm => ?_
 cases hd : a.done with
 | true =>
   have e1 : alStep (x.al slot gen n) m S a = (m, S, a) := by unfold alStep; rw [hd]; rfl
   rw [e1]
   refine Xo (a := ad b) (RAgO.g_ (hd6 hd)) ?_
   rintro ⟨tp, gq, dry⟩
   simp only [ralGL, lc, ln]
   rw [hd]
   refine go ?_
   exact Ko rfl (Et (RAgO.closeG (rp := rp) (v := a.v) a (hd6 hd) hd.symm rfl rfl rfl rfl) (Ec (Ec (Ec hback)))) ⟨rfl, rfl⟩
 | false =>
   obtain ⟨k0, k1, k2, k3, k4, k5, k6, k7, k8, k9⟩ := ha hd
   have hA := hr hd
   have hwl := rt_was_lt k4
   by_cases h6 : a.at_ = 6
   ·obtain ⟨u1, u2⟩ := hA.gv h6
    have hk := hx.pool (n := m.ws.length) hl hm.2
    refine Xo (a := ad b) (RAgO.g_ h6) ?_
    rintro ⟨tp, gq, dry⟩
    simp only [ralGL, lc, ln]
    rw [hd]
    refine Xe (Ek (a := ad sa)) ?_
    refine Xo (a := ad sa) rfl ?_
    rintro ⟨st, lm⟩
    simp only [rsupL, lc, ln]
    refine go ?_
    rw [cntW k1]
    refine Xe (RSupO.close (a := ad sa) (st := st) (lm := lm) (w := w) S rfl rfl rfl) ?_
    refine Xd rfl kr_ (ge ?_)
    refine Eb kr_ rfl rfl (refRootAt hx slot hs) (ge ?_)
    refine go ?_
    refine Sa rfl (refGetRoot a.v.was hwl) ?_
    rintro v' L' ⟨rfl, rfl⟩
    refine Sx.al fun o => ?_
    refine Sx.st (b := o) rfl rfl rfl rfl rfl rfl ?_
    refine Sr (rtL (rtOf a.v.was)) rfl (go ?_)
    have e1 : alStep (x.al slot gen n) m S a = ((pushStep x.pool m a.g).2, S, ⟨6, { a.v with cnt := a.v.cnt + 1 }, a.t, (pushStep x.pool m a.g).1, (pushStep x.pool m a.g).1.done⟩) := by unfold alStep; rw [hd, h6]; rfl
    rw [e1]
    obtain ⟨Q, hQ⟩ : ∃ Q, pushStep x.pool m a.g = Q := ⟨_, rfl⟩
    refine Sa rfl (refGiveStep (b := gq) (rp := rp) (rm := rm) (k := x.pool) (m := m) (p := a.g) hk u1 u2) ?_
    rw [hQ]
    rintro v' L' ⟨rfl, rfl⟩
    refine go ?_
    refine Sx.openp (a := ad gq) rfl ?_
    rintro ⟨pp, ra, ca⟩
    simp only [rgiveL, lc, ln]
    refine go ?_
    refine Ko rfl ?_ ⟨rfl, rfl⟩
    refine Et (M := ralB b sa slot gen n 6 ((a.v.cnt + 1 : Nat) : Int) a.v tp (zp gq) dry Q.1.done :: pt (ad gq) (RGiveO rp Q.1) :: pt (ad sa) (RSupO w S) :: pt (ad rm) (RMemO Q.2) :: pt (ad w) (RWO x rm rp rs re) :: pt (ad rp) (RSkO rm x.pool) :: G) ?_
     (Et (RAgO.closeG (rp := rp) (v := a.v) ⟨6, { a.v with cnt := a.v.cnt + 1 }, a.t, Q.1, Q.1.done⟩ rfl rfl rfl rfl rfl rfl) (Ec (Ec (Ec hback))))
    refine Et (Et (Ek (a := ad gq)) (Ec (Et (Ek (a := ad pp)) (Ec (Ek (a := ra)))))) ?_
    refine Et (RGiveO.close Q.1 rfl rfl rfl rfl) ?_
    exact entm
   have t1' : Take L (ad b) (RAlO sa rp slot gen n a) F1 := by
    rw [← show RAgO sa rp slot gen n a = RAlO sa rp slot gen n a from RAgO.fun_ h6]; exact t1
   rw [show RAgO sa rp slot gen n a = RAlO sa rp slot gen n a from RAgO.fun_ h6]
   have r1 := hA.code h6
   have r2 := hA.obj h6
   have r3 := k2
   have r4 := hA.z h6
   have hndA := hA.nd h6
   have hrgA := hA.rg h6
   by_cases h2 : a.at_ = 2
   ·have hk := hx.pool (n := m.ws.length) hl hm.2
    refine Xo (a := ad b) (RAlO.t_ hd h2) ?_
    rintro ⟨q, gp⟩
    simp only [ralTL, lc, ln]
    refine Xe (Ek (a := ad sa)) ?_
    refine Xo (a := ad sa) rfl ?_
    rintro ⟨st, lm⟩
    simp only [rsupL, lc, ln]
    refine go ?_
    rw [cntW k1]
    refine Xe (RSupO.close (a := ad sa) (st := st) (lm := lm) (w := w) S rfl rfl rfl) ?_
    refine Xd rfl kr_ (ge ?_)
    refine Eb kr_ rfl rfl (refRootAt hx slot hs) (ge ?_)
    refine go ?_
    refine Sa rfl (refGetRoot a.v.was hwl) ?_
    rintro v' L' ⟨rfl, rfl⟩
    refine Sx.al fun o => ?_
    refine Sx.st (b := o) rfl rfl rfl rfl rfl rfl ?_
    refine Sr (rtL (rtOf a.v.was)) rfl (go ?_)
    obtain ⟨T, hT⟩ : ∃ T, takeStep x.pool x.ba m S a.t = T := ⟨_, rfl⟩
    have htp := takeStep_pop (ba := x.ba) (m := m) (s := S) hk hm.1 (hA.tk h2).2.2.1 (hA.tk h2).2.2.2.1 (hA.tk h2).2.2.2.2.1
    refine Sa rfl (refTakeStep (b := q) (s := sa) (w := w) (rm := rm) (rp := rp) (rs := rs) (re := re) (x := x) (S := S) (m := m) (t := a.t) hx hl (k9 h2) (fun _ _ => (hA.tk h2).2.2.1) (by omega)) ?_
    rw [hT] at htp ⊢
    rintro v' L' ⟨rfl, rfl⟩
    cases hq : T.2.2.done with
    | true =>
      have e1 : alStep (x.al slot gen n) m S a = (T.1, T.2.1, alTaken { a.v with cnt := a.v.cnt + 1 } T.2.2) := by unfold alStep; rw [hd, h2]; simp only [bf, if_false, hT, hq, if_true]
      rw [e1]
      refine Sx.nil ?_
      refine Krg.i ?_
      refine Ksq.nm ?_
      refine Cx.sq ?_
      refine Xo (a := ad q) (RTakeO.d hq) ?_
      rintro ⟨nn, pp⟩
      simp only [rtakeDL, lc, ln]
      refine go ?_
      refine Se_ (Et (Ek (a := ad q)) (RTakeO.closeD (b := q) (s := sa) (rp := rp) T.2.2 hq rfl rfl)) ?_
      refine Se_ (Ek (a := ad b)) ?_
      refine Sa rfl (refAgTaken (b := b) (sa := sa) (rp := rp) (slot := slot) (at_ := 2) (q := q) (gen := gen) (n := n) (v := { a.v with cnt := a.v.cnt + 1 }) (gp := gp) (t := T.2.2) rfl hq (hA.tk h2).1 (r4 (by have := (hA.tk h2).2.1; omega)) (hA.tk h2).2.1 (fun h => htp.2 h hq (hA.tk h2).2.2.2.2.2)) ?_
      rintro v' L' rfl
      refine go ?_
      refine Ko rfl (Ec ?_) ⟨rfl, rfl⟩
      refine Et (M := pt (ad sa) (RSupO w T.2.1) :: pt (ad rm) (RMemO T.1) :: _) (by exact ent) (Ec (Ec hback))
    | false =>
      have e1 : alStep (x.al slot gen n) m S a = (T.1, T.2.1, ⟨2, { a.v with cnt := a.v.cnt + 1 }, T.2.2, gNone, false⟩) := by unfold alStep; rw [hd, h2]; simp only [bf, if_false, hT, hq]
      rw [e1]
      refine Sx.nil ?_
      refine Krg.i ?_
      refine Ksq.nm ?_
      refine Cx.sq ?_
      refine Xo (a := ad q) (RTakeO.p hq (by rw [htp.1 hq]; decide)) ?_
      intro p
      simp only [rtakePL, lc, ln]
      refine go ?_
      refine Ko rfl ?_ ⟨rfl, rfl⟩
      refine Et (Et (Ek (a := ad q)) (Ec (Ek (a := ad p)))) ?_
      refine Et (RTakeO.closeP (b := q) (s := sa) (rp := rp) (p := p) T.2.2 hq (by rw [htp.1 hq]; decide) rfl rfl) ?_
      refine Et (Ec (Ek (a := ad b))) ?_
      refine Et Ent.swap ?_
      refine Et (RAgO.closeT (rp := rp) (q := q) (v := a.v) ⟨2, { a.v with cnt := a.v.cnt + 1 }, T.2.2, gNone, false⟩ rfl rfl rfl rfl rfl) (Ec ?_)
      refine Et (M := pt (ad sa) (RSupO w T.2.1) :: pt (ad rm) (RMemO T.1) :: _) (by exact ent) (Ec (Ec hback))
   ·refine Xo (a := ad b) (RAlO.s_ (.inr h2)) ?_
    rintro ⟨tp, gp, dry⟩
    simp only [ralSL, lc, ln]
    refine Cx.liftp fun hdr => ?_
    rw [hd]
    refine Xe (Ek (a := ad sa)) ?_
    refine Xo (a := ad sa) rfl ?_
    rintro ⟨st, lm⟩
    simp only [rsupL, lc, ln]
    refine go ?_
    rw [cntW k1]
    refine Xe (RSupO.close (a := ad sa) (st := st) (lm := lm) (w := w) S rfl rfl rfl) ?_
    refine Xd rfl kr_ (ge ?_)
    refine Eb kr_ rfl rfl (refRootAt hx slot hs) (ge ?_)
    refine go ?_
    refine Sa rfl (refGetRoot a.v.was hwl) ?_
    rintro v' L' ⟨rfl, rfl⟩
    refine Sx.al fun o => ?_
    refine Sx.st (b := o) rfl rfl rfl rfl rfl rfl ?_
    refine Sr (rtL (rtOf a.v.was)) rfl (go ?_)
    rcases (show a.at_ = 0 ∨ a.at_ = 1 ∨ a.at_ = 3 ∨ a.at_ = 4 ∨ a.at_ = 5 by omega) with h0 | h0 | h0 | h0 | h0
    ·rw [h0]
     refine go ?_
     have e1 : alStep (x.al slot gen n) m S a = (m.tick, alSeen (x.al slot gen n) S { a.v with cnt := a.v.cnt + 1, was := m.at_ (x.root + slot) } a.t) := by unfold alStep; rw [hd, h0]; rfl
     rw [e1]
     refine Sa rfl (refLoad (rm := rm) (m := m) (x.root + slot) (by omega)) ?_
     rintro v' L' ⟨rfl, rfl⟩
     refine go ?_
     refine Se_ (Ek (a := ad b)) ?_
     refine Se_ (M := ralB b sa slot gen n 0 ((a.v.cnt + 1 : Nat) : Int) { a.v with cnt := a.v.cnt + 1, was := m.at_ (x.root + slot) } tp gp dry false :: pt (ad sa) (RSupO w S) :: pt (ad w) (RWO x rm rp rs re) :: pt (ad rp) (RSkO rm x.pool) :: pt (ad rm) (RMemO m.tick) :: G) (Ec (by exact entm)) ?_
     refine Sa rfl (refAgSeen (b := b) (sa := sa) (w := w) (rm := rm) (rp := rp) (rs := rs) (re := re) (slot := slot) (gen := gen) (n := n) (x := x) (S := S) (v := { a.v with cnt := a.v.cnt + 1, was := m.at_ (x.root + slot) }) (tp := tp) (gp := gp) (dry := dry) a.t rfl hx hn hn2 hw8 hok r3 r4 (fun h => hdr (by omega) h) r1 r2 hb hm0 hm2 hndA hrgA) ?_
     rintro v' L' rfl
     refine go ?_
     refine Ko rfl (Ec (Ec ?_)) ⟨rfl, rfl⟩
     refine Et (M := pt (ad rm) (RMemO m.tick) :: pt (ad w) (RWO x rm rp rs re) :: pt (ad rp) (RSkO rm x.pool) :: G) (by exact entm) (Ec hback)
    ·have k5' := k5 h0
     have hR : Rt.ok ⟨(rtOf a.v.was).gen, (rtOf a.v.was).mrk, (rtOf a.v.was).cl, (rtOf a.v.was).off + a.v.need⟩ := ⟨k4.g, k4.m, k4.c, by show (rtOf a.v.was).off + a.v.need ≤ 1024; omega⟩
     rw [h0]
     refine go ?_
     refine Sx.al fun o2 => ?_
     refine Sx.st (b := o2) rfl rfl rfl rfl rfl rfl ?_
     refine Sr (rtL (rtOf a.v.was)) rfl (go ?_)
     refine Xd rfl kr_ (ge ?_)
     rw [w64 (n := ((rtOf a.v.was).off : Int) + (a.v.need : Nat)) (by omega) (by omega), show ((rtOf a.v.was).off : Int) + (a.v.need : Nat) = (((rtOf a.v.was).off + a.v.need : Nat) : Int) by push_cast; rfl]
     refine Es (b := o2) kr_ rfl rfl rfl rfl rfl (by rfl) rfl (Pd kr_) (ge ?_)
     refine go ?_
     refine Sa (vs := [rtV ⟨(rtOf a.v.was).gen, (rtOf a.v.was).mrk, (rtOf a.v.was).cl, (rtOf a.v.was).off + a.v.need⟩]) rfl (refPutRoot ⟨(rtOf a.v.was).gen, (rtOf a.v.was).mrk, (rtOf a.v.was).cl, (rtOf a.v.was).off + a.v.need⟩ hR) ?_
     rintro v' L' ⟨rfl, rfl⟩
     refine go ?_
     obtain ⟨wN, hwN⟩ : ∃ wN, Rt.w ⟨(rtOf a.v.was).gen, (rtOf a.v.was).mrk, (rtOf a.v.was).cl, (rtOf a.v.was).off + a.v.need⟩ = wN := ⟨_, rfl⟩
     have hwl2 := Rt.w_lt hR
     rw [hwN] at hwl2 ⊢
     refine Xd rfl kr_ (ge ?_)
     refine Ea kr_ rfl rfl (refCas (rm := rm) (m := m) (x.root + slot) a.v.was wN (by omega) hwl hwl2) (Pd kr_) ?_
     rintro v' L' ⟨rfl, rfl⟩
     refine ge ?_
     by_cases hc : m.at_ (x.root + slot) = a.v.was
     ·have ecas : m.cas (x.root + slot) a.v.was wN = m.put (x.root + slot) wN := by unfold Mm.cas; rw [if_pos hc]
      have e1 : alStep (x.al slot gen n) m S a = (m.put (x.root + slot) wN, alClose x.pool S { a.v with cnt := a.v.cnt + 1 } a.t 0 ⟨slot, gen, (rtOf a.v.was).chunk, (rtOf a.v.was).off, n⟩) := by
       unfold alStep; rw [hd, h0]; simp only [bf, if_false]; rw [if_pos hc, hwN]
      rw [e1, ecas, dt hc]
      refine go ?_
      refine Cx.orde rfl kr_ (ge ?_)
      refine Eb (vs := [rtV (rtOf a.v.was)]) kr_ rfl rfl (refChunk (rtOf a.v.was) (rtOf_mrk _)) (ge ?_)
      refine Ea kr_ rfl rfl (Fx.ent (M := ralB b sa slot gen n 0 ((a.v.cnt + 1 : Nat) : Int) { a.v with cnt := a.v.cnt + 1 } tp gp dry false :: pt (ad sa) (RSupO w S) :: pt (ad w) (RWO x rm rp rs re) :: pt (ad rp) (RSkO rm x.pool) :: pt (ad rm) (RMemO (m.put (x.root + slot) wN)) :: G) (by exact entm)
       (refAgFine (b := b) (sa := sa) (w := w) (rm := rm) (rp := rp) (rs := rs) (re := re) (slot := slot) (at_ := 0) (gen := gen) (n := n) (x := x) (S := S) (v := { a.v with cnt := a.v.cnt + 1 }) (tp := tp) (gp := gp) (dry := dry) a.t (rtOf a.v.was).chunk (rtOf a.v.was).off rfl r3 r1 (by omega) hm0 hm2 hndA hrgA)) (Pd kr_) ?_
      rintro v' L' rfl
      refine ge ?_
      refine go ?_
      refine Ko rfl (Ec (Ec ?_)) ⟨rfl, rfl⟩
      refine Et (M := pt (ad rm) (RMemO (m.put (x.root + slot) wN)) :: pt (ad w) (RWO x rm rp rs re) :: pt (ad rp) (RSkO rm x.pool) :: G) (by exact entm) (Ec hback)
     ·have ecas : m.cas (x.root + slot) a.v.was wN = m.tick := by unfold Mm.cas; rw [if_neg hc]
      have e1 : alStep (x.al slot gen n) m S a = (m.tick, S, ⟨0, { a.v with cnt := a.v.cnt + 1 }, a.t, gNone, false⟩) := by
       unfold alStep; rw [hd, h0]; simp only [bf, if_false]; rw [if_neg hc]
      rw [e1, ecas, dz hc]
      refine go ?_
      refine Ko rfl ?_ ⟨rfl, rfl⟩
      refine Et (Ek (a := ad b)) ?_
      refine Et (RAgO.closeS (rp := rp) (v := a.v) ⟨0, { a.v with cnt := a.v.cnt + 1 }, a.t, gNone, false⟩ (.inr (by show 0 ≠ 2; omega)) rfl rfl rfl rfl (fun _ h => hdr (by omega) h)) (Ec ?_)
      refine Et (M := pt (ad sa) (RSupO w S) :: pt (ad rm) (RMemO _) :: _) (by exact ent) (Ec (Ec hback))
    ·obtain ⟨k, hkk⟩ : ∃ k : Nat, a.v.hand = k := ⟨a.v.hand.toNat, by have := k7 (.inl h0); omega⟩
     have k8' := k8 h0
     rw [h0]
     refine go ?_
     have hwd := word_lt (x := x) (k := k) (j := a.v.zat) (by omega) k8'
     have e1 : alStep (x.al slot gen n) m S a = (m.put (x.word + k * x.wd + a.v.zat) 0, S, ⟨if a.v.zat + 1 < x.wd then 3 else 4, { a.v with cnt := a.v.cnt + 1, zat := a.v.zat + 1 }, a.t, gNone, false⟩) := by unfold alStep; rw [hd, h0]; simp only [bf, if_false, hkk, tn]
     rw [e1]
     refine Xd rfl kr_ (ge ?_)
     rw [hkk]
     refine Eb kr_ rfl rfl (refWord hx k a.v.zat (by omega) k8') (ge ?_)
     refine Ea kr_ rfl rfl (refStore (rm := rm) (m := m) (x.word + k * x.wd + a.v.zat) 0 (by omega) (by omega)) (Pd kr_) ?_
     rintro v' L' ⟨rfl, rfl⟩
     refine ge ?_
     refine go ?_
     rw [w64 (n := (a.v.zat : Int) + 1) (by omega) (by omega)]
     refine Xd rfl kr_ (ge ?_)
     refine Xi rfl (fun hz => ?_) (fun hz => ?_)
     ·rw [if_neg (by omega)]
      refine go ?_
      refine Ko rfl ?_ ⟨rfl, rfl⟩
      refine Et (Ek (a := ad b)) ?_
      refine Et (RAgO.closeS (rp := rp) (v := { a.v with zat := a.v.zat + 1 }) ⟨4, { a.v with cnt := a.v.cnt + 1, zat := a.v.zat + 1 }, a.t, gNone, false⟩ (.inr (by show 4 ≠ 2; omega)) rfl rfl rfl rfl (fun h => absurd (show 4 ≤ 1 from h) (by omega))) (Ec ?_)
      refine Et (M := pt (ad sa) (RSupO w S) :: pt (ad rm) (RMemO _) :: _) (by exact ent) (Ec (Ec hback))
     ·rw [if_pos (by omega)]
      refine go ?_
      refine Ko rfl ?_ ⟨rfl, rfl⟩
      refine Et (Ek (a := ad b)) ?_
      refine Et (RAgO.closeS (rp := rp) (v := { a.v with zat := a.v.zat + 1 }) ⟨3, { a.v with cnt := a.v.cnt + 1, zat := a.v.zat + 1 }, a.t, gNone, false⟩ (.inr (by show 3 ≠ 2; omega)) rfl rfl rfl rfl (fun h => absurd (show 3 ≤ 1 from h) (by omega))) (Ec ?_)
      refine Et (M := pt (ad sa) (RSupO w S) :: pt (ad rm) (RMemO _) :: _) (by exact ent) (Ec (Ec hback))
    ·obtain ⟨k, hkk⟩ : ∃ k : Nat, a.v.hand = k := ⟨a.v.hand.toNat, by have := k7 (.inr (.inl h0)); omega⟩
     have hc1 := (rtOf a.v.was).chunk_ge
     have hc2 := Rt.chunk_lt (rtOf_mrk a.v.was)
     rw [h0]
     refine go ?_
     have e1 : alStep (x.al slot gen n) m S a = (m.put (x.link + k) ((rtOf a.v.was).chunk + 1).toNat, S, ⟨5, { a.v with cnt := a.v.cnt + 1 }, a.t, gNone, false⟩) := by unfold alStep; rw [hd, h0]; simp only [bf, if_false, hkk, tn]; rfl
     rw [e1]
     refine Xd rfl kr_ (ge ?_)
     rw [hkk]
     refine Eb kr_ rfl rfl (refLink hx k (by omega)) (ge ?_)
     refine Eb kr_ rfl rfl (refChunk (rtOf a.v.was) (rtOf_mrk _)) (ge ?_)
     rw [wrapS (x := (rtOf a.v.was).chunk + 1) (by omega) (by omega)]
     refine Ea kr_ rfl rfl (refStore (rm := rm) (m := m) (x.link + k) ((rtOf a.v.was).chunk + 1).toNat (by omega) (by omega)) (Pd kr_) ?_
     rintro v' L' ⟨rfl, rfl⟩
     refine ge ?_
     refine go ?_
     refine Ko rfl ?_ ⟨rfl, rfl⟩
     refine Et (Ek (a := ad b)) ?_
     refine Et (RAgO.closeS (rp := rp) (v := a.v) ⟨5, { a.v with cnt := a.v.cnt + 1 }, a.t, gNone, false⟩ (.inr (by show 5 ≠ 2; omega)) rfl rfl rfl rfl (fun h => absurd (show 5 ≤ 1 from h) (by omega))) (Ec ?_)
     refine Et (M := pt (ad sa) (RSupO w S) :: pt (ad rm) (RMemO _) :: _) (by exact ent) (Ec (Ec hback))
    ·obtain ⟨k, hkk⟩ : ∃ k : Nat, a.v.hand = k := ⟨a.v.hand.toNat, by have := k7 (.inr (.inr h0)); omega⟩
     obtain ⟨n1, n2⟩ := k6 h0
     have haf := afterS_le n2
     have hR : Rt.ok ⟨(rtOf a.v.was).gen, k + 2, (rtOf a.v.was).cl, afterS x.wd a.v.need⟩ := ⟨k4.g, by show k + 2 ≤ 4097; omega, k4.c, by show afterS x.wd a.v.need ≤ 1024; omega⟩
     rw [h0]
     refine go ?_
     refine Sx.al fun o2 => ?_
     refine Sx.st (b := o2) rfl rfl rfl rfl rfl rfl ?_
     refine Sr (rtL (rtOf a.v.was)) rfl (go ?_)
     refine Xd rfl kr_ (ge ?_)
     rw [hkk, w64 (n := (k : Int) + 2) (by omega) (by omega)]
     refine Eb kr_ rfl rfl (refAfter x.wd a.v.need (by omega) (by omega) n1 n2) (ge ?_)
     refine Es (b := o2) kr_ rfl rfl rfl rfl rfl (by rfl) rfl (Pd kr_) (ge ?_)
     refine Es (b := o2) kr_ rfl rfl rfl rfl rfl (by rfl) rfl (Pd kr_) (ge ?_)
     refine go ?_
     refine Sa (vs := [rtV ⟨(rtOf a.v.was).gen, k + 2, (rtOf a.v.was).cl, afterS x.wd a.v.need⟩]) rfl (refPutRoot ⟨(rtOf a.v.was).gen, k + 2, (rtOf a.v.was).cl, afterS x.wd a.v.need⟩ hR) ?_
     rintro v' L' ⟨rfl, rfl⟩
     refine go ?_
     obtain ⟨wN, hwN⟩ : ∃ wN, Rt.w ⟨(rtOf a.v.was).gen, k + 2, (rtOf a.v.was).cl, afterS x.wd a.v.need⟩ = wN := ⟨_, rfl⟩
     have hwl2 := Rt.w_lt hR
     rw [hwN] at hwl2 ⊢
     refine Xd rfl kr_ (ge ?_)
     refine Ea kr_ rfl rfl (refCas (rm := rm) (m := m) (x.root + slot) a.v.was wN (by omega) hwl hwl2) (Pd kr_) ?_
     rintro v' L' ⟨rfl, rfl⟩
     refine ge ?_
     by_cases hc : m.at_ (x.root + slot) = a.v.was
     ·have ecas : m.cas (x.root + slot) a.v.was wN = m.put (x.root + slot) wN := by unfold Mm.cas; rw [if_pos hc]
      have e1 : alStep (x.al slot gen n) m S a = (m.put (x.root + slot) wN, alClose x.pool S { a.v with cnt := a.v.cnt + 1, hand := -1 } a.t 0 ⟨slot, gen, a.v.hand, 0, n⟩) := by
       unfold alStep; rw [hd, h0]; simp only [bf, if_false]; rw [if_pos hc, hkk, tn, Nat.add_comm 2 k, hwN]
      rw [e1, ecas, dt hc]
      refine go ?_
      refine Se_ (Ek (a := ad b)) ?_
      refine Se_ (M := ralB b sa slot gen n 0 ((a.v.cnt + 1 : Nat) : Int) { a.v with cnt := a.v.cnt + 1, hand := -1 } tp gp dry false :: pt (ad sa) (RSupO w S) :: pt (ad w) (RWO x rm rp rs re) :: pt (ad rp) (RSkO rm x.pool) :: pt (ad rm) (RMemO (m.put (x.root + slot) wN)) :: G) (Ec (by exact entm)) ?_
      refine Sa rfl (refAgFine (b := b) (sa := sa) (w := w) (rm := rm) (rp := rp) (rs := rs) (re := re) (slot := slot) (at_ := 0) (gen := gen) (n := n) (x := x) (S := S) (v := { a.v with cnt := a.v.cnt + 1, hand := -1 }) (tp := tp) (gp := gp) (dry := dry) a.t a.v.hand 0 rfl (by show (-1 : Int) ≤ -1; omega) r1 (by omega) hm0 hm2 (by show (S.xs ++ (if (0 : Int) ≤ -1 then [(-1 : Int)] else [])).Nodup; rw [if_neg (by omega), List.append_nil]; exact (List.nodup_append.1 hndA).1) (by show ∀ y ∈ S.xs ++ (if (0 : Int) ≤ -1 then [(-1 : Int)] else []), _; rw [if_neg (by omega), List.append_nil]; exact fun y hy => hrgA y (List.mem_append_left _ hy))) ?_
      rintro v' L' rfl
      refine go ?_
      refine Ko rfl (Ec (Ec ?_)) ⟨rfl, rfl⟩
      refine Et (M := pt (ad rm) (RMemO (m.put (x.root + slot) wN)) :: pt (ad w) (RWO x rm rp rs re) :: pt (ad rp) (RSkO rm x.pool) :: G) (by exact entm) (Ec hback)
     ·have ecas : m.cas (x.root + slot) a.v.was wN = m.tick := by unfold Mm.cas; rw [if_neg hc]
      have e1 : alStep (x.al slot gen n) m S a = (m.tick, S, ⟨0, { a.v with cnt := a.v.cnt + 1 }, a.t, gNone, false⟩) := by
       unfold alStep; rw [hd, h0]; simp only [bf, if_false]; rw [if_neg hc]
      rw [e1, ecas, dz hc]
      refine go ?_
      refine Ko rfl ?_ ⟨rfl, rfl⟩
      refine Et (Ek (a := ad b)) ?_
      refine Et (RAgO.closeS (rp := rp) (v := a.v) ⟨0, { a.v with cnt := a.v.cnt + 1 }, a.t, gNone, false⟩ (.inr (by show 0 ≠ 2; omega)) rfl rfl rfl rfl (fun _ h => absurd (show a.v.hand < 0 from h) (by omega))) (Ec ?_)
      refine Et (M := pt (ad sa) (RSupO w S) :: pt (ad rm) (RMemO _) :: _) (by exact ent) (Ec (Ec hback))
end
end
structure RunG (x : Cn) (m : Mm) (P : List Int) (w : Wk) : Prop where
 h0 : -1 ≤ w.a.v.hand
 wok : (rtOf w.a.v.was).ok
 need : w.a.at_ ≠ 0 → w.a.at_ ≠ 6 → 1 ≤ w.a.v.need ∧ w.a.v.need ≤ x.wd
 fit : w.a.at_ = 1 → (rtOf w.a.v.was).off + w.a.v.need ≤ x.wd
 hand : w.a.at_ = 3 ∨ w.a.at_ = 4 ∨ w.a.at_ = 5 → 0 ≤ w.a.v.hand
 zlt : w.a.at_ = 3 → w.a.v.zat < x.wd
 z0 : w.a.at_ ≠ 6 → w.a.v.hand < 0 → w.a.v.zat = 0
 noh : w.a.at_ = 2 → w.a.v.hand = -1 ∧ w.a.v.asked = true
 tk : w.a.at_ = 2 → w.a.t.at_ = 1 ∧ w.a.t.done = false ∧ w.a.t.chunk = 0 ∧ w.a.t.is_ = false ∧ w.a.t.q.ok x.pool ∧ w.a.t.q.done = false ∧ PopH x.pool m P w.a.t.q
 ps : w.a.at_ = 6 → w.a.g.ok x.pool ∧ w.a.g.done = false ∧ PushH x.pool m w.a.g
 co : w.a.at_ ≠ 6 → w.a.v.code = 0 ∧ w.a.v.obj = Hd.zero
structure WkG (x : Cn) (T : Nat) (m : Mm) (P : List Int) (w : Wk) : Prop where
 n1 : 1 ≤ w.n
 n2 : w.n ≤ x.wd
 lm : w.s.lm.size = 0
 m0 : 0 ≤ w.s.most
 m2 : w.s.most ≤ 64
 a6 : w.a.at_ ≤ 6
 h6 : w.a.done = true ∨ w.a.at_ = 6 → w.a.v.hand = -1
 gd : w.a.done = true ∨ w.a.at_ ≠ 6 → w.a.g.done = true
 cnt : w.a.v.cnt ≤ T
 run : w.a.done = false → RunG x m P w
structure ApG (x : Cn) (m : Mm) (ws : List Wk) (P R : List Int) (T : Nat) : Prop where
 len : m.ws.length = x.len
 ok : m.ok
 root : ∀ s, s < x.sl → (rtOf (m.at_ (x.root + s))).ok
 pool : Pool x.pool m P
 tag : hdT (m.at_ x.pool.head) ≤ T + 10
 one : ∀ y, P.count y + R.count y + (ws.flatMap Wk.own).count y ≤ 1
 rng : ∀ y, 0 < P.count y + R.count y + (ws.flatMap Wk.own).count y → 0 ≤ y ∧ y < (x.c : Int)
 wk : ∀ w ∈ ws, WkG x T m P w
def FrG (x : Cn) (own : List Int) (m m' : Mm) : Prop := ∀ a, a ≠ x.pool.head → (a < x.root ∨ x.root + x.sl ≤ a) → (∀ y ∈ own, a ≠ x.link + y.toNat) → a < x.word → m'.at_ a = m.at_ a
theorem WkG.frame {x : Cn} {T : Nat} {m m' : Mm} {P P' own : List Int} {w : Wk} (h : WkG x T m P w) (hg : HeadGoes x.pool m m' P P') (hf : FrG x own m m') (hr : ∀ y ∈ w.own, 0 ≤ y ∧ y < (x.c : Int)) (hro : ∀ y ∈ own, 0 ≤ y ∧ y < (x.c : Int)) (hd : ∀ y ∈ w.own, y ∉ own) : WkG x (T + 1) m' P' w := by
 have g1 : x.root + x.sl ≤ x.link := by unfold Cn.root Cn.link; omega
 have g2 : x.link + x.c = x.word := by unfold Cn.link Cn.word; omega
 have g3 : 3 ≤ x.root := by unfold Cn.root; omega
 have g0 : x.pool.head = 0 := rfl
 have hlink : ∀ y ∈ w.own, m'.at_ (x.link + y.toNat) = m.at_ (x.link + y.toNat) := fun y hy => by
  have h1 := hr y hy
  refine hf _ (by omega) (by omega) (fun z hz => ?_) (by omega)
  have h2 := hro z hz
  have : y ≠ z := fun e => hd y hy (by rw [e]; exact hz)
  omega
 refine ⟨h.n1, h.n2, h.lm, h.m0, h.m2, h.a6, h.h6, h.gd, Nat.le_succ_of_le h.cnt, fun hdn => ?_⟩
 have r := h.run hdn
 refine ⟨r.h0, r.wok, r.need, r.fit, r.hand, r.zlt, r.z0, r.noh, fun h2 => ?_, fun h6 => ?_, r.co⟩
 ·obtain ⟨t1, t2, t3, t4, t5, t6, t7⟩ := r.tk h2
  exact ⟨t1, t2, t3, t4, t5, t6, t7.frame hg⟩
 ·obtain ⟨t1, t2, t3⟩ := r.ps h6
  refine ⟨t1, t2, t3.frame hg (fun y hy => hlink y ?_) t1.ne⟩
  unfold Wk.own ownG; rw [t2]
  exact List.mem_append_right _ (List.mem_append_right _ hy)
theorem ApG.upd {x : Cn} {T : Nat} {m m' : Mm} {A B : List Wk} {w w' : Wk} {P P' R R' : List Int} (h : ApG x m (A ++ w :: B) P R T)
  (hlen : m'.ws.length = x.len) (hok : m'.ok) (hroot : ∀ s, s < x.sl → (rtOf (m'.at_ (x.root + s))).ok) (hpool : Pool x.pool m' P')
  (hgo : HeadGoes x.pool m m' P P') (htag : hdT (m'.at_ x.pool.head) ≤ hdT (m.at_ x.pool.head) + 1)
  (hcnt : ∀ y, P'.count y + R'.count y + w'.own.count y = P.count y + R.count y + w.own.count y) (hfr : FrG x w.own m m') (hwk : WkG x (T + 1) m' P' w') :
  ApG x m' (A ++ w' :: B) P' R' (T + 1) := by
 have hcall : ∀ y, P'.count y + R'.count y + ((A ++ w' :: B).flatMap Wk.own).count y = P.count y + R.count y + ((A ++ w :: B).flatMap Wk.own).count y := fun y => by
  rw [ApI.cnt_mid, ApI.cnt_mid]; have := hcnt y; omega
 have hown : ∀ y ∈ w.own, 0 ≤ y ∧ y < (x.c : Int) := fun y hy => h.rng y (by rw [ApI.cnt_mid]; have := List.count_pos_iff.2 hy; omega)
 have hoth : ∀ v, v ∈ A ∨ v ∈ B → WkG x (T + 1) m' P' v := fun v hv => by
  have hle : ∀ y ∈ v.own, 0 < (A.flatMap Wk.own).count y + (B.flatMap Wk.own).count y := fun y hy => by
   rcases hv with hv | hv
   ·have := List.count_pos_iff.2 (List.mem_flatMap.2 ⟨v, hv, hy⟩); omega
   ·have := List.count_pos_iff.2 (List.mem_flatMap.2 ⟨v, hv, hy⟩); omega
  refine (h.wk v (by rcases hv with hv | hv <;> simp [hv])).frame hgo hfr (fun y hy => h.rng y (by rw [ApI.cnt_mid]; have := hle y hy; omega)) hown (fun y hy hy2 => ?_)
  have h1 := hle y hy
  have h2 := List.count_pos_iff.2 hy2
  have h3 := h.one y
  rw [ApI.cnt_mid] at h3
  omega
 refine ⟨hlen, hok, hroot, hpool, by have := h.tag; omega, fun y => by rw [hcall]; exact h.one y, fun y hy => h.rng y (by rw [← hcall]; exact hy), fun v hv => ?_⟩
 rcases List.mem_append.1 hv with hv | hv
 ·exact hoth v (.inl hv)
 ·rcases List.mem_cons.1 hv with rfl | hv
  ·exact hwk
  ·exact hoth v (.inr hv)
section
variable {x : Cn} {T : Nat} {m : Mm} {A B : List Wk} {w : Wk} {P R : List Int}
theorem ApG.mid (h : ApG x m (A ++ w :: B) P R T) : WkG x T m P w := h.wk w (by simp)
theorem ApG.own_rng (h : ApG x m (A ++ w :: B) P R T) : ∀ y ∈ w.own, 0 ≤ y ∧ y < (x.c : Int) := fun y hy => h.rng y (by rw [ApI.cnt_mid]; have := List.count_pos_iff.2 hy; omega)
theorem ApG.own_one (h : ApG x m (A ++ w :: B) P R T) (y : Int) : P.count y + R.count y + w.own.count y ≤ 1 := by
 have := h.one y; rw [ApI.cnt_mid] at this; omega
theorem ApG.own_nd (h : ApG x m (A ++ w :: B) P R T) : w.own.Nodup := List.nodup_iff_count.2 fun y => by have := h.own_one y; omega
theorem ApG.own_P (h : ApG x m (A ++ w :: B) P R T) {y : Int} (hy : y ∈ w.own) : y ∉ P := fun h2 => by
 have h1 := h.own_one y
 have := List.count_pos_iff.2 hy; have := List.count_pos_iff.2 h2; omega
theorem ApG.xs_le (h : ApG x m (A ++ w :: B) P R T) : w.s.xs.length ≤ x.c := by
 refine length_nodup x.c w.s.xs ?_ fun y hy => ?_
 ·have := h.own_nd; unfold Wk.own at this; exact (List.nodup_append.1 this).1
 ·exact h.own_rng y (by unfold Wk.own; exact List.mem_append_left _ hy)
theorem ApG.still {w' : Wk} (h : ApG x m (A ++ w :: B) P R T) (hcnt : ∀ y, w'.own.count y = w.own.count y) (hwk : WkG x (T + 1) m.tick P w') : ApG x m.tick (A ++ w' :: B) P R (T + 1) :=
 h.upd h.len (Mm.ok_tick h.ok) h.root h.pool.tick (.inl ⟨rfl, rfl⟩) (Nat.le_succ _) (fun y => by rw [hcnt]) (fun _ _ _ _ _ => rfl) hwk
theorem alClose_wkG {s : SupS} {v : AlV} {t : TakeS} {code : Nat} {o : Hd} {n : Nat} (h1 : 1 ≤ n) (h2 : n ≤ x.wd) (lm : s.lm.size = 0) (m0 : 0 ≤ s.most) (m2 : s.most ≤ 64) (hc : v.cnt ≤ T) (hwok : (rtOf v.was).ok)
  (hnd : (s.xs ++ (if 0 ≤ v.hand then [v.hand] else [])).Nodup) (hr : ∀ y ∈ s.xs ++ (if 0 ≤ v.hand then [v.hand] else []), 0 ≤ y ∧ y < (x.c : Int)) :
  WkG x T m P ⟨(alClose x.pool s v t code o).1, (alClose x.pool s v t code o).2, n⟩ ∧ (∀ y, (Wk.own ⟨(alClose x.pool s v t code o).1, (alClose x.pool s v t code o).2, n⟩).count y = s.xs.count y + (if 0 ≤ v.hand then [v.hand] else []).count y) := by
 obtain ⟨l, hl⟩ : ∃ l, s.xs ++ (if 0 ≤ v.hand then [v.hand] else []) = l := ⟨_, rfl⟩
 have hcl : ∀ y, s.xs.count y + (if 0 ≤ v.hand then [v.hand] else []).count y = l.count y := fun y => by rw [← List.count_append, hl]
 rw [alClose_eq hnd hr hl]
 rw [hl] at hnd hr
 obtain ⟨q, hq⟩ : ∃ q, overK s.most l = q := ⟨_, rfl⟩
 rw [hq]
 have htd := List.take_append_drop q l
 have hpd : (PushS.init (l.take q)).done = decide (l.take q = []) := rfl
 refine ⟨⟨h1, h2, lm, m0, m2, Nat.le_refl _, fun _ => rfl, fun h => h.elim id (fun h => absurd rfl h), hc, fun hd => ?_⟩, fun y => ?_⟩
 ·have hnil : (l.take q).length ≤ 0 → False := fun h => by
   have : l.take q = [] := nz_ (by omega)
   rw [show (PushS.init (l.take q)).done = true by rw [hpd, this]; rfl] at hd
   cases hd
  exact ⟨Int.le_refl _, hwok, fun _ h => absurd rfl h, fun h => (by cases h), fun h => (by simp at h), fun h => (by cases h), fun h => absurd rfl h, fun h => (by cases h), fun h => (by cases h), fun _ => ⟨PushS.ok_init fun y hy => hr y (List.mem_of_mem_take hy), hd, fun _ => ⟨fun i _ h => by simp [PushS.init] at h, fun h => by simp [PushS.init] at h, fun h => (hnil h).elim, fun h => (hnil h).elim⟩⟩, fun h => absurd rfl h⟩
 ·rw [hcl]
  show (l.drop q ++ (ownH _ ++ ownG _)).count y = _
  have e3 : ownG ⟨6, { v with code := code, obj := o, point := v.cnt, ends := true, hand := -1 }, t, PushS.init (l.take q), (PushS.init (l.take q)).done⟩ = l.take q := by
   unfold ownG
   dsimp only
   rw [hpd]
   by_cases h : l.take q = []
   ·rw [h]; rfl
   ·rw [dz h]; rfl
  rw [e3]
  show (l.drop q ++ ([] ++ l.take q)).count y = _
  rw [ln, List.count_append, Nat.add_comm, ← List.count_append, htd]
end
section
variable {x : Cn} {T : Nat} {m : Mm} {A B : List Wk} {w : Wk} {P R : List Int} {slot : Nat} {gen : Int}
def AgS (x : Cn) (A B : List Wk) (n : Nat) (T : Nat) (r : Mm × SupS × AlS) : Prop := ∃ P R, ApG x r.1 (A ++ ⟨r.2.1, r.2.2, n⟩ :: B) P R (T + 1)
theorem Wk.own_g (h : WkG x T m P w) (h6 : w.a.at_ ≠ 6) : w.own = w.s.xs ++ (if 0 ≤ w.a.v.hand then [w.a.v.hand] else []) := by
 unfold Wk.own ownG ownH
 rw [h.gd (.inr h6), if_pos rfl, List.append_nil]
theorem ag_look (h : ApG x m (A ++ w :: B) P R T) (hx : x.ok) (hs : slot < x.sl) (hw8 : x.wd % 8 = 0) (hd : w.a.done = false) (h0 : w.a.at_ = 0) :
  AgS x A B w.n T (alStep (x.al slot gen w.n) m w.s w.a) := by
 have hw := h.mid
 have r := hw.run hd
 have h6 : w.a.at_ ≠ 6 := by omega
 have ho := Wk.own_g hw h6
 have e1 : alStep (x.al slot gen w.n) m w.s w.a = (m.tick, alSeen (x.al slot gen w.n) w.s { w.a.v with cnt := w.a.v.cnt + 1, was := m.at_ (x.root + slot) } w.a.t) := by unfold alStep; rw [hd, h0]; rfl
 rw [e1]
 have hrt := h.root slot hs
 obtain ⟨W, hW⟩ : ∃ W, m.at_ (x.root + slot) = W := ⟨_, rfl⟩
 rw [hW] at hrt ⊢
 have hrl := roundS_le (n := w.n) (wd := x.wd) hrt.c hw.n2 hw8
 have hrg := roundS_ge (n := w.n) hrt.c
 have hn1 := hw.n1
 have hcnt := hw.cnt
 have hnd := h.own_nd
 have hor := h.own_rng
 rw [ho] at hnd hor
 have hz0 : w.a.v.hand < 0 → w.a.v.zat = 0 := r.z0 h6
 have hco := r.co h6
 unfold alSeen
 by_cases hlv : (rtOf W).live gen
 ·rw [if_pos hlv]
  dsimp only
  obtain ⟨need, hneed⟩ : ∃ need, roundS (rtOf W).cl w.n = need := ⟨_, rfl⟩
  rw [hneed] at hrl hrg ⊢
  by_cases hf : 2 ≤ (rtOf W).mrk ∧ fitsS x.wd (rtOf W).off need
  ·rw [if_pos hf]
   refine ⟨P, R, h.still (fun y => by rw [ho, own_n]) ⟨hw.n1, hw.n2, hw.lm, hw.m0, hw.m2, (by show 1 ≤ 6; omega), fun hh => (by rcases hh with hh | hh <;> cases hh), fun _ => rfl, (by show w.a.v.cnt + 1 ≤ T + 1; omega), fun _ => ?_⟩⟩
   exact ⟨r.h0, hrt, fun _ _ => ⟨by show 1 ≤ need; omega, hrl⟩, fun _ => hf.2.2, fun hh => (by simp at hh), fun hh => (by cases hh), fun _ => hz0, fun hh => (by cases hh), fun hh => (by cases hh), fun hh => (by cases hh), fun _ => hco⟩
  ·rw [if_neg hf]
   by_cases hh0 : 0 ≤ w.a.v.hand
   ·rw [if_pos hh0]
    refine ⟨P, R, h.still (fun y => by rw [ho, own_n]) ⟨hw.n1, hw.n2, hw.lm, hw.m0, hw.m2, (by show 4 ≤ 6; omega), fun hh => (by rcases hh with hh | hh <;> cases hh), fun _ => rfl, (by show w.a.v.cnt + 1 ≤ T + 1; omega), fun _ => ?_⟩⟩
    exact ⟨r.h0, hrt, fun _ _ => ⟨by show 1 ≤ need; omega, hrl⟩, fun hh => (by cases hh), fun _ => hh0, fun hh => (by cases hh), fun _ => hz0, fun hh => (by cases hh), fun hh => (by cases hh), fun hh => (by cases hh), fun _ => hco⟩
   ·rw [if_neg hh0]
    by_cases ha : w.a.v.asked = true
    ·rw [if_pos ha]
     obtain ⟨k1, k2⟩ := alClose_wkG (x := x) (T := T + 1) (m := m.tick) (P := P) (s := w.s) (v := { w.a.v with cnt := w.a.v.cnt + 1, was := W, need := need }) (t := w.a.t) (code := 6) (o := Hd.zero) hw.n1 hw.n2 hw.lm hw.m0 hw.m2 (by show w.a.v.cnt + 1 ≤ T + 1; omega) hrt hnd hor
     exact ⟨P, R, h.still (fun y => by rw [ho, List.count_append]; exact k2 y) k1⟩
    ·rw [if_neg ha]
     rw [if_neg hh0, List.append_nil] at ho
     by_cases hxs : w.s.xs = []
     ·have e2 : takeInit x.ba w.s = (w.s, { TakeS.none_ with at_ := 1, q := PopS.init x.ba }) := by
       unfold takeInit keepT
       rw [if_pos hxs]
       simp only
       rw [if_neg (by have := hw.lm; omega)]
      rw [e2]
      have e3 : TakeS.none_.done = false := rfl
      simp only [e3, bf, if_false]
      refine ⟨P, R, h.still (fun y => by rw [ho, own_n, if_neg hh0, List.append_nil]) ⟨hw.n1, hw.n2, hw.lm, hw.m0, hw.m2, (by show 2 ≤ 6; omega), fun hh => (by rcases hh with hh | hh <;> cases hh), fun _ => rfl, (by show w.a.v.cnt + 1 ≤ T + 1; omega), fun _ => ?_⟩⟩
      refine ⟨r.h0, hrt, fun _ _ => ⟨by show 1 ≤ need; omega, hrl⟩, fun hh => (by cases hh), fun hh => (by simp at hh), fun hh => (by cases hh), fun _ => hz0, fun _ => ⟨?_, rfl⟩, fun _ => ⟨rfl, rfl, rfl, rfl, PopS.ok_init ?_ _, rfl, fun _ hh => absurd rfl hh⟩, fun hh => (by cases hh), fun _ => hco⟩
      ·show w.a.v.hand = -1
       have := r.h0; omega
      ·show 1 ≤ x.c
       obtain ⟨b1, b2, b3, b4, b5, b6, b7⟩ := show MayC (x.w : Int) x.c x.wd x.sl x.ca x.ba from hx
       omega
     ·have e2 : takeInit x.ba w.s = (w.s.kept, { TakeS.none_ with chunk := lastI w.s.xs, is_ := true, done := true }) := by
       unfold takeInit keepT
       rw [if_neg hxs]
      rw [e2]
      simp only [if_true, alTaken]
      have hlm := lastI_mem hxs
      have hlr := h.own_rng (lastI w.s.xs) (by rw [ho]; exact hlm)
      refine ⟨P, R, h.still (fun y => ?_) ⟨hw.n1, hw.n2, hw.lm, hw.m0, hw.m2, (by show 3 ≤ 6; omega), fun hh => (by rcases hh with hh | hh <;> cases hh), fun _ => rfl, (by show w.a.v.cnt + 1 ≤ T + 1; omega), fun _ => ?_⟩⟩
      ·rw [ho, own_n]
       dsimp only
       rw [if_pos hlr.1, List.count_append]
       exact lastI_count hxs y
      ·have hz := hz0 (by omega)
       refine ⟨?_, hrt, fun _ _ => ⟨by show 1 ≤ need; omega, hrl⟩, fun hh => (by cases hh), fun _ => hlr.1, fun _ => ?_, fun _ _ => hz, fun hh => (by cases hh), fun hh => (by cases hh), fun hh => (by cases hh), fun _ => hco⟩
       ·show -1 ≤ lastI w.s.xs; omega
       ·show w.a.v.zat < x.wd
        have := hw.n2; omega
 ·rw [if_neg hlv]
  obtain ⟨k1, k2⟩ := alClose_wkG (x := x) (T := T + 1) (m := m.tick) (P := P) (s := w.s) (v := { w.a.v with cnt := w.a.v.cnt + 1, was := W }) (t := w.a.t) (code := 3) (o := Hd.zero) hw.n1 hw.n2 hw.lm hw.m0 hw.m2 (by show w.a.v.cnt + 1 ≤ T + 1; omega) hrt hnd hor
  exact ⟨P, R, h.still (fun y => by rw [ho, List.count_append]; exact k2 y) k1⟩
theorem ag_root (h : ApG x m (A ++ w :: B) P R T) (hx : x.ok) (hs : slot < x.sl) (v : Nat) (hv : (rtOf v).ok) :
  Pool x.pool (m.put (x.root + slot) v) P ∧ (m.put (x.root + slot) v).ws.length = x.len ∧ FrG x w.own m (m.put (x.root + slot) v) ∧
   (m.put (x.root + slot) v).at_ x.pool.head = m.at_ x.pool.head ∧ ∀ s, s < x.sl → (rtOf ((m.put (x.root + slot) v).at_ (x.root + s))).ok := by
 have g1 : x.root + x.sl ≤ x.link := by unfold Cn.root Cn.link; omega
 have g2 : x.link + x.c = x.word := by unfold Cn.link Cn.word; omega
 have g3 : 3 ≤ x.root := by unfold Cn.root; omega
 have g4 : x.word ≤ x.len := by unfold Cn.word Cn.len; omega
 have g0 : x.pool.head = 0 := rfl
 have hl : x.root + slot < m.ws.length := by rw [h.len]; omega
 have hput : ∀ a, (m.put (x.root + slot) v).at_ a = if x.root + slot = a then v else m.at_ a := fun a => Mp a hl
 refine ⟨h.pool.put_other hl (by omega) (fun y hy => ?_), by rw [Mm.len_put]; exact h.len, fun a _ h2 _ _ => by rw [hput, if_neg (by omega)], by rw [hput, if_neg (by omega)], fun s hs2 => ?_⟩
 ·have := h.pool.c.mem y hy
  show x.root + slot ≠ x.link + y.toNat
  omega
 ·rw [hput]
  split
  ·exact hv
  ·exact h.root s hs2
theorem ag_fit (h : ApG x m (A ++ w :: B) P R T) (hx : x.ok) (hs : slot < x.sl) (hd : w.a.done = false) (h0 : w.a.at_ = 1) :
  AgS x A B w.n T (alStep (x.al slot gen w.n) m w.s w.a) := by
 obtain ⟨b1, b2, b3, b4, b5, b6, b7⟩ := show MayC (x.w : Int) x.c x.wd x.sl x.ca x.ba from hx
 have hw := h.mid
 have r := hw.run hd
 have h6 : w.a.at_ ≠ 6 := by omega
 have ho := Wk.own_g hw h6
 have hcnt := hw.cnt
 have f2 := r.fit h0
 have hwas := r.wok
 have hnd := h.own_nd
 have hor := h.own_rng
 rw [ho] at hnd hor
 by_cases he : m.at_ (x.root + slot) = w.a.v.was
 ·have e1 : alStep (x.al slot gen w.n) m w.s w.a = (m.put (x.root + slot) (Rt.w ⟨(rtOf w.a.v.was).gen, (rtOf w.a.v.was).mrk, (rtOf w.a.v.was).cl, (rtOf w.a.v.was).off + w.a.v.need⟩), alClose x.pool w.s { w.a.v with cnt := w.a.v.cnt + 1 } w.a.t 0 ⟨slot, gen, (rtOf w.a.v.was).chunk, (rtOf w.a.v.was).off, w.n⟩) := by
   unfold alStep; rw [hd, h0]; simp only [bf, if_false]; rw [if_pos he]
  rw [e1]
  obtain ⟨q, hq⟩ : ∃ q : Rt, (⟨(rtOf w.a.v.was).gen, (rtOf w.a.v.was).mrk, (rtOf w.a.v.was).cl, (rtOf w.a.v.was).off + w.a.v.need⟩ : Rt) = q := ⟨_, rfl⟩
  have hqo : q.ok := by rw [← hq]; exact ⟨hwas.g, hwas.m, hwas.c, by show (rtOf w.a.v.was).off + w.a.v.need ≤ 1024; omega⟩
  rw [hq]
  obtain ⟨p2, p3, p4, p5, p6⟩ := ag_root h hx hs q.w (by rw [rtOf_w hqo]; exact hqo)
  obtain ⟨k1, k2⟩ := alClose_wkG (x := x) (T := T + 1) (m := m.put (x.root + slot) q.w) (P := P) (s := w.s) (v := { w.a.v with cnt := w.a.v.cnt + 1 }) (t := w.a.t) (code := 0) (o := ⟨slot, gen, (rtOf w.a.v.was).chunk, (rtOf w.a.v.was).off, w.n⟩) hw.n1 hw.n2 hw.lm hw.m0 hw.m2 (by show w.a.v.cnt + 1 ≤ T + 1; omega) hwas hnd hor
  exact ⟨P, R, h.upd p3 (Mm.ok_put h.ok (Rt.w_lt hqo)) p6 p2 (.inl ⟨p5, rfl⟩) (by dsimp only; rw [p5]; omega) (fun y => by rw [k2, ho, List.count_append]) p4 k1⟩
 ·have e1 : alStep (x.al slot gen w.n) m w.s w.a = (m.tick, w.s, ⟨0, { w.a.v with cnt := w.a.v.cnt + 1 }, w.a.t, gNone, false⟩) := by
   unfold alStep; rw [hd, h0]; simp only [bf, if_false]; rw [if_neg he]
  rw [e1]
  refine ⟨P, R, h.still (fun y => by rw [ho, own_n]) ⟨hw.n1, hw.n2, hw.lm, hw.m0, hw.m2, (by show 0 ≤ 6; omega), fun hh => (by rcases hh with hh | hh <;> cases hh), fun _ => rfl, (by show w.a.v.cnt + 1 ≤ T + 1; omega), fun _ => ?_⟩⟩
  exact ⟨r.h0, r.wok, fun hh => absurd rfl hh, fun hh => (by cases hh), fun hh => (by simp at hh), fun hh => (by cases hh), fun _ => r.z0 h6, fun hh => (by cases hh), fun hh => (by cases hh), fun hh => (by cases hh), fun _ => r.co h6⟩
theorem ag_new (h : ApG x m (A ++ w :: B) P R T) (hx : x.ok) (hs : slot < x.sl) (hd : w.a.done = false) (h0 : w.a.at_ = 5) :
  AgS x A B w.n T (alStep (x.al slot gen w.n) m w.s w.a) := by
 obtain ⟨b1, b2, b3, b4, b5, b6, b7⟩ := show MayC (x.w : Int) x.c x.wd x.sl x.ca x.ba from hx
 have hw := h.mid
 have r := hw.run hd
 have h6 : w.a.at_ ≠ 6 := by omega
 have ho := Wk.own_g hw h6
 have hcnt := hw.cnt
 have hh0 := r.hand (.inr (.inr h0))
 obtain ⟨n1, n2⟩ := r.need (by omega) h6
 have hwas := r.wok
 have hnd := h.own_nd
 have hor := h.own_rng
 rw [ho] at hnd hor
 have hmem : w.a.v.hand ∈ w.own := by rw [ho, if_pos hh0]; simp
 have hr := h.own_rng _ hmem
 by_cases he : m.at_ (x.root + slot) = w.a.v.was
 ·have e1 : alStep (x.al slot gen w.n) m w.s w.a = (m.put (x.root + slot) (Rt.w ⟨(rtOf w.a.v.was).gen, 2 + w.a.v.hand.toNat, (rtOf w.a.v.was).cl, afterS x.wd w.a.v.need⟩), alClose x.pool w.s { w.a.v with cnt := w.a.v.cnt + 1, hand := -1 } w.a.t 0 ⟨slot, gen, w.a.v.hand, 0, w.n⟩) := by
   unfold alStep; rw [hd, h0]; simp only [bf, if_false]; rw [if_pos he]
  rw [e1]
  have haf2 := afterS_le n2
  obtain ⟨q, hq⟩ : ∃ q : Rt, (⟨(rtOf w.a.v.was).gen, 2 + w.a.v.hand.toNat, (rtOf w.a.v.was).cl, afterS x.wd w.a.v.need⟩ : Rt) = q := ⟨_, rfl⟩
  have hqo : q.ok := by rw [← hq]; exact ⟨hwas.g, by show 2 + w.a.v.hand.toNat ≤ 4097; omega, hwas.c, by show afterS x.wd w.a.v.need ≤ 1024; omega⟩
  rw [hq]
  obtain ⟨p2, p3, p4, p5, p6⟩ := ag_root h hx hs q.w (by rw [rtOf_w hqo]; exact hqo)
  have hnd2 : w.s.xs.Nodup := (List.nodup_append.1 hnd).1
  obtain ⟨k1, k2⟩ := alClose_wkG (x := x) (T := T + 1) (m := m.put (x.root + slot) q.w) (P := P) (s := w.s) (v := { w.a.v with cnt := w.a.v.cnt + 1, hand := -1 }) (t := w.a.t) (code := 0) (o := ⟨slot, gen, w.a.v.hand, 0, w.n⟩) hw.n1 hw.n2 hw.lm hw.m0 hw.m2 (by show w.a.v.cnt + 1 ≤ T + 1; omega) hwas
   (by rw [if_neg (by show ¬ (0 : Int) ≤ -1; omega), List.append_nil]; exact hnd2) (by rw [if_neg (by show ¬ (0 : Int) ≤ -1; omega), List.append_nil]; exact fun y hy => hor y (List.mem_append_left _ hy))
  refine ⟨P, w.a.v.hand :: R, h.upd p3 (Mm.ok_put h.ok (Rt.w_lt hqo)) p6 p2 (.inl ⟨p5, rfl⟩) (by dsimp only; rw [p5]; omega) (fun y => ?_) p4 k1⟩
  rw [k2, ho, if_pos hh0]
  dsimp only
  rw [if_neg (by omega)]
  simp only [List.count_append, List.count_cons, List.count_nil]
  omega
 ·have e1 : alStep (x.al slot gen w.n) m w.s w.a = (m.tick, w.s, ⟨0, { w.a.v with cnt := w.a.v.cnt + 1 }, w.a.t, gNone, false⟩) := by
   unfold alStep; rw [hd, h0]; simp only [bf, if_false]; rw [if_neg he]
  rw [e1]
  refine ⟨P, R, h.still (fun y => by rw [ho, own_n]) ⟨hw.n1, hw.n2, hw.lm, hw.m0, hw.m2, (by show 0 ≤ 6; omega), fun hh => (by rcases hh with hh | hh <;> cases hh), fun _ => rfl, (by show w.a.v.cnt + 1 ≤ T + 1; omega), fun _ => ?_⟩⟩
  exact ⟨r.h0, r.wok, fun hh => absurd rfl hh, fun hh => (by cases hh), fun hh => (by simp at hh), fun hh => (by cases hh), fun _ => r.z0 h6, fun hh => (by cases hh), fun hh => (by cases hh), fun hh => (by cases hh), fun _ => r.co h6⟩
end
section
variable {x : Cn} {T : Nat} {m : Mm} {A B : List Wk} {w : Wk} {P R : List Int} {slot : Nat} {gen : Int}
theorem ag_take (h : ApG x m (A ++ w :: B) P R T) (hx : x.ok) (hT : T ≤ 1000) (hd : w.a.done = false) (h0 : w.a.at_ = 2) :
  AgS x A B w.n T (alStep (x.al slot gen w.n) m w.s w.a) := by
 have hlen := hx.len_le
 have hpok := hx.pool (n := x.len) (Nat.le_refl _) hlen
 have g1 : x.root + x.sl ≤ x.link := by unfold Cn.root Cn.link; omega
 have g3 : 3 ≤ x.root := by unfold Cn.root; omega
 have g0 : x.pool.head = 0 := rfl
 have hw := h.mid
 have r := hw.run hd
 have h6 : w.a.at_ ≠ 6 := by omega
 have ho := Wk.own_g hw h6
 have hcnt := hw.cnt
 obtain ⟨hhand, hask⟩ := r.noh h0
 have hz0 := r.z0 h6 (by omega)
 have hne := r.need (by omega) h6
 have hn1 := hw.n1
 have hn2 := hw.n2
 have hco := r.co h6
 rw [if_neg (by omega), List.append_nil] at ho
 obtain ⟨t1, t2, t3, t4, t5, t6, t7⟩ := r.tk h0
 have htag : Tagged x.pool m := by unfold Tagged; have := h.tag; omega
 obtain ⟨P', p1, p2, p3, p4, p5, p6, p7⟩ := popStep_inv hpok h.len h.pool t5 htag t7
 have hq := popStep_ok (m := m) hpok h.ok t5
 have hmm := popStep_mem (m := m) hpok h.ok t5
 obtain ⟨Q, hQ⟩ : ∃ Q, popStep x.pool m w.a.t.q = Q := ⟨_, rfl⟩
 have e0 : takeStep x.pool x.ba m w.s w.a.t = if Q.1.done then (Q.2, popped w.s { w.a.t with q := Q.1 }) else (Q.2, w.s, { w.a.t with q := Q.1 }) := by
  unfold takeStep; rw [t2, t1]; simp only [bf, if_false, hQ, t1, t2]
 rw [hQ] at p1 p2 p3 p4 p5 p6 p7 hq hmm
 have hroot : ∀ s, s < x.sl → (rtOf (Q.2.at_ (x.root + s))).ok := fun s hs => by rw [p4 _ (by omega)]; exact h.root s hs
 have hfr : FrG x w.own m Q.2 := fun a h1 _ _ _ => p4 a h1
 have hout : ∀ w', (∀ y, P'.count y + w'.own.count y = P.count y + w.own.count y) → WkG x (T + 1) Q.2 P' w' → ApG x Q.2 (A ++ w' :: B) P' R (T + 1) := fun w' hc hk =>
  h.upd (by rw [hmm.2]; exact h.len) hmm.1 hroot p1 p3 p5 (fun y => by have := hc y; omega) hfr hk
 cases hqd : Q.1.done with
 | false =>
   have e2 : alStep (x.al slot gen w.n) m w.s w.a = (Q.2, w.s, ⟨2, { w.a.v with cnt := w.a.v.cnt + 1 }, { w.a.t with q := Q.1 }, gNone, false⟩) := by
    unfold alStep; rw [hd, h0]; simp only [bf, if_false, e0, hqd, t2]
   rw [e2]
   have hP := p6 hqd
   refine ⟨P', R, hout _ (fun y => ?_) ⟨hw.n1, hw.n2, hw.lm, hw.m0, hw.m2, (by show 2 ≤ 6; omega), fun hh => (by rcases hh with hh | hh <;> cases hh), fun _ => rfl, (by show w.a.v.cnt + 1 ≤ T + 1; omega), fun _ => ?_⟩⟩
   ·rw [ho, own_n, hP]
    dsimp only
    rw [if_neg (by omega), List.append_nil]
   ·exact ⟨r.h0, r.wok, fun _ _ => hne, fun hh => (by cases hh), fun hh => (by simp at hh), fun hh => (by cases hh), fun _ _ => hz0, fun _ => ⟨hhand, hask⟩, fun _ => ⟨t1, t2, t3, t4, hq, hqd, p2⟩, fun hh => (by cases hh), fun _ => hco⟩
 | true =>
   have hP := p7 t6 hqd
   cases hg : Q.1.got with
   | nil =>
     rw [hg, ln] at hP
     have e2 : alStep (x.al slot gen w.n) m w.s w.a = (Q.2, w.s, ⟨0, { w.a.v with cnt := w.a.v.cnt + 1 }, { w.a.t with q := Q.1, done := true }, gNone, false⟩) := by
      unfold alStep; rw [hd, h0]; simp only [bf, if_false, e0, hqd, if_true, popped, hg, alTaken, t4]
     rw [e2]
     refine ⟨P', R, hout _ (fun y => ?_) ⟨hw.n1, hw.n2, hw.lm, hw.m0, hw.m2, (by show 0 ≤ 6; omega), fun hh => (by rcases hh with hh | hh <;> cases hh), fun _ => rfl, (by show w.a.v.cnt + 1 ≤ T + 1; omega), fun _ => ?_⟩⟩
     ·rw [ho, own_n, hP]
      dsimp only
      rw [if_neg (by omega), List.append_nil]
     ·exact ⟨r.h0, r.wok, fun hh => absurd rfl hh, fun hh => (by cases hh), fun hh => (by simp at hh), fun hh => (by cases hh), fun _ _ => hz0, fun hh => (by cases hh), fun hh => (by cases hh), fun hh => (by cases hh), fun _ => hco⟩
   | cons z l =>
     rw [hg] at hP
     have hzr : 0 ≤ z ∧ z < (x.c : Int) := h.rng z (by rw [hP]; simp; omega)
     have e2 : alStep (x.al slot gen w.n) m w.s w.a = (Q.2, w.s.give l, ⟨3, { w.a.v with cnt := w.a.v.cnt + 1, hand := z }, { w.a.t with q := Q.1, chunk := z, is_ := true, done := true }, gNone, false⟩) := by
      unfold alStep; rw [hd, h0]; simp only [bf, if_false, e0, hqd, if_true, popped, hg, alTaken]
     rw [e2]
     refine ⟨P', R, hout _ (fun y => ?_) ⟨hw.n1, hw.n2, hw.lm, hw.m0, hw.m2, (by show 3 ≤ 6; omega), fun hh => (by rcases hh with hh | hh <;> cases hh), fun _ => rfl, (by show w.a.v.cnt + 1 ≤ T + 1; omega), fun _ => ?_⟩⟩
     ·rw [ho, own_n, hP]
      dsimp only
      rw [if_pos hzr.1]
      simp only [SupS.give, List.count_append, List.count_cons, lc, List.count_nil]
      omega
     ·refine ⟨by show -1 ≤ z; omega, r.wok, fun _ _ => hne, fun hh => (by cases hh), fun _ => hzr.1, fun _ => ?_, fun _ _ => hz0, fun hh => (by cases hh), fun hh => (by cases hh), fun hh => (by cases hh), fun _ => hco⟩
      show w.a.v.zat < x.wd
      omega
theorem ag_zero (h : ApG x m (A ++ w :: B) P R T) (hx : x.ok) (hd : w.a.done = false) (h0 : w.a.at_ = 3) :
  AgS x A B w.n T (alStep (x.al slot gen w.n) m w.s w.a) := by
 have g1 : x.root + x.sl ≤ x.link := by unfold Cn.root Cn.link; omega
 have g2 : x.link + x.c = x.word := by unfold Cn.link Cn.word; omega
 have g3 : 3 ≤ x.root := by unfold Cn.root; omega
 have g5 : x.word + x.c * x.wd = x.len := by unfold Cn.word Cn.len; omega
 have g0 : x.pool.head = 0 := rfl
 have hw := h.mid
 have r := hw.run hd
 have h6 : w.a.at_ ≠ 6 := by omega
 have ho := Wk.own_g hw h6
 have hcnt := hw.cnt
 have hh0 := r.hand (.inl h0)
 have hzl := r.zlt h0
 have hmem : w.a.v.hand ∈ w.own := by rw [ho, if_pos hh0]; simp
 have hr := h.own_rng _ hmem
 have e1 : alStep (x.al slot gen w.n) m w.s w.a = (m.put (x.word + w.a.v.hand.toNat * x.wd + w.a.v.zat) 0, w.s, ⟨if w.a.v.zat + 1 < x.wd then 3 else 4, { w.a.v with cnt := w.a.v.cnt + 1, zat := w.a.v.zat + 1 }, w.a.t, gNone, false⟩) := by
  unfold alStep; rw [hd, h0]; rfl
 rw [e1]
 have hmul : w.a.v.hand.toNat * x.wd + x.wd ≤ x.c * x.wd := by
  have : (w.a.v.hand.toNat + 1) * x.wd ≤ x.c * x.wd := Nat.mul_le_mul_right _ (by omega)
  rw [Nat.succ_mul] at this; exact this
 obtain ⟨q, hq⟩ : ∃ q, x.word + w.a.v.hand.toNat * x.wd + w.a.v.zat = q := ⟨_, rfl⟩
 have hql : q < m.ws.length := by rw [h.len]; omega
 have hput : ∀ a, (m.put q 0).at_ a = if q = a then 0 else m.at_ a := fun a => Mp a hql
 rw [hq]
 have hhead : (m.put q 0).at_ x.pool.head = m.at_ x.pool.head := by rw [hput, if_neg (by omega)]
 refine ⟨P, R, h.upd (by rw [Mm.len_put]; exact h.len) (Mm.ok_put h.ok (by omega)) (fun s hs => by dsimp only; rw [hput, if_neg (by omega)]; exact h.root s hs) (h.pool.put_other hql (by omega) (fun y hy => ?_)) (.inl ⟨hhead, rfl⟩) (by dsimp only; rw [hhead]; omega) (fun y => ?_) (fun a _ _ _ h4 => ?_) ?_⟩
 ·have := h.pool.c.mem y hy
  have h2 : y < (x.c : Int) := this.2
  show q ≠ x.link + y.toNat
  omega
 ·rw [ho, own_n]
 ·dsimp only
  rw [hput, if_neg (by omega)]
 ·refine ⟨hw.n1, hw.n2, hw.lm, hw.m0, hw.m2, (by dsimp only; split <;> omega), fun hh => ?_, fun _ => rfl, (by show w.a.v.cnt + 1 ≤ T + 1; omega), fun _ => ?_⟩
  ·dsimp only at hh
   rcases hh with hh | hh
   ·cases hh
   ·split at hh <;> omega
  ·refine ⟨r.h0, r.wok, fun _ _ => r.need (by omega) h6, fun hh => ?_, fun _ => hh0, fun hh => ?_, fun _ hh => absurd hh0 (by have : w.a.v.hand < 0 := hh; omega), fun hh => ?_, fun hh => ?_, fun hh => ?_, fun _ => r.co h6⟩
   ·dsimp only at hh; split at hh <;> omega
   ·dsimp only at hh ⊢
    split at hh
    ·assumption
    ·omega
   ·dsimp only at hh; split at hh <;> omega
   ·dsimp only at hh; split at hh <;> omega
   ·dsimp only at hh; split at hh <;> omega
theorem ag_link (h : ApG x m (A ++ w :: B) P R T) (hx : x.ok) (hd : w.a.done = false) (h0 : w.a.at_ = 4) :
  AgS x A B w.n T (alStep (x.al slot gen w.n) m w.s w.a) := by
 have g1 : x.root + x.sl ≤ x.link := by unfold Cn.root Cn.link; omega
 have g2 : x.link + x.c = x.word := by unfold Cn.link Cn.word; omega
 have g3 : 3 ≤ x.root := by unfold Cn.root; omega
 have g5 : x.word + x.c * x.wd = x.len := by unfold Cn.word Cn.len; omega
 have g0 : x.pool.head = 0 := rfl
 have hw := h.mid
 have r := hw.run hd
 have h6 : w.a.at_ ≠ 6 := by omega
 have ho := Wk.own_g hw h6
 have hcnt := hw.cnt
 have hh0 := r.hand (.inr (.inl h0))
 have hmem : w.a.v.hand ∈ w.own := by rw [ho, if_pos hh0]; simp
 have hr := h.own_rng _ hmem
 obtain ⟨V, hV⟩ : ∃ V, ((rtOf w.a.v.was).chunk + 1).toNat = V := ⟨_, rfl⟩
 have hVl : V < 18446744073709551616 := by
  rw [← hV]; unfold Rt.chunk
  have := rtOf_mrk w.a.v.was
  split <;> omega
 have e1 : alStep (x.al slot gen w.n) m w.s w.a = (m.put (x.link + w.a.v.hand.toNat) V, w.s, ⟨5, { w.a.v with cnt := w.a.v.cnt + 1 }, w.a.t, gNone, false⟩) := by
  unfold alStep; rw [hd, h0, ← hV]; rfl
 rw [e1]
 obtain ⟨q, hq⟩ : ∃ q, x.link + w.a.v.hand.toNat = q := ⟨_, rfl⟩
 have hql : q < m.ws.length := by rw [h.len]; omega
 have hput : ∀ a, (m.put q V).at_ a = if q = a then V else m.at_ a := fun a => Mp a hql
 rw [hq]
 have hhead : (m.put q V).at_ x.pool.head = m.at_ x.pool.head := by rw [hput, if_neg (by omega)]
 refine ⟨P, R, h.upd (by rw [Mm.len_put]; exact h.len) (Mm.ok_put h.ok hVl) (fun s hs => by dsimp only; rw [hput, if_neg (by omega)]; exact h.root s hs) (h.pool.put_other hql (by omega) (fun y hy => ?_)) (.inl ⟨hhead, rfl⟩) (by dsimp only; rw [hhead]; omega) (fun y => by rw [ho, own_n]) (fun a _ _ h3 _ => ?_) ?_⟩
 ·have := h.pool.c.mem y hy
  have hyn : y ≠ w.a.v.hand := fun e => h.own_P hmem (by rw [← e]; exact hy)
  show q ≠ x.link + y.toNat
  omega
 ·dsimp only
  rw [hput, if_neg (fun e => h3 _ hmem (by rw [hq]; exact e.symm))]
 ·refine ⟨hw.n1, hw.n2, hw.lm, hw.m0, hw.m2, (by show 5 ≤ 6; omega), fun hh => (by rcases hh with hh | hh <;> cases hh), fun _ => rfl, (by show w.a.v.cnt + 1 ≤ T + 1; omega), fun _ => ?_⟩
  exact ⟨r.h0, r.wok, fun _ _ => r.need (by omega) h6, fun hh => (by cases hh), fun _ => hh0, fun hh => (by cases hh), fun _ => r.z0 h6, fun hh => (by cases hh), fun hh => (by cases hh), fun hh => (by cases hh), fun _ => r.co h6⟩
theorem ag_push (h : ApG x m (A ++ w :: B) P R T) (hx : x.ok) (hT : T ≤ 1000) (hd : w.a.done = false) (h0 : w.a.at_ = 6) :
  AgS x A B w.n T (alStep (x.al slot gen w.n) m w.s w.a) := by
 have hlen := hx.len_le
 have hpok := hx.pool (n := x.len) (Nat.le_refl _) hlen
 have g1 : x.root + x.sl ≤ x.link := by unfold Cn.root Cn.link; omega
 have g3 : 3 ≤ x.root := by unfold Cn.root; omega
 have g0 : x.pool.head = 0 := rfl
 have gl : x.pool.links = x.link := rfl
 have hw := h.mid
 have r := hw.run hd
 have hcnt := hw.cnt
 have hhand := hw.h6 (.inr h0)
 obtain ⟨t1, t2, t3⟩ := r.ps h0
 have hog : ownG w.a = w.a.g.l := by unfold ownG; rw [t2]; rfl
 have ho : w.own = w.s.xs ++ w.a.g.l := by unfold Wk.own ownH; rw [if_neg (by omega), hog, ln]
 have hsub : ∀ y ∈ w.a.g.l, y ∈ w.own := fun y hy => by rw [ho]; exact List.mem_append_right _ hy
 have htag : Tagged x.pool m := by unfold Tagged; have := h.tag; omega
 have hnd := h.own_nd
 rw [ho] at hnd
 obtain ⟨P', p1, p2, p3, p4, p5, p6, p7, p8⟩ := pushStep_inv hpok h.len h.pool t1 (List.nodup_append.1 hnd).2.1 (fun y hy => h.own_P (hsub y hy)) htag t3
 have hq := pushStep_ok (k := x.pool) (m := m) h.ok t1
 have hmm := pushStep_mem (m := m) hpok h.ok t1
 obtain ⟨Q, hQ⟩ : ∃ Q, pushStep x.pool m w.a.g = Q := ⟨_, rfl⟩
 rw [hQ] at p1 p2 p3 p4 p5 p6 p7 p8 hq hmm
 have e1 : alStep (x.al slot gen w.n) m w.s w.a = (Q.2, w.s, ⟨6, { w.a.v with cnt := w.a.v.cnt + 1 }, w.a.t, Q.1, Q.1.done⟩) := by
  unfold alStep; rw [hd, h0, ← hQ]; rfl
 rw [e1]
 refine ⟨P', R, h.upd (by dsimp only; rw [hmm.2]; exact h.len) hmm.1 (fun s hs => by dsimp only; rw [p4 _ (by omega) (fun y hy => by rw [gl]; omega)]; exact h.root s hs) p1 p3 p5 (fun y => ?_) (fun a k1 _ k3 _ => p4 a k1 (fun y hy => k3 y (hsub y hy))) ?_⟩
 ·rw [ho]
  cases hqd : Q.1.done with
  | false =>
    have e : Wk.own ⟨w.s, ⟨6, { w.a.v with cnt := w.a.v.cnt + 1 }, w.a.t, Q.1, Q.1.done⟩, w.n⟩ = w.s.xs ++ w.a.g.l := by
     show w.s.xs ++ ((if 0 ≤ w.a.v.hand then [w.a.v.hand] else []) ++ (if Q.1.done = true then [] else Q.1.l)) = _
     rw [hqd, if_neg (by omega), p6]; rfl
    rw [hqd] at e
    rw [p7 hqd]
    dsimp only
    rw [e]
  | true =>
    have e : Wk.own ⟨w.s, ⟨6, { w.a.v with cnt := w.a.v.cnt + 1 }, w.a.t, Q.1, Q.1.done⟩, w.n⟩ = w.s.xs := by
     show w.s.xs ++ ((if 0 ≤ w.a.v.hand then [w.a.v.hand] else []) ++ (if Q.1.done = true then [] else Q.1.l)) = _
     rw [hqd, if_neg (by omega)]; simp
    rw [hqd] at e
    rw [p8 t2 hqd]
    dsimp only
    rw [e]
    simp only [List.count_append]; omega
 ·refine ⟨hw.n1, hw.n2, hw.lm, hw.m0, hw.m2, Nat.le_refl _, fun _ => hhand, fun hh => hh.elim id (fun hh => absurd rfl hh), (by show w.a.v.cnt + 1 ≤ T + 1; omega), fun hh => ?_⟩
  exact ⟨r.h0, r.wok, fun _ hh => absurd rfl hh, fun hh => (by cases hh), fun hh => (by simp at hh), fun hh => (by cases hh), fun hh => absurd rfl hh, fun hh => (by cases hh), fun hh => (by cases hh), fun _ => ⟨hq, hh, p2⟩, fun hh => absurd rfl hh⟩
theorem ag_step (h : ApG x m (A ++ w :: B) P R T) (hx : x.ok) (hs : slot < x.sl) (hT : T ≤ 1000) (hw8 : x.wd % 8 = 0) (hd : w.a.done = false) : AgS x A B w.n T (alStep (x.al slot gen w.n) m w.s w.a) := by
 have ha := h.mid.a6
 rcases (show w.a.at_ = 0 ∨ w.a.at_ = 1 ∨ w.a.at_ = 2 ∨ w.a.at_ = 3 ∨ w.a.at_ = 4 ∨ w.a.at_ = 5 ∨ w.a.at_ = 6 by omega) with h0 | h0 | h0 | h0 | h0 | h0 | h0
 ·exact ag_look h hx hs hw8 hd h0
 ·exact ag_fit h hx hs hd h0
 ·exact ag_take h hx hT hd h0
 ·exact ag_zero h hx hd h0
 ·exact ag_link h hx hd h0
 ·exact ag_new h hx hs hd h0
 ·exact ag_push h hx hT hd h0
theorem ApG.alOk (h : ApG x m (A ++ w :: B) P R T) (hT : T ≤ 1000) (hd : w.a.done = false) : AlOk x w.a := by
 have hw := h.mid
 have r := hw.run hd
 refine ⟨hw.a6, by have := hw.cnt; omega, r.h0, ?_, r.wok, r.fit, fun h5 => r.need (by omega) (by omega), r.hand, r.zlt, fun h2 => ?_⟩
 ·by_cases hh : 0 ≤ w.a.v.hand
  ·exact (h.own_rng w.a.v.hand (by unfold Wk.own ownH; rw [if_pos hh]; simp)).2
  ·omega
 ·obtain ⟨t1, t2, t3, t4, _⟩ := r.tk h2
  exact ⟨by omega, fun _ => ⟨t3, t4⟩⟩
theorem ApG.refA (h : ApG x m (A ++ w :: B) P R T) (hx : x.ok) (hd : w.a.done = false) : RefA x w.s w.a := by
 obtain ⟨b1, b2, b3, b4, b5, b6, b7⟩ := show MayC (x.w : Int) x.c x.wd x.sl x.ca x.ba from hx
 have hw := h.mid
 have r := hw.run hd
 have hnd := h.own_nd
 have hor := h.own_rng
 refine ⟨fun h6 => (r.co h6).1, fun h6 => (r.co h6).2, r.z0, fun h2 => ?_, fun h6 => ?_, fun h6 => ?_, fun h6 => ?_⟩
 ·obtain ⟨t1, t2, t3, t4, t5, _⟩ := r.tk h2
  exact ⟨(r.noh h2).2, (r.noh h2).1, t5, t1, t2, t4⟩
 ·obtain ⟨t1, t2, _⟩ := r.ps h6
  refine ⟨t1, ?_⟩
  have hog : ownG w.a = w.a.g.l := by unfold ownG; rw [t2]; rfl
  have : w.a.g.l.length ≤ x.c := by
   refine length_nodup x.c _ ?_ t1.g
   unfold Wk.own at hnd; rw [hog] at hnd
   exact (List.nodup_append.1 (List.nodup_append.1 hnd).2.1).2.1
  omega
 ·rw [Wk.own_g hw h6] at hnd; exact hnd
 ·rw [Wk.own_g hw h6] at hor; exact hor
end
section
open Go
attribute [local irreducible] Sx Cx Rx Fx Krg Ksq Kbl Klp Kr
section
variable {L F G : St}
end
theorem ints_getD {xs : List Int} {i : Nat} {x : Int} (h : xs[i]? = some x) : (ints xs)[i]? = some (ii x) := by simp [ints, h]
section
variable {L F : St}
theorem Rd.atD {a : OA} {n i : Nat} {vs : List Value} {v : Value} (h : Rd L 1 a n vs) (hv : vs[i]? = some v) : ∃ b o, a = some ⟨b, o, none⟩ ∧ Has L b (o + i) [v] := by
 obtain ⟨h1, h0 | ⟨b, o, rfl, h2⟩⟩ := h
 ·have := (List.getElem?_eq_some_iff.1 hv).1; omega
 ·exact ⟨b, o, rfl, h2.at_ hv⟩
theorem seqN {q : Nat} {xs : List Int} {a : OA} {n c i : Nat} {m : Int} {F : St} [t : Take L (ad q) (Blk 125 [.slice a n c, ii i]) F]
  (hr : Rd L 1 a n (ints xs)) (hi : i ≤ 1000000000) (hm : 0 < m) (hm2 : m ≤ 4611686018427387904) :
  FX 68 [zp q, ii m] L (fun v L' => v = ii (xs.getD i 0 % m) ∧ L' = pt (ad q) (Blk 125 [.slice a n c, ii ((i + 1 : Nat) : Int)]) :: F) := by
 have hn : n = xs.length := by have := hr.1; simp [ints] at this; omega
 refine Fm Tryz.func68 k68 ?_
 dsimp only [c68, eL]
 refine go ?_
 refine Cx.calm kr_ ?_
 repeat' (first | (refine Cm.pvs rfl ?_) | (refine Cm.step rfl ?_) | (refine Cm.done ?_) | (refine Cm.ldb rfl rfl (by rfl) ?_) | (refine Cm.ldbs rfl rfl rfl ?_))
 refine Cx.jn (β := Unit) (fun _ => [(0, zp q), (1, ii m), (5, ii (xs.getD i 0))]) (fun _ => L) ?_ ?_
 ·refine Xi rfl (fun h => ?_) (fun h => ?_)
  ·have hlt : i < xs.length := by omega
   have hg : (ints xs)[i]? = some (ii (xs.getD i 0)) := ints_getD (by simp [hlt])
   obtain ⟨b, o, rfl, hh⟩ := hr.atD hg
   refine Cx.calmK Kjn.mono kr_ ?_
   repeat' (first | (refine Cm.pvs rfl ?_) | (refine Cm.step rfl ?_) | (refine Cm.done ?_) | (refine Cm.ldb rfl rfl (by rfl) ?_) | (refine Cm.ldbs rfl rfl rfl ?_))
   refine Cm.pv rfl rfl ⟨by omega, by omega⟩ ?_
   refine Cm.ld rfl rfl (by simpa using hh) rfl ?_
   repeat' (first | (refine Cm.pvs rfl ?_) | (refine Cm.step rfl ?_) | (refine Cm.done ?_) | (refine Cm.ldb rfl rfl (by rfl) ?_) | (refine Cm.ldbs rfl rfl rfl ?_))
   exact Cm.nil (Kjn.nm () sb3 (Er _))
  ·refine go ?_
   refine Kjn.nm () (sub.cons rfl (sub.cons rfl (sub.cons ?_ sub.nil))) (Er _)
   rw [show xs.getD i 0 = 0 by rw [List.getD_eq_getElem?_getD, List.getElem?_eq_none (by omega)]; rfl]
   rfl
 ·rintro ⟨⟩
  refine go ?_
  rw [w64 (by omega) (by omega)]
  refine Sa rfl (number _ m hm hm2) ?_
  rintro v L' ⟨rfl, rfl⟩
  refine go ?_
  exact Ko rfl (Er _) ⟨rfl, by simp⟩
def SmallC (w c wd sl ca ba : Int) : Prop := (1 ≤ w ∧ w ≤ 4) ∧ (1 ≤ c ∧ c ≤ 8) ∧ (wd = 8 ∨ wd = 16) ∧ (1 ≤ sl ∧ sl ≤ 4) ∧ (0 ≤ ca ∧ ca ≤ 3) ∧ (1 ≤ ba ∧ ba ≤ 3)
theorem config_ (n : Int) : FX 13 [ii n] L (fun v L' => (∃ w c wd sl ca ba, v = cfg w c wd sl ca ba ∧ SmallC w c wd sl ca ba) ∧ L = L') := by
 refine Fm Tryz.func13 k13 ?_
 dsimp only [c13, eL]
 refine go ?_
 refine Sx.al fun g => (go ?_)
 refine Sa rfl (number n 4 (by omega) (by omega)) ?_
 rintro v L' ⟨rfl, rfl⟩
 refine go ?_
 refine Sv rfl (by decide) ?_
 refine Sa rfl (number _ 8 (by omega) (by omega)) ?_
 rintro v L' ⟨rfl, rfl⟩
 refine go ?_
 refine Sv rfl (by decide) ?_
 refine Sa rfl (number _ 2 (by omega) (by omega)) ?_
 rintro v L' ⟨rfl, rfl⟩
 refine go ?_
 refine Sv rfl (by decide) ?_
 refine Sa rfl (number _ 4 (by omega) (by omega)) ?_
 rintro v L' ⟨rfl, rfl⟩
 refine go ?_
 refine Sv rfl (by decide) ?_
 refine Sa rfl (number _ 4 (by omega) (by omega)) ?_
 rintro v L' ⟨rfl, rfl⟩
 refine go ?_
 refine Sv rfl (by decide) ?_
 refine Sa rfl (number _ 3 (by omega) (by omega)) ?_
 rintro v L' ⟨rfl, rfl⟩
 refine go ?_
 generalize n % 4 = x0
 generalize IntKind.i64.wrap (n.tdiv 4) % 8 = x1
 generalize IntKind.i64.wrap (n.tdiv 32) % 2 = x2
 generalize IntKind.i64.wrap (n.tdiv 64) % 4 = x3
 generalize IntKind.i64.wrap (n.tdiv 256) % 4 = x4
 generalize IntKind.i64.wrap (n.tdiv 1024) % 3 = x5
 refine Sx.bs (sz := 1) rfl rfl fun r => (go ?_)
 refine Sx.bx rfl rfl fun q => (go ?_)
 refine Sa rfl (seqN (q := q) (xs := [x0, x1, x2, x3, x4, x5]) (i := 0) (Rd.row (b := r) (E := 3) (cap := 6) rfl) (by omega) (by omega) (by omega)) ?_
 rintro v L' ⟨rfl, rfl⟩
 refine go ?_
 refine Sa rfl (seqN (q := q) (xs := [x0, x1, x2, x3, x4, x5]) (i := 1) (Rd.row (b := r) (E := 3) (cap := 6) rfl) (by omega) (by omega) (by omega)) ?_
 rintro v L' ⟨rfl, rfl⟩
 refine go ?_
 refine Sa rfl (seqN (q := q) (xs := [x0, x1, x2, x3, x4, x5]) (i := 2) (Rd.row (b := r) (E := 3) (cap := 6) rfl) (by omega) (by omega) (by omega)) ?_
 rintro v L' ⟨rfl, rfl⟩
 refine go ?_
 refine Sa rfl (seqN (q := q) (xs := [x0, x1, x2, x3, x4, x5]) (i := 3) (Rd.row (b := r) (E := 3) (cap := 6) rfl) (by omega) (by omega) (by omega)) ?_
 rintro v L' ⟨rfl, rfl⟩
 refine go ?_
 refine Sa rfl (seqN (q := q) (xs := [x0, x1, x2, x3, x4, x5]) (i := 4) (Rd.row (b := r) (E := 3) (cap := 6) rfl) (by omega) (by omega) (by omega)) ?_
 rintro v L' ⟨rfl, rfl⟩
 refine go ?_
 refine Sa rfl (seqN (q := q) (xs := [x0, x1, x2, x3, x4, x5]) (i := 5) (Rd.row (b := r) (E := 3) (cap := 6) rfl) (by omega) (by omega) (by omega)) ?_
 rintro v L' ⟨rfl, rfl⟩
 refine go ?_
 refine Sx.st (b := g) rfl rfl rfl rfl rfl rfl ?_
 dsimp only [lay]
 refine go ?_
 refine Kr_cell (b := g) (.inr rfl) rfl rfl (L' := L) ?_ ⟨⟨_, _, _, _, _, _, rfl, ?_⟩, rfl⟩
 ·exact ent
 ·have h0 := Int.emod_nonneg x0 (show (4 : Int) ≠ 0 by omega)
  have h0' := Int.emod_lt_of_pos x0 (show (0 : Int) < 4 by omega)
  have h1 := Int.emod_nonneg x1 (show (8 : Int) ≠ 0 by omega)
  have h1' := Int.emod_lt_of_pos x1 (show (0 : Int) < 8 by omega)
  have h2 := Int.emod_nonneg x2 (show (2 : Int) ≠ 0 by omega)
  have h2' := Int.emod_lt_of_pos x2 (show (0 : Int) < 2 by omega)
  have h3 := Int.emod_nonneg x3 (show (4 : Int) ≠ 0 by omega)
  have h3' := Int.emod_lt_of_pos x3 (show (0 : Int) < 4 by omega)
  have h4 := Int.emod_nonneg x4 (show (4 : Int) ≠ 0 by omega)
  have h4' := Int.emod_lt_of_pos x4 (show (0 : Int) < 4 by omega)
  have h5 := Int.emod_nonneg x5 (show (3 : Int) ≠ 0 by omega)
  have h5' := Int.emod_lt_of_pos x5 (show (0 : Int) < 3 by omega)
  simp only [List.getD_cons_zero, List.getD_cons_succ]
  rw [w64 (n := 1 + x0 % 4) (by omega) (by omega), w64 (n := 1 + x1 % 8) (by omega) (by omega), w64 (n := 8 * (x2 % 2)) (by omega) (by omega), w64 (n := 8 + 8 * (x2 % 2)) (by omega) (by omega), w64 (n := 1 + x3 % 4) (by omega) (by omega), w64 (n := 1 + x5 % 3) (by omega) (by omega)]
  unfold SmallC
  omega
end
theorem iotaI_len (n : Nat) : (iotaI n).length = n := by simp [iotaI]
theorem iotaI_mem {n : Nat} {x : Int} (h : x ∈ iotaI n) : 0 ≤ x ∧ x < n := by
 simp only [iotaI, List.mem_map, List.mem_range] at h
 obtain ⟨i, hi, rfl⟩ := h
 omega
section
variable {L F G : St}
end
section
variable {L F G : St}
theorem Cn.ok.w8 {x : Cn} (h : x.ok) : x.wd % 8 = 0 := by
 obtain ⟨_, _, _, b4, _⟩ := show MayC (x.w : Int) x.c x.wd x.sl x.ca x.ba from h
 rw [show (8 : Int) = ((8 : Nat) : Int) from rfl, natTmod] at b4
 omega
end
end
structure GA (x : Cn) (cl : Nat) (m : Mm) (ch : Int) (off used : Nat) (l : List Int) : Prop where
 len : m.ws.length = x.len
 ok : m.ok
 pool : Pool x.pool m l
 cnt : l.length + used = x.c
 root : rtOf (m.at_ (x.root + 0)) = ⟨1, if ch = -1 then 1 else (ch + 2).toNat, cl, off⟩
 ch1 : -1 ≤ ch
 ch2 : ch < x.c
 out : ch ∉ l
 off1 : off ≤ x.wd
section
variable {x : Cn} {cl n : Nat} {m : Mm} {S : SupS} {ch : Int} {off used : Nat} {l : List Int}
end
section
open Go Go.RowKit Go.ChangeShapes Go.WideShapes
def In (w : World) (sz : Nat) (v : Value) (n : Nat) (vs : List Value) : Prop :=
 vs.length = n * sz ∧ n ≤ maxLen ∧ ∃ a c, v = .slice a n c ∧ (n = 0 ∨ ∃ b o, a = some ⟨b, o, none⟩ ∧ ∀ j u, vs[j]? = some u → w.cell? ⟨b, o + j, none⟩ = some u)
theorem addr_add (b o i : Nat) : (⟨b, o, none⟩ : Addr).add i = ⟨b, o + i, none⟩ := by
 unfold Addr.add; split <;> simp_all
theorem In.rd {w : World} {sz n : Nat} {v : Value} {vs : List Value} (h : In w sz v n vs) : n ≤ maxLen ∧ ∃ a c, v = .slice a n c ∧ ∀ L : St, Ent L [Old w] → Rd L sz a n vs := by
 obtain ⟨h1, h2, a, c, rfl, h3⟩ := h
 refine ⟨h2, a, c, rfl, fun L hL => ⟨h1, h3.imp id ?_⟩⟩
 rintro ⟨b, o, rfl, hc⟩
 exact ⟨b, o, rfl, Has.old hL hc⟩
theorem flat_get {sz : Nat} (hp : 0 < sz) : ∀ (rows : List (List Value)) (h : ∀ r ∈ rows, r.length = sz) (j : Nat), rows.flatten[j]? = (rows[j / sz]?).bind (·[j % sz]?)
 | [], _, j => by simp
 | r :: l, h, j => by
   have hr : r.length = sz := h r (by simp)
   have ih := flat_get hp l (fun x hx => h x (by simp [hx]))
   by_cases hj : j < sz
   ·rw [List.flatten_cons, List.getElem?_append_left (by omega), Nat.div_eq_of_lt hj, Nat.mod_eq_of_lt hj]
    simp
   ·rw [List.flatten_cons, List.getElem?_append_right (by omega), hr, ih]
    obtain ⟨q, rfl⟩ : ∃ q, j = q + sz := ⟨j - sz, by omega⟩
    rw [Nat.add_sub_cancel, Nat.add_mod_right, Nat.add_div_right q hp]
    simp
theorem flat_length {sz : Nat} : ∀ (rows : List (List Value)) (h : ∀ r ∈ rows, r.length = sz), rows.flatten.length = rows.length * sz
 | [], _ => by simp
 | r :: l, h => by
   have hr : r.length = sz := h r (by simp)
   have ih := flat_length l (fun x hx => h x (by simp [hx]))
   rw [List.flatten_cons, List.length_append, ih, hr, List.length_cons, Nat.add_mul]; omega
section
variable {H : Type} {enc : TypeId × Value → H} {P : Program} {w : World} {base : Nat} {held : Bool}
theorem In.rows {t e : TypeId} {sz fuel : Nat} {v : Value} {x : DataW H × List MemPlace} (ht : P.underlying t = some (.slice e)) (hs : P.cellsOf e = sz) (hp : 0 < sz)
  (h : DataW.trod enc P w base (fun _ => true) held fuel t [v] = some x) :
  ∃ rows : List (List Value), In w sz v rows.length rows.flatten ∧ ∀ r ∈ rows, r.length = sz ∧ ∃ n y, DataW.trod enc P w base (fun _ => true) held n e r = some y := by
 rcases Deep.open_slice ht h with ⟨h0, _⟩ | ⟨a, len, cap, m, n, D, Pl, h0, hb, hl, hm, hmm, rfl, hx⟩
 ·simp only [List.cons.injEq, and_true] at h0
  subst h0
  exact ⟨[], ⟨by simp, by simp, none, 0, rfl, .inl rfl⟩, by simp⟩
 ·simp only [List.cons.injEq, and_true] at h0
  subst h0
  simp only [if_true] at hmm
  subst hmm
  rw [hs] at hx
  obtain ⟨V, hV⟩ := Deep.choose_lt (α := List Value) (p := fun i cs' => w.cells? base (a.add (i * sz)) sz = some cs' ∧ DataW.trod enc P w base (fun _ => true) held n e cs' = some (D i, Pl i)) hx
  have hlen : ∀ i, i < m → (V i).length = sz := fun i hi => (World.cells?_some (hV i hi).1).2.1
  refine ⟨(List.range len).map V, ⟨?_, ?_, some a, m, by simp, ?_⟩, ?_⟩
  ·rw [flat_length _ (by simp only [List.mem_map, List.mem_range]; rintro r ⟨i, hi, rfl⟩; exact hlen i (by omega))]
  ·simp; omega
  ·rcases Nat.eq_zero_or_pos len with h0 | h0
   ·left; simpa using h0
   ·right
    obtain ⟨b, o, spot⟩ := a
    have hc0 := (World.cells?_some (hV 0 (by omega)).1).2.2 0 hp
    rw [List.getElem?_eq_getElem (by rw [hlen 0 (by omega)]; exact hp)] at hc0
    have hspot : spot = none := by simpa [Addr.add] using World.cell?_spot hc0
    subst hspot
    refine ⟨b, o, rfl, fun j u hu => ?_⟩
    rw [flat_get hp _ (by simp only [List.mem_map, List.mem_range]; rintro r ⟨i, hi, rfl⟩; exact hlen i (by omega))] at hu
    obtain ⟨r, hr, hj⟩ := Option.bind_eq_some_iff.1 hu
    rw [List.getElem?_map] at hr
    obtain ⟨i, hi, rfl⟩ := Option.map_eq_some_iff.1 hr
    have hi' : j / sz < len := by have := (List.getElem?_eq_some_iff.1 hi).1; simpa using this
    have hij : i = j / sz := by simpa [hi'] using hi.symm
    subst hij
    have hc := (World.cells?_some (hV (j / sz) (by omega)).1).2.2 (j % sz) (Nat.mod_lt _ hp)
    rw [hj] at hc
    have he : o + j = o + j / sz * sz + j % sz := by have := Nat.div_add_mod j sz; rw [Nat.mul_comm] at this; omega
    rw [he]
    rwa [addr_add, addr_add] at hc
  ·simp only [List.mem_map, List.mem_range]
   rintro r ⟨i, hi, rfl⟩
   exact ⟨hlen i (by omega), n, _, (hV i (by omega)).2⟩
theorem In.ones {t e : TypeId} {fuel : Nat} {v : Value} {x : DataW H × List MemPlace} (ht : P.underlying t = some (.slice e)) (hs : P.cellsOf e = 1)
  (h : DataW.trod enc P w base (fun _ => true) held fuel t [v] = some x) :
  ∃ us : List Value, In w 1 v us.length us ∧ ∀ u ∈ us, ∃ n y, DataW.trod enc P w base (fun _ => true) held n e [u] = some y := by
 obtain ⟨rows, h1, h2⟩ := In.rows ht hs (by omega) h
 have key : ∀ rows : List (List Value), (∀ r ∈ rows, r.length = 1 ∧ ∃ n y, DataW.trod enc P w base (fun _ => true) held n e r = some y) → ∀ u ∈ rows.flatten, ∃ n y, DataW.trod enc P w base (fun _ => true) held n e [u] = some y := by
  intro rows h2 u hu
  obtain ⟨r, hr, hur⟩ := List.mem_flatten.1 hu
  obtain ⟨hl, n, y, hy⟩ := h2 r hr
  match r, hl with
  | [z], _ =>
    simp only [List.mem_singleton] at hur
    subst hur
    exact ⟨n, y, hy⟩
 refine ⟨rows.flatten, ?_, key rows h2⟩
 rw [flat_length rows (fun r hr => (h2 r hr).1), Nat.mul_one]
 exact h1
theorem In.ints {t e : TypeId} {k : IntKind} {fuel : Nat} {v : Value} {x : DataW H × List MemPlace} (ht : P.underlying t = some (.slice e)) (he : P.underlying e = some (.int k)) (hs : P.cellsOf e = 1)
  (h : DataW.trod enc P w base (fun _ => true) held fuel t [v] = some x) : ∃ xs : List Int, In w 1 v xs.length (xs.map (Value.int k)) ∧ ∀ x ∈ xs, (Lit.int k x).wf = true := by
 obtain ⟨us, h1, h2⟩ := In.ones ht hs h
 obtain ⟨xs, rfl, hx⟩ : ∃ xs : List Int, us = xs.map (Value.int k) ∧ ∀ x ∈ xs, (Lit.int k x).wf = true := by
  clear h1 h
  induction us with
  | nil => exact ⟨[], rfl, by simp⟩
  | cons u l ih =>
    obtain ⟨xs, rfl, hx⟩ := ih (fun z hz => h2 z (by simp [hz]))
    obtain ⟨n, y, hy⟩ := h2 u (by simp)
    obtain ⟨z, h3, _, h5⟩ := DataW.trod_int he hy
    simp only [List.cons.injEq, and_true] at h3
    subst h3
    refine ⟨z :: xs, rfl, ?_⟩
    simp only [List.mem_cons, forall_eq_or_imp]
    exact ⟨h5, hx⟩
 exact ⟨xs, by simpa using h1, hx⟩
end
end
section
open Go
attribute [local irreducible] Sx Cx Rx Fx Krg Ksq Kbl Klp Kr
section
variable {L F G : St}
theorem Rd.at1_ {a : OA} {n i : Nat} {vs : List Value} {v : Value} (h : Rd L 1 a n vs) (hv : vs[i]? = some v) : ∃ b o, a = some ⟨b, o, none⟩ ∧ Has L b (o + i) [v] := by
 obtain ⟨h1, h0 | ⟨b, o, rfl, h2⟩⟩ := h
 ·have := (List.getElem?_eq_some_iff.1 hv).1; omega
 ·exact ⟨b, o, rfl, h2.at_ hv⟩
end
end
section
variable {r v : Nat} {m m2 : Mm}
end
section
variable {x : Cn} {slot : Nat} {gen : Int} {n : Nat} {m : Mm} {S : SupS}
end
section
open Go
attribute [local irreducible] Sx Cx Rx Fx Krg Ksq Kbl Klp Kr
theorem small_cfg2 {w c wd sl ca ba : Int} (h : SmallC w c wd sl ca ba) : ∃ x : Cn, cfg w c wd sl ca ba = x.v ∧ x.ok ∧ x.ca ≤ 3 ∧ x.c ≤ 8 ∧ x.ba ≤ 3 ∧ x.w ≤ 4 ∧ x.wd ≤ 16 ∧ x.sl ≤ 4 := by
 unfold SmallC at h
 refine ⟨⟨w.toNat, c.toNat, wd.toNat, sl.toNat, ca.toNat, ba.toNat⟩, ?_, ?_, ?_⟩
 ·simp only [Cn.v]
  rw [Int.toNat_of_nonneg (by omega), Int.toNat_of_nonneg (by omega), Int.toNat_of_nonneg (by omega), Int.toNat_of_nonneg (by omega), Int.toNat_of_nonneg (by omega), Int.toNat_of_nonneg (by omega)]
 ·unfold Cn.ok MayC
  simp only
  rw [Int.toNat_of_nonneg (by omega), Int.toNat_of_nonneg (by omega), Int.toNat_of_nonneg (by omega), Int.toNat_of_nonneg (by omega), Int.toNat_of_nonneg (by omega), Int.toNat_of_nonneg (by omega)]
  rw [Int.tmod_eq_emod_of_nonneg (by omega)]
  omega
 ·simp only; omega
section
variable {L F G : St}
end
section
variable {L F G : St}
end
section
variable {L F G : St}
end
end
def wl (W : Nat → Wk) : List Wk := [W 0, W 1, W 2]
section
variable {x : Cn} {cl T i : Nat} {m : Mm} {W : Nat → Wk} {has : List Hd}
end
structure EndI (e : EndS) : Prop where
 a : e.at_ ≤ 1
 w : e.was < 18446744073709551616
 o : (rtOf e.was).ok
theorem EndI.init : EndI EndS.init := ⟨Nat.zero_le _, by show 0 < _; omega, rt_zero_ok⟩
def Ag (x : Cn) (m : Mm) (W : Nat → Wk) (T : Nat) : Prop := ∃ P R, ApG x m (wl W) P R T
section
variable {x : Cn} {T i : Nat} {m : Mm} {W : Nat → Wk}
end
section
open Go
attribute [local irreducible] Sx Cx Rx Fx Krg Ksq Kbl Klp Kr
structure LM (x : Cn) (m : Mm) : Prop where
 l : m.ws.length = x.len
 o : m.ok
 e : ∀ a, a < x.word → m.at_ a = (allM x).at_ a
theorem allM_0 {x : Cn} (hx : x.ok) : (allM x).at_ 0 = 1 := by
 have hlen := hx.len_le
 have hk := hx.spare (n := x.len) (Nat.le_refl _) hlen
 have hp := hx.pool (n := x.len) (Nat.le_refl _) hlen
 have h1 := (fill_pool hk (poolM_len x)).2 0 (by show (0 : Nat) ≠ 1; omega) (fun j _ => by show 0 ≠ x.slot + j; unfold Cn.slot; omega)
 unfold allM
 rw [h1]
 have hh := hp.h
 unfold poolM fillM
 rw [Mm.at_lay _ (by rw [Mm.len_lay, fillUp_len, zeroM_len]; exact hh)]
 exact if_pos rfl
def hds (l : List Hd) : List Value := l.flatMap fun o => [ii o.slot, ii o.gen, ii o.chunk, ii o.off, ii o.len]
section
variable {L F G : St}
theorem many_ent {n : Nat} {f g : Nat → St} (h : ∀ i, i < n → ∀ G, Ent (f i ++ G) (g i ++ G)) : ∀ {G : St}, Ent (many n f ++ G) (many n g ++ G) := by
 induction n with
 | zero => exact Er _
 | succ n ih =>
   intro G
   rw [many_succ, many_succ, List.append_assoc, List.append_assoc]
   exact Et (ih fun i hi => h i (by omega)) (Ent.app (h n (by omega) G))
def updN (f : Nat → Nat) (i v : Nat) : Nat → Nat := fun j => if j = i then v else f j
end
end
theorem cas_n (m : Mm) (i o v : Nat) : (m.cas i o v).n = m.n + 1 := by unfold Mm.cas; split <;> rfl
theorem popStep_n (k : Sk) (m : Mm) (q : PopS) : (popStep k m q).2.n ≤ m.n + 1 := by
 unfold popStep
 split
 ·exact Nat.le_succ _
 split
 ·split <;> exact Nat.le_refl _
 ·split <;> exact Nat.le_refl _
 ·exact Nat.le_of_eq (cas_n _ _ _ _)
theorem pushStep_n (k : Sk) (m : Mm) (p : PushS) : (pushStep k m p).2.n ≤ m.n + 1 := by
 unfold pushStep
 split
 ·exact Nat.le_succ _
 split
 ·exact Nat.le_refl _
 split
 ·exact Nat.le_refl _
 split
 ·exact Nat.le_refl _
 ·exact Nat.le_of_eq (cas_n _ _ _ _)
theorem takeStep_n (k : Sk) (ba : Int) (m : Mm) (s : SupS) (t : TakeS) : (takeStep k ba m s t).1.n ≤ m.n + 1 := by
 unfold takeStep
 split
 ·exact Nat.le_succ _
 split
 ·dsimp only
  split <;> exact Nat.le_refl _
 ·dsimp only
  split <;> exact popStep_n _ _ _
theorem alStep_n (p : AlP) (m : Mm) (s : SupS) (a : AlS) : (alStep p m s a).1.n ≤ m.n + 1 := by
 unfold alStep
 split
 ·exact Nat.le_succ _
 dsimp only
 split
 ·exact Nat.le_refl _
 ·split <;> exact Nat.le_refl _
 ·exact takeStep_n _ _ _ _ _
 ·exact Nat.le_refl _
 ·exact Nat.le_refl _
 ·split <;> exact Nat.le_refl _
 ·exact pushStep_n _ _ _
theorem endStep_n (a : Nat) (gen : Int) (m : Mm) (e : EndS) : (endStep a gen m e).2.n ≤ m.n + 1 := by
 unfold endStep
 split
 ·exact Nat.le_succ _
 split
 ·exact Nat.le_refl _
 ·exact Nat.le_of_eq (cas_n _ _ _ _)
section
variable {x : Cn} {T i : Nat} {m : Mm} {W : Nat → Wk}
end
section
variable {x : Cn} {slot n : Nat} {gen : Int} {m : Mm} {S : SupS}
theorem takeInit_askB {ba : Int} (hxs : S.xs = []) (hlm : S.lm.size = 0) : takeInit ba S = (S, ⟨1, 0, false, -1, PopS.init ba, false⟩) := by
 unfold takeInit keepT
 rw [if_pos hxs]
 dsimp only
 first | (rw [if_pos hlm]; rfl) | (simp [hlm, TakeS.none_])
theorem al_firstB (hxs : S.xs = []) (hlm : S.lm.size = 0) (hlv : (rtOf (m.at_ (x.root + slot))).live gen) (need : Nat) (hneed : roundS (rtOf (m.at_ (x.root + slot))).cl n = need) (hf : ¬ (2 ≤ (rtOf (m.at_ (x.root + slot))).mrk ∧ fitsS x.wd (rtOf (m.at_ (x.root + slot))).off need)) :
  alIt (x.al slot gen n) 1 (alR m S) = (m.tick, S, ⟨2, ⟨1, -1, 0, true, false, need, 0, m.at_ (x.root + slot), 0, Hd.zero⟩, ⟨1, 0, false, -1, PopS.init x.ba, false⟩, gNone, false⟩) := by
 show (m.tick, alSeen (x.al slot gen n) S { AlV.init with cnt := 1, was := m.at_ (x.root + slot) } TakeS.zero) = _
 unfold alSeen
 rw [if_pos hlv]
 dsimp only
 rw [hneed, if_neg hf, if_neg (by show ¬ (0 : Int) ≤ -1; omega), if_neg (by show ¬ false = true; decide), takeInit_askB hxs hlm, if_neg (by show ¬ false = true; decide)]
 rfl
end
structure Fresh (x : Cn) (T W0 : Nat) (f : FrS) : Prop where
 a : f.at_ = 0
 d : f.done = false
 n : f.v.cnt ≤ T
 b : f.v.back = 0
 c : f.v.code = 0
 ed : f.e.done = false
 ea : f.e.at_ = 0 ∨ (f.e.at_ = 1 ∧ f.e.was = W0)
 en : f.e.cnt ≤ T
 ec : f.e.code = 0
 ew : f.e.was < 18446744073709551616
structure Lost (x : Cn) (T W0 : Nat) (f : FrS) : Prop where
 h : Fresh x T W0 f ∨ (f.done = true ∧ f.v.code = 3 ∧ f.v.back = 0)
structure Leave (x : Cn) (m : Mm) (p : PushS) : Prop where
 l : p.l = [((0 : Nat) : Int)]
 d : p.done = false
 a : p.at_ = 0 ∨ ((p.at_ = 1 ∨ p.at_ = 2) ∧ p.was = m.at_ 1)
 k : p.at_ = 2 → m.at_ (x.slot + 0) = (x.spare.top p.was + 1).toNat
structure Won1 (x : Cn) (T y : Nat) (sp : List Int) (m : Mm) (S0 S : SupS) (f : FrS) : Prop where
 d : f.done = false
 n : f.v.cnt ≤ T
 c : f.v.code = 0
 sp : Pool x.spare m sp
 at_ : (f.at_ = 1 ∧ f.v.chunk = y ∧ S = S0 ∧ m.at_ (x.link + y) = 0) ∨ (f.at_ = 2 ∧ f.w = ⟨[(y : Int)], false⟩ ∧ 0 ≤ f.v.tag ∧ f.v.tag ≤ 4611686018427387903 ∧ S = S0 ∧ m.at_ (x.link + y) = 0) ∨
  (f.at_ = 3 ∧ Leave x m f.p ∧ S.xs = S0.xs ∧ S.most = S0.most ∧ S.lm.size = 1)
structure Won2 (x : Cn) (sp : List Int) (m : Mm) (S0 S : SupS) (f : FrS) : Prop where
 d : f.done = true
 c : f.v.code = 0
 sp : Pool x.spare m (((0 : Nat) : Int) :: sp)
 xs : S.xs = S0.xs
 most : S.most = S0.most
 lm : S.lm.size = 1
structure OncC (x : Cn) (m : Mm) (pl : List Int) : Prop where
 len : m.ws.length = x.len
 ok : m.ok
 pool : Pool x.pool m pl
structure OncA (x : Cn) (T y W0 : Nat) (sp pl : List Int) (m : Mm) (S0 S : Nat → SupS) (f : Nat → FrS) : Prop where
 c : OncC x m pl
 r : m.at_ (x.root + 0) = W0
 sp : Pool x.spare m sp
 k : m.at_ (x.link + y) = 0
 f : ∀ i, i < 3 → Fresh x T W0 (f i) ∧ S i = S0 i
structure OncB (x : Cn) (T y W0 : Nat) (sp pl : List Int) (m : Mm) (S0 S : Nat → SupS) (f : Nat → FrS) (k : Nat) : Prop where
 c : OncC x m pl
 k3 : k < 3
 r : m.at_ (x.root + 0) ≠ W0
 live : ¬ (rtOf (m.at_ (x.root + 0))).live 1
 rok : (rtOf (m.at_ (x.root + 0))).ok
 w : Won1 x T y sp m (S0 k) (S k) (f k) ∨ Won2 x sp m (S0 k) (S k) (f k)
 f : ∀ i, i < 3 → i ≠ k → Lost x T W0 (f i) ∧ S i = S0 i
def left (x : Cn) (W0 : Nat) (m : Mm) (f : FrS) : Nat := if f.done then 0 else
 match f.at_ with
 | 0 => if m.at_ (x.root + 0) = W0 then 9 - f.e.at_ else 1 + f.e.at_
 | 1 => 6
 | 2 => 5
 | _ => 4 - f.p.at_
def updG {α : Type} (f : Nat → α) (i : Nat) (v : α) : Nat → α := fun j => if j = i then v else f j
theorem updG_at {α : Type} (f : Nat → α) (i : Nat) (v : α) : updG f i v i = v := if_pos rfl
theorem updG_ne {α : Type} {f : Nat → α} {i j : Nat} {v : α} (h : j ≠ i) : updG f i v j = f j := if_neg h
section
variable {x : Cn} {T y W0 : Nat} {sp pl : List Int} {m : Mm} {S0 S : Nat → SupS} {f : Nat → FrS}
theorem Pool.congL {k : Sk} {m m' : Mm} {l : List Int} (h : Pool k m l) (h0 : m'.at_ k.head = m.at_ k.head) (hl : ∀ z ∈ l, m'.at_ (k.links + z.toNat) = m.at_ (k.links + z.toNat)) : Pool k m' l := by
 refine ⟨?_, h.nd⟩
 rw [h0]
 exact h.c.congr fun z hz => hl z hz
structure OnP (x : Cn) (y W0 : Nat) (sp : List Int) (S0 : Nat → SupS) : Prop where
 ok : x.ok
 yc : y < x.c
 w : W0 < 18446744073709551616
 rt : ∃ off, rtOf W0 = ⟨1, y + 2, 0, off⟩
 rk : (rtOf W0).ok
 n : ((0 : Nat) : Int) ∉ sp
 xs : ∀ i, i < 3 → ((S0 i).xs.length : Int) ≤ (S0 i).most
 lm : ∀ i, i < 3 → (S0 i).lm = Lm.nil
theorem dead_ok : Rt.ok ⟨1, 0, 0, 0⟩ := ⟨by show 1 < 4294967296; omega, by show 0 ≤ 4097; omega, by show 0 ≤ 3; omega, by show 0 ≤ 1024; omega⟩
inductive Onc (x : Cn) (T y W0 : Nat) (sp pl : List Int) (m : Mm) (S0 S : Nat → SupS) (f : Nat → FrS) : Prop
 | a (h : OncA x T y W0 sp pl m S0 S f)
 | b (k : Nat) (h : OncB x T y W0 sp pl m S0 S f k)
end
section
open Go
attribute [local irreducible] Sx Cx Rx Fx Krg Ksq Kbl Klp Kr
def handG (p : PushS) : List Int := if p.done then [] else p.l
def EnA (s : AlS) : Prop := s.v.ends = Nat.beq s.at_ 6
section
variable {L F G : St}
end
section
variable {L F G : St}
theorem handG_done {p : PushS} (h : p.done = true) : handG p = [] := by unfold handG; rw [h]; rfl
theorem handG_on {p : PushS} (h : p.done = false) : handG p = p.l := by unfold handG; rw [h]; rfl
theorem giveHandQ {b pb : Nat} {k : Sk} {p : PushS} {F1 : St} (hb : p.done = false → p.l.length ≤ 1000000) [t1 : Take L (ad b) (GiveO pb k p) F1] : FX 117 [zp b] L
  (fun v L' => ∃ a c, v = .slice a (handG p).length c ∧ L' = pt a (Row 3 1 (handG p).length c (ints (handG p))) :: pt (ad b) (GiveO pb k p) :: F1) := by
 refine Fm Tryz.func117 k117 ?_
 dsimp only [c117, eL]
 refine Xe (Eo t1.out) (go ?_)
 refine Sa rfl (giveDone (b := b) (pb := pb) (k := k) (p := p)) ?_
 rintro v L' ⟨rfl, rfl⟩
 cases hd : p.done with
 | true =>
   rw [handG_done hd]
   refine go ?_
   exact Ko rfl (Ent.rownil _ _) ⟨none, 0, rfl, rfl⟩
 | false =>
   rw [handG_on hd]
   have hb := hb hd
   refine Se_ (Ek (a := ad b)) ?_
   refine Sx.openp (a := ad b) (GiveO.p hd) ?_
   rintro ⟨g, cnt, r, c⟩
   simp only [givePL, lc, ln]
   refine go ?_
   refine Sx.rowkey (a := r) fun hxl hc1 _ hkr => ?_
   have hk2 : p.l.length = 0 ∨ ∃ g, r = ad g := hkr.imp (fun h => h.2.1) id
   refine go ?_
   refine Sa rfl (clone (Rd.any (a := r) hxl hk2) (ones_ints _) (by omega)) ?_
   rintro v L' ⟨a', c', rfl, rfl⟩
   refine go ?_
   refine Ko rfl (Ec ?_) ⟨a', c', rfl, rfl⟩
   exact GiveO.closeP p hd rfl rfl rfl
theorem refGiveHand {b rp : Nat} {p : PushS} {F1 : St} (hb : p.done = false → p.l.length ≤ 1000000) [t1 : Take L (ad b) (RGiveO rp p) F1] : FX 131 [zp b] L
  (fun v L' => ∃ a c, v = .slice a (handG p).length c ∧ L' = pt a (Row 3 1 (handG p).length c (ints (handG p))) :: pt (ad b) (RGiveO rp p) :: F1) := by
 refine Fm Tryz.func131 k131 ?_
 dsimp only [c131, eL]
 refine Xe (Eo t1.out) ?_
 refine Xo (a := ad b) rfl ?_
 rintro ⟨q, r, c⟩
 simp only [rgiveL, lc, ln]
 refine Xe (Et (Ec (Ec (Ek (a := r)))) (Er _)) ?_
 refine Cx.rowkey (a := r) fun hxl hc1 _ hkr => ?_
 have hk2 : p.l.length = 0 ∨ ∃ g, r = ad g := hkr.imp (fun h => h.2.1) id
 cases hd : p.done with
 | true =>
   rw [handG_done hd]
   refine go ?_
   exact Ko rfl (Et (RGiveO.close p rfl rfl hd.symm rfl) (Ent.rownil _ _)) ⟨none, 0, rfl, rfl⟩
 | false =>
   rw [handG_on hd]
   have hb := hb hd
   refine go ?_
   refine Sx.apn rfl rfl (Rd.any (a := r) hxl hk2) (ones_ints _) (by simp [maxLen]; omega) (by omega) fun r2 c2 h4 => (go ?_)
   refine Ko rfl (Ec ?_) ⟨r2, c2, rfl, rfl⟩
   exact RGiveO.close p rfl rfl hd.symm rfl
end
section
variable {L F G : St}
end
abbrev rendV (w slot : Nat) (gen : Int) (at_ : Nat) (cnt : Int) (point : Nat) (chunk : Int) (was code : Nat) (d : Bool) : List Value :=
 [zp w, ii (slot : Nat), ii gen, ii (at_ : Nat), ii cnt, ii (point : Nat), ii chunk, wd was, ii (code : Nat), .bool d]
abbrev rendB (b w slot : Nat) (gen : Int) (at_ : Nat) (cnt : Int) (point : Nat) (chunk : Int) (was code : Nat) (d : Bool) : As := pt (ad b) (Blk 77 (rendV w slot gen at_ cnt point chunk was code d))
def rendL (T : TypeId) (w slot : Nat) (gen : Int) (e : EndS) (a : OA) (y : Nat) : St := [lift (e.done = false → y = e.at_), pt a (Blk T (rendV w slot gen y (e.cnt : Nat) e.point e.chunk e.was e.code e.done))]
def REndT (T : TypeId) (w slot : Nat) (gen : Int) (e : EndS) (a : OA) : As := exs (rendL T w slot gen e a)
abbrev REndO := REndT 77
section
variable {L F G : St}
theorem REndO.close {b w slot at_ point was code : Nat} {gen cnt chunk : Int} {d : Bool} (e : EndS) (h : e.done = false → at_ = e.at_) (e1 : cnt = (e.cnt : Nat)) (e2 : point = e.point) (e3 : chunk = e.chunk) (e4 : was = e.was) (e5 : code = e.code) (e6 : d = e.done) :
  Ent (rendB b w slot gen at_ cnt point chunk was code d :: G) (pt (ad b) (REndO w slot gen e) :: G) := by
 subst e1 e2 e3 e4 e5 e6
 refine Et (Ent.lift h (Er _)) ?_
 exact Ent.close (f := rendL 77 w slot gen e (ad b)) rfl at_
theorem refEndNew {w : Nat} (slot : Nat) (gen : Int) :
  FX 36 [zp w, ii slot, ii gen] L (fun v L' => ∃ b, v = zp b ∧ L' = pt (ad b) (REndO w slot gen EndS.init) :: L) := by
 refine Fm Tryz.func36 k36 ?_
 dsimp only [c36, eL]
 refine go ?_
 refine Sx.bx rfl rfl fun b => ?_
 refine Sr (rendV w slot gen 0 0 0 (-1) 0 0 false) rfl (go ?_)
 exact Ko rfl (REndO.close EndS.init (fun _ => rfl) rfl rfl rfl rfl rfl rfl) ⟨b, rfl, rfl⟩
set_option maxHeartbeats 2000000 in
theorem refEndStep {b w rm rp rs re slot : Nat} {gen : Int} {x : Cn} {m : Mm} {e : EndS} {F1 F2 : St} (hx : x.ok) (hl : x.len ≤ m.ws.length) (hs : slot < x.sl) (he : e.ok) (hei : EndI e)
  [t1 : Take L (ad b) (REndO w slot gen e) F1] [t2 : Take F1 (ad rm) (RMemO m) F2] [t3 : Take F2 (ad w) (RWO x rm rp rs re) G] :
  FX 33 [zp b] L
   (fun v L' => v = .bool (!e.done) ∧ L' = pt (ad b) (REndO w slot gen (endStep (x.root + slot) gen m e).1) :: pt (ad rm) (RMemO (endStep (x.root + slot) gen m e).2) :: F2) := by
 have hback : Ent (pt (ad w) (RWO x rm rp rs re) :: G) F2 := Eo t3.back
 obtain ⟨ha, hw, hg, hn⟩ := he
 have hsz : x.root + x.sl ≤ x.len := by unfold Cn.root Cn.len; omega
 refine Fm Tryz.func33 k33 ?_
 dsimp only [c33, eL]
 refine Xe (Et (Eo t1.out) (Ec (Et (Eo t2.out) (Ec (Eo t3.out))))) ?_
 refine Cx.pure (rmemKey (rm := rm) (m := m)) fun hm => ?_
 refine Xo (a := ad b) rfl ?_
 intro at_
 simp only [rendL, lc, ln]
 refine Cx.liftp fun hat => ?_
 cases hd : e.done with
 | true =>
   have e1 : endStep (x.root + slot) gen m e = (e, m) := by unfold endStep; rw [hd]; rfl
   rw [e1]
   refine go ?_
   exact Ko rfl (Et (REndO.close e (fun h => by rw [hd] at h; cases h) rfl rfl rfl rfl rfl hd.symm) (Ec (Ec hback))) ⟨rfl, rfl⟩
 | false =>
   obtain rfl := hat hd
   refine go ?_
   rw [cntW hn]
   refine Xd rfl kr_ (ge ?_)
   refine Eb kr_ rfl rfl (refRootAt hx slot hs) (ge ?_)
   refine go ?_
   rcases (show e.at_ = 0 ∨ e.at_ = 1 by omega) with h0 | h0
   ·have e1 : endStep (x.root + slot) gen m e = (if (rtOf (m.at_ (x.root + slot))).live gen then { e with cnt := e.cnt + 1, was := m.at_ (x.root + slot), at_ := 1 } else { e with cnt := e.cnt + 1, was := m.at_ (x.root + slot), code := 3, point := e.cnt + 1, done := true }, m.tick) := by unfold endStep; rw [hd, h0]; rfl
    rw [e1, h0]
    refine go ?_
    refine Sa rfl (refLoad (rm := rm) (m := m) (x.root + slot) (by omega)) ?_
    rintro v' L' ⟨rfl, rfl⟩
    refine go ?_
    refine Xd rfl kr_ (ge ?_)
    refine Eb kr_ rfl rfl (refGetRoot (m.at_ (x.root + slot)) (Ml hm.1 _)) (ge ?_)
    refine Eb kr_ rfl rfl (refLive (rtOf (m.at_ (x.root + slot))) gen) (ge ?_)
    by_cases hlive : (rtOf (m.at_ (x.root + slot))).live gen
    ·rw [if_pos hlive, dt hlive]
     refine go ?_
     refine Ko rfl ?_ ⟨rfl, rfl⟩
     refine Et (Ek (a := ad b)) ?_
     refine Et (REndO.close { e with cnt := e.cnt + 1, was := m.at_ (x.root + slot), at_ := 1 } (fun _ => rfl) rfl rfl rfl rfl rfl hd.symm) (Ec ?_)
     refine Et ?_ (Ec hback)
     exact ent
    ·rw [if_neg hlive, dz hlive]
     refine go ?_
     refine Ko rfl ?_ ⟨rfl, rfl⟩
     refine Et (Ek (a := ad b)) ?_
     refine Et (REndO.close { e with at_ := 0, cnt := e.cnt + 1, was := m.at_ (x.root + slot), code := 3, point := e.cnt + 1, done := true } (fun h => by cases h) rfl rfl rfl rfl rfl rfl) (Ec ?_)
     refine Et ?_ (Ec hback)
     exact ent
   ·have e1 : endStep (x.root + slot) gen m e = (if m.at_ (x.root + slot) = e.was then { e with cnt := e.cnt + 1, chunk := (rtOf e.was).chunk, point := e.cnt + 1, done := true } else { e with cnt := e.cnt + 1, at_ := 0 }, m.cas (x.root + slot) e.was (Rt.w ⟨(rtOf e.was).gen, 0, 0, 0⟩)) := by unfold endStep; rw [hd, h0]; rfl
    rw [e1, h0]
    have hR : Rt.ok ⟨(rtOf e.was).gen, 0, 0, 0⟩ := ⟨hei.o.g, by show 0 ≤ 4097; omega, by show 0 ≤ 3; omega, by show 0 ≤ 1024; omega⟩
    refine go ?_
    refine Sa rfl (refGetRoot e.was hw) ?_
    rintro v' L' ⟨rfl, rfl⟩
    refine Sx.al fun o => ?_
    refine Sx.st (b := o) rfl rfl rfl rfl rfl rfl ?_
    refine Sr (rtL (rtOf e.was)) rfl (go ?_)
    refine Sa (vs := [rtV ⟨(rtOf e.was).gen, 0, 0, 0⟩]) rfl (refPutRoot ⟨(rtOf e.was).gen, 0, 0, 0⟩ hR) ?_
    rintro v' L' ⟨rfl, rfl⟩
    refine go ?_
    obtain ⟨wN, hwN⟩ : ∃ wN, Rt.w ⟨(rtOf e.was).gen, 0, 0, 0⟩ = wN := ⟨_, rfl⟩
    have hwNl : wN < 18446744073709551616 := by rw [← hwN]; exact Rt.w_lt hR
    rw [hwN]
    refine Xd rfl kr_ (ge ?_)
    refine Ea kr_ rfl rfl (refCas (rm := rm) (m := m) (x.root + slot) e.was wN (by omega) hw hwNl) (Pd kr_) ?_
    rintro v' L' ⟨rfl, rfl⟩
    refine ge ?_
    by_cases hc : m.at_ (x.root + slot) = e.was
    ·rw [if_pos hc, dt hc]
     refine go ?_
     refine Xd rfl kr_ (ge ?_)
     refine Eb kr_ rfl rfl (refChunk (rtOf e.was) (by have := hei.o.m; omega)) (ge ?_)
     refine Es (b := b) kr_ rfl rfl rfl rfl rfl (by rfl) rfl (Pd kr_) (ge ?_)
     refine Es (b := b) kr_ rfl rfl rfl rfl rfl (by rfl) rfl (Pd kr_) (ge ?_)
     refine Es (b := b) kr_ rfl rfl rfl rfl rfl (by rfl) rfl (Pd kr_) (ge ?_)
     refine go ?_
     refine Ko rfl ?_ ⟨rfl, rfl⟩
     refine Et (Ek (a := ad b)) ?_
     refine Et (REndO.close { e with at_ := 1, cnt := e.cnt + 1, chunk := (rtOf e.was).chunk, point := e.cnt + 1, done := true } (fun h => by cases h) rfl rfl rfl rfl rfl rfl) (Ec ?_)
     refine Et ?_ (Ec hback)
     exact ent
    ·rw [if_neg hc, dz hc]
     refine go ?_
     refine Ko rfl ?_ ⟨rfl, rfl⟩
     refine Et (Ek (a := ad b)) ?_
     refine Et (REndO.close { e with cnt := e.cnt + 1, at_ := 0 } (fun _ => rfl) rfl rfl rfl rfl rfl hd.symm) (Ec ?_)
     refine Et ?_ (Ec hback)
     exact ent
end
section
variable {L F G : St}
theorem Fx.pre {P : Program} {f : FuncId} {vs : List Value} {R : Value → St → Prop} {p : Prop} (h : ∀ h, holds L h → p) (x : p → Fx P f vs L R) : Fx P f vs L R := by
 unfold Fx at *
 intro w0 w s
 obtain ⟨hh, H, _⟩ := s.heap
 exact x (h hh H) w0 w s
theorem sameIntsR {xs ys : List Int} {a b : OA} {n m c d : Nat} {F1 F2 : St} [t1 : Take L a (Row 3 1 n c (ints xs)) F1] [t2 : Take L b (Row 3 1 m d (ints ys)) F2] (hb : n ≤ 1000000000) :
  FX 62 [.slice a n c, .slice b m d] L (fun v L' => v = .bool (decide (xs = ys)) ∧ L = L') :=
 Fx.pre (Row.key (t := t1)) fun h1 => Fx.pre (Row.key (t := t2)) fun h2 => sameInts (Rd.any (a := a) h1.1 (h1.2.2.2.imp (fun h => h.2.1) id)) (Rd.any (a := b) h2.1 (h2.2.2.2.imp (fun h => h.2.1) id)) hb
theorem Sx.rag {N : Nat} {l : List Go.Proofs.YtflalhdofhobmaaGreat.G} {e : En} {K : En → St → Prop} {b sa rp slot : Nat} {gen : Int} {n : Nat} {s : AlS} (hd6 : s.done = true → s.at_ = 6) [t : Take L (ad b) (RAgO sa rp slot gen n s) F]
  (k : ∀ (at_ : Nat) (tp gp : Value) (dry : Bool) (rest : As), (∀ G, Ent (ralB b sa slot gen n at_ (s.v.cnt : Nat) s.v tp gp dry s.done :: rest :: G) (pt (ad b) (RAgO sa rp slot gen n s) :: G)) → Sx Tryz.prog N l e K (ralB b sa slot gen n at_ (s.v.cnt : Nat) s.v tp gp dry s.done :: rest :: F)) : Sx Tryz.prog N l e K L := by
 by_cases h6 : s.at_ = 6
 ·refine Sx.openp (a := ad b) (RAgO.g_ h6) ?_
  rintro ⟨tp, q, dry⟩
  exact k 6 tp _ dry (pt (ad q) (RGiveO rp s.g)) fun G => RAgO.closeG (v := s.v) s h6 rfl rfl rfl rfl rfl
 ·have hd : s.done = false := by
   cases hq : s.done with
   | true => exact absurd (hd6 hq) h6
   | false => rfl
  have e6 : RAgO sa rp slot gen n s = RAlO sa rp slot gen n s := RAgO.fun_ h6
  rw [e6] at t k
  by_cases h2 : s.at_ = 2
  ·refine Sx.openp (a := ad b) (RAlO.t_ hd h2) ?_
   rintro ⟨q, gp⟩
   have := k 2 (zp q) gp false (pt (ad q) (RTakeO sa rp s.t)) fun G => by rw [hd]; exact RAlO.closeT (v := s.v) s hd h2 rfl rfl rfl
   rw [hd] at this
   exact this
  ·refine Sx.openp (a := ad b) (RAlO.s_ (.inr h2)) ?_
   rintro ⟨tp, gp, dry⟩
   refine Sx.liftp fun hdr => ?_
   refine Se_ ?_ (k s.at_ tp gp dry (lift True) fun G => ?_)
   ·exact Ec (Ent.lift trivial (Er _))
   ·refine Et (Ec Ed) ?_
    exact RAlO.closeS (v := s.v) s (.inr h2) rfl rfl rfl rfl hdr
end
section
variable {L F G : St}
structure AlStpG (x : Cn) (s : Nat) (g : Int) (words : Nat) (r : Mm × SupS) (N : Nat) (r' : Mm × SupS) : Prop where
 run : AlRun x (x.al s g words) (alR r.1 r.2) N
 lt : N < 200
 em : (alIt (x.al s g words) N (alR r.1 r.2)).1 = r'.1
 es : (alIt (x.al s g words) N (alR r.1 r.2)).2.1 = r'.2
 ref : ∀ t, t < N → RefA x (alIt (x.al s g words) t (alR r.1 r.2)).2.1 (alIt (x.al s g words) t (alR r.1 r.2)).2.2
 d6 : (alIt (x.al s g words) N (alR r.1 r.2)).2.2.done = true → (alIt (x.al s g words) N (alR r.1 r.2)).2.2.at_ = 6
set_option maxRecDepth 100000 in
set_option maxHeartbeats 8000000 in
theorem enRegionG {x : Cn} {n : Hn} {e : He} {r r2 : Nat} {k c c2 : Nat} {Q : Nat → Who} {m : Mm} (i many words : Nat) (R : Nat → Mm × SupS) (N : Nat → Nat) (hi : i < k) (hk64 : k ≤ 64) (hmy : many ≤ 1000) (hw1 : 1 ≤ words) (hw2 : words ≤ x.wd) (hw8 : x.wd % 8 = 0) (hx : x.ok) (hl : m.ws.length = x.len) (hm : m.ok) {s : Nat} {l : List Int} (hp : Pool x.spare m ((s : Int) :: l))
  (hsl : s < x.sl) (hR0 : (R 0).1 = (crIt x.spare x.root 0 10 (CreS.init, m)).2) (hR : ∀ j, j < many → AlStpG x s (laterT (rtOf (m.at_ (x.root + s))).gen : Nat) words (R j) (N j) (R (j + 1))) :
  FX 54 [zp n.a, ii i, ii many, ii words] (rhF x n e (ad r) (ad r2) k c c2 m (rhG x n r r2 k c c2 Q i (R 0).2 G))
   (fun v L' => v = .tuple #[ii s, ii (laterT (rtOf (m.at_ (x.root + s))).gen : Nat), .bool true] ∧ L' = rhF x n e (ad r) (ad r2) k c c2 (R many).1 (rhG x n r r2 k c c2 Q i (R many).2 G)) := by
 have hlen := hx.len_le
 have hk := hx.spare (n := m.ws.length) (by omega) (by omega)
 have hroot : x.root + x.sl = x.slot := by unfold Cn.root Cn.slot; omega
 obtain ⟨C, M, e10, hd, hcode, hslot, hat, hwas, _⟩ := cr_alone (k := x.spare) (ro := x.root) (cl := 0) (m := m) hk rfl hm hp (by show x.root + x.sl ≤ x.slot; omega) (by show 1 < x.root; unfold Cn.root; omega) (by omega)
 rw [tn] at hwas
 refine Fm Tryz.func54 k54 ?_
 dsimp only [c54, eL]
 refine go ?_
 refine Xd rfl kr_ (ge ?_)
 iterate 4 (refine Ev.bring 1 rfl ?_; refine ge ?_)
 refine Ea kr_ rfl rfl (rootsCreate (g := n.ro) (mp := n.mp) (sb := n.sp) (x := x) 0 (by omega) hx) (.keep (fun v L' ⟨_, _, e⟩ => by subst e; exact Has.cell rfl) (.dep rfl .nil)) ?_
 rintro v L' ⟨b, rfl, rfl⟩
 refine ge ?_
 refine Ea kr_ rfl rfl (refCreate (w := n.w) (rm := n.rm) (rp := n.rp) (rs := n.rs) (re := n.re) (x := x) 0 (by omega)) (Pd kr_) ?_
 rintro v L' ⟨bb, rfl, rfl⟩
 refine ge ?_
 refine go ?_
 refine Cx.lp (α := {j : Nat // j ≤ 10}) (fun j => [(0, zp n.a), (1, ii (i : Nat)), (2, ii (many : Nat)), (3, ii (words : Nat)), (11, zp b), (12, zp bb), (13, ii j.1)])
  (fun j => pt (ad b) (CreO n.ro n.sp x.spare 0 (crIt x.spare x.root 0 j.1 (CreS.init, m)).1) :: pt (ad bb) (RCreO n.w n.rs 0 (crIt x.spare x.root 0 j.1 (CreS.init, m)).1) :: rhF x n e (ad r) (ad r2) k c c2 (crIt x.spare x.root 0 j.1 (CreS.init, m)).2 (rhG x n r r2 k c c2 Q i (R 0).2 G))
  (fun j => 10 - j.1) ⟨0, by omega⟩ sb7 ?_ ?_
 ·dsimp only [rhF, crIt]
  exact ent
 rintro ⟨j, hj⟩
 dsimp only [rhF]
 obtain ⟨k1, k2, k3, k4⟩ := crIt_ok (ro := x.root) (cl := 0) (m := m) hk hm (by omega) j (by omega)
 refine go ?_
 refine Xi rfl (fun h => ?_) (fun h => ?_)
 ·refine go ?_
  refine Sa rfl (crStepC (b := b) (r := n.ro) (mp := n.mp) (sp := n.sp) (x := x) (m := (crIt x.spare x.root 0 j (CreS.init, m)).2) (cl := 0) (c := (crIt x.spare x.root 0 j (CreS.init, m)).1) hx (by omega) (by omega) k1) ?_
  rintro v L' ⟨rfl, rfl⟩
  refine go ?_
  refine Sa rfl (refCrStep (b := bb) (w := n.w) (rm := n.rm) (rp := n.rp) (rs := n.rs) (re := n.re) (x := x) (m := (crIt x.spare x.root 0 j (CreS.init, m)).2) (cl := 0) (c := (crIt x.spare x.root 0 j (CreS.init, m)).1) hx (by omega) (by omega) k1) ?_
  rintro v L' ⟨rfl, rfl⟩
  refine go ?_
  rw [w64 (n := (j : Int) + 1) (by omega) (by omega)]
  refine Kn ⟨j + 1, by omega⟩ sb7 ?_ (by dsimp only; omega)
  dsimp only [rhF, crIt]
  refine Et (Ek (a := ad b)) (Ec ?_)
  exact ent
 ·obtain rfl : j = 10 := by omega
  rw [e10]
  dsimp only
  refine go ?_
  refine Sa rfl (crRegion (b := b) (r := n.ro) (sp := n.sp) (k := x.spare) (cl := 0) (c := C) hd hat hcode) ?_
  rintro v L' ⟨rfl, rfl⟩
  rw [hslot, hwas]
  refine go ?_
  refine Sa rfl (crDone (b := b) (r := n.ro) (sp := n.sp) (k := x.spare) (cl := 0) (c := C) hd) ?_
  rintro v L' ⟨rfl, rfl⟩
  refine go ?_
  refine Sa rfl (crCode (b := b) (r := n.ro) (sp := n.sp) (k := x.spare) (cl := 0) (c := C) hd) ?_
  rintro v L' ⟨rfl, rfl⟩
  rw [hcode]
  refine go ?_
  refine Se_ (Ek (a := ad bb)) ?_
  refine Sx.openp (a := ad bb) rfl ?_
  intro p
  have er : C.rslot = s := by unfold CreS.rslot; rw [if_neg (by omega), hslot]
  have eg : C.rgen = laterT (rtOf (m.at_ (x.root + s))).gen := by unfold CreS.rgen; rw [if_pos ⟨hd, hat⟩, hwas]
  simp only [rcrL, lc, ln, er, eg, hd, hcode]
  refine go ?_
  refine Sx.gyes rfl (by simp) (go ?_)
  refine Xn rfl (by simp) (go ?_)
  obtain ⟨g, hg⟩ : ∃ g : Nat, laterT (rtOf (m.at_ (x.root + s))).gen = g := ⟨_, rfl⟩
  have hM : M = (R 0).1 := by rw [hR0, e10]
  rw [hg] at hR ⊢
  rw [hM]
  refine Cx.lp (α := {j : Nat // j ≤ many}) (fun j => [(0, zp n.a), (1, ii (i : Nat)), (2, ii (many : Nat)), (3, ii (words : Nat)), (14, ii (s : Nat)), (15, ii (g : Nat)), (16, ii (j.1 : Nat))])
   (fun j => rhF x n e (ad r) (ad r2) k c c2 (R j.1).1 (rhG x n r r2 k c c2 Q i (R j.1).2 G)) (fun j => many - j.1) ⟨0, Nat.zero_le _⟩ sb7 ?_ ?_
  ·dsimp only [rhF, rhG]
   exact entm
  rintro ⟨j, hj⟩
  dsimp only [rhF, rhG]
  refine go ?_
  refine Xi rfl (fun h => ?_) (fun h => ?_)
  ·obtain ⟨hrun, hN2, hn1, hn2, href, hd6⟩ := hR j (by omega)
   obtain ⟨hgood, hnd, hdn⟩ := hrun
   refine go ?_
   refine Xd rfl kr_ (ge ?_)
   refine El (b := r) (v := zp (Q i).u) kr_ rfl rfl (by rw [show 0 + (i : Int).toNat * 1 = i by omega]; exact ptrs_get (U := fun i => (Q i).u) hi) (ge ?_)
   refine Ea kr_ rfl rfl (grantAlloc (g := n.g) (u := (Q i).u) (mp := n.mp) (pb := (Q i).pb) (x := x) s g words hsl hw1 hw2) (Pd kr_) ?_
   rintro v L' ⟨b, rfl, rfl⟩
   refine ge ?_
   refine gg ?_
   refine Sx.ldr (b := r2) rfl (v := zp (Q i).s) (by rw [show 0 + (i : Int).toNat * 1 = i by omega]; exact ptrs_get (U := fun i => (Q i).s) hi) (go ?_)
   refine Sa rfl (refSupAlloc (sa := (Q i).s) (rp := n.rp) s g words) ?_
   rintro v L' ⟨bb, rfl, rfl⟩
   refine go ?_
   refine Cx.lp (α := {t : Nat // t ≤ N j}) (fun t => [(0, zp n.a), (1, ii (i : Nat)), (2, ii (many : Nat)), (3, ii (words : Nat)), (14, ii (s : Nat)), (15, ii (g : Nat)), (16, ii (j : Nat)), (17, zp b), (19, zp bb), (20, ii (t.1 : Nat))])
    (fun t => pt (ad b) (AlO n.g (Q i).u (Q i).pb x s g words (alIt (x.al s g words) t.1 (alR (R j).1 (R j).2)).2.2) :: pt (ad bb) (RAgO (Q i).s n.rp s g words (alIt (x.al s g words) t.1 (alR (R j).1 (R j).2)).2.2) :: rhF x n e (ad r) (ad r2) k c c2 (alIt (x.al s g words) t.1 (alR (R j).1 (R j).2)).1 (rhG x n r r2 k c c2 Q i (alIt (x.al s g words) t.1 (alR (R j).1 (R j).2)).2.1 G))
    (fun t => N j - t.1) ⟨0, Nat.zero_le _⟩ sb10 ?_ ?_
   ·dsimp only [rhF, rhG, alIt, alR]
    have e6 : RAgO (Q i).s n.rp s g words AlS.init = RAlO (Q i).s n.rp s g words AlS.init := RAgO.fun_ (by show 0 ≠ 6; omega)
    rw [e6]
    refine Et (Ek (a := ad b)) (Ec ?_)
    refine Et (Ek (a := ad bb)) (Ec ?_)
    exact entm
   rintro ⟨t, ht⟩
   dsimp only [rhF, rhG]
   obtain ⟨g1, g2, g3, g4, g5, g6, g7⟩ := hgood t ht
   repeat' (first|refine Zo0 rfl ?_|refine Zo1 ?_|refine Zo2 ?_|refine Zo3 ?_|refine Zo4 ?_|refine Zo5 ?_|refine Zo6 ?_|refine Zo7 ?_|refine Zo8 rfl ?_|refine Zo9 rfl ?_|refine Zoa ?_|refine Zob ?_|refine Zoc ?_|refine Zod ?_|refine Zoe ?_|refine Zof ?_|refine Zog ?_|refine Zoh ?_|refine Zom rfl (by rfl) ?_|refine Zon rfl rfl ?_|refine Zoo rfl rfl rfl rfl (by rfl) (by rfl) ?_|refine Zop rfl trivial ?_|refine Zoq rfl rfl rfl ?_)
   rw [dt (show (t : Int) < 200 by omega)]
   refine go ?_
   by_cases htn : t = N j
   ·subst htn
    have ee : alStep (x.al s g words) (alIt (x.al s g words) (N j) (alR (R j).1 (R j).2)).1 (alIt (x.al s g words) (N j) (alR (R j).1 (R j).2)).2.1 (alIt (x.al s g words) (N j) (alR (R j).1 (R j).2)).2.2 = (alIt (x.al s g words) (N j) (alR (R j).1 (R j).2)) := by
     unfold alStep; rw [if_pos hdn]
    have hd6' := hd6 hdn
    refine Sa rfl (refAgStep (b := bb) (sa := (Q i).s) (w := n.w) (rm := n.rm) (rp := n.rp) (rs := n.rs) (re := n.re) (slot := s) (gen := g) (n := words) (x := x) (S := (alIt (x.al s g words) (N j) (alR (R j).1 (R j).2)).2.1) (m := (alIt (x.al s g words) (N j) (alR (R j).1 (R j).2)).1) (a := (alIt (x.al s g words) (N j) (alR (R j).1 (R j).2)).2.2) hx (by omega) hsl hw1 hw2 hw8 g3 (by omega) g5 g6 g7 (fun h => by rw [hdn] at h; cases h) (fun _ => hd6')) ?_
    rw [ee, hdn]
    rintro v L' ⟨rfl, rfl⟩
    refine go ?_
    refine Sa rfl (alDone (b := b) (g := n.g) (u := (Q i).u) (pb := (Q i).pb) (x := x) (slot := s) (gen := g) (n := words) (s := (alIt (x.al s g words) (N j) (alR (R j).1 (R j).2)).2.2) hdn) ?_
    rintro v L' ⟨rfl, rfl⟩
    refine go ?_
    refine Se_ (Ek (a := ad bb)) ?_
    refine Sx.rag (b := bb) (s := (alIt (x.al s g words) (N j) (alR (R j).1 (R j).2)).2.2) (fun _ => hd6') ?_
    intro at2 tp2 gp2 dry2 rest2 hbk2
    rw [hdn]
    refine go ?_
    rw [w64 (n := (j : Int) + 1) (by omega) (by omega)]
    refine Kn ⟨j + 1, by omega⟩ sb7 ?_ (by dsimp only; omega)
    rw [hn1, hn2]
    dsimp only [rhF, rhG]
    exact entm
   ·have f1 := href t (by omega)
    refine Sa rfl (refAgStep (b := bb) (sa := (Q i).s) (w := n.w) (rm := n.rm) (rp := n.rp) (rs := n.rs) (re := n.re) (slot := s) (gen := g) (n := words) (x := x) (S := (alIt (x.al s g words) t (alR (R j).1 (R j).2)).2.1) (m := (alIt (x.al s g words) t (alR (R j).1 (R j).2)).1) (a := (alIt (x.al s g words) t (alR (R j).1 (R j).2)).2.2) hx (by omega) hsl hw1 hw2 hw8 g3 (by omega) g5 g6 g7 (fun _ => f1) (fun h => by rw [hnd t (by omega)] at h; cases h)) ?_
    rintro v L' ⟨rfl, rfl⟩
    rw [hnd t (by omega)]
    refine go ?_
    refine Sa rfl (alStepC (b := b) (g := n.g) (u := (Q i).u) (mp := n.mp) (pb := (Q i).pb) (x := x) (slot := s) (gen := g) (n := words) (S := (alIt (x.al s g words) t (alR (R j).1 (R j).2)).2.1) (m := (alIt (x.al s g words) t (alR (R j).1 (R j).2)).1) (a := (alIt (x.al s g words) t (alR (R j).1 (R j).2)).2.2) hx (by omega) hsl hw1 hw2 hw8 g3 (by omega) g5 g6 g7) ?_
    rintro v L' ⟨rfl, rfl⟩
    refine go ?_
    rw [w64 (n := (t : Int) + 1) (by omega) (by omega)]
    refine Kn ⟨t + 1, by omega⟩ sb10 ?_ (by dsimp only; omega)
    dsimp only [rhF, rhG, alIt]
    refine Et (Ek (a := ad b)) (Ec ?_)
    refine Et (Ek (a := ad bb)) (Ec ?_)
    exact entm
  ·obtain rfl : j = many := by omega
   refine go ?_
   refine Kr.three (.inr rfl) rfl rfl rfl (Er _) ⟨rfl, rfl⟩
end
end
section
variable {x : Cn} {slot n : Nat} {gen : Int} {m : Mm} {S : SupS} {P : List Int}
end
theorem alIt_sum (p : AlP) (i : Nat) (r : Mm × SupS × AlS) : ∀ j, alIt p (i + j) r = alIt p j (alIt p i r)
 | 0 => rfl
 | j + 1 => by
   show alStep p (alIt p (i + j) r).1 (alIt p (i + j) r).2.1 (alIt p (i + j) r).2.2 = alStep p (alIt p j (alIt p i r)).1 (alIt p j (alIt p i r)).2.1 (alIt p j (alIt p i r)).2.2
   rw [alIt_sum p i r j]
section
variable {x : Cn} {slot n : Nat} {gen : Int}
theorem al_tail {m1 : Mm} {S1 : SupS} {W y need c0 : Nat} {T : TakeS} {P : List Int} (hx : x.ok) (hl1 : m1.ws.length = x.len) (hm1 : m1.ok) (hsl : slot < x.sl) (hr1 : m1.at_ (x.root + slot) = W) (hk : (rtOf W).ok) (hm0 : 0 ≤ S1.most) (hm2 : S1.most ≤ 64) (hn2 : need ≤ x.wd)
  (hyc : y < x.c) (hndS : S1.xs.Nodup) (hrgS : ∀ z ∈ S1.xs, 0 ≤ z ∧ z < (x.c : Int)) (hyS : (y : Int) ∉ S1.xs) (hp : Pool x.pool m1 P) (hyP : (y : Int) ∉ P) (hSP : ∀ z ∈ S1.xs, z ∉ P) :
  ∃ (N : Nat) (M : Mm) (S' : SupS) (a : AlS) (P' : List Int), alIt (x.al slot gen n) N (m1, S1, ⟨3, ⟨c0, y, 0, true, false, need, 0, W, 0, Hd.zero⟩, T, gNone, false⟩) = (M, S', a) ∧ N ≤ x.wd + S1.xs.length + 5 ∧ a.done = true ∧ (∀ j, j < N → (alIt (x.al slot gen n) j (m1, S1, ⟨3, ⟨c0, y, 0, true, false, need, 0, W, 0, Hd.zero⟩, T, gNone, false⟩)).2.2.done = false) ∧
   M.ws.length = x.len ∧ M.ok ∧ Pool x.pool M P' ∧ S'.lm = S1.lm ∧ S'.most = S1.most ∧ (S'.xs.length : Int) ≤ S1.most ∧ (S'.xs ++ P').Perm (S1.xs ++ P) ∧ M.at_ (x.root + slot) = Rt.w ⟨(rtOf W).gen, 2 + y, (rtOf W).cl, afterS x.wd need⟩ ∧
   M.at_ (x.link + y) = ((rtOf W).chunk + 1).toNat ∧ (∀ a, a ≠ 0 → a < x.word → a ≠ x.root + slot → (∀ z ∈ (y : Int) :: S1.xs, a ≠ x.link + z.toNat) → M.at_ a = m1.at_ a) := by
 have hlen := hx.len_le
 obtain ⟨b1, b2, b3, b4, b5, b6, b7⟩ := show MayC (x.w : Int) x.c x.wd x.sl x.ca x.ba from hx
 have hwd : x.word + y * x.wd + x.wd ≤ x.len := by
  have := word_lt (x := x) (k := y) (j := x.wd - 1) hyc (by omega); omega
 have g1 : x.root + x.sl ≤ x.link := by unfold Cn.root Cn.link; omega
 have g2 : x.link + x.c = x.word := by unfold Cn.link Cn.word; omega
 have g3 : 3 ≤ x.root := by unfold Cn.root; omega
 have hcl := hk.c
 obtain ⟨r0, hr0⟩ : ∃ r0 : Mm × SupS × AlS, r0 = (m1, S1, ⟨3, ⟨c0, y, 0, true, false, need, 0, W, 0, Hd.zero⟩, T, gNone, false⟩) := ⟨_, rfl⟩
 rw [← hr0]
 have e5 : ∀ i, i ≤ x.wd → alIt (x.al slot gen n) i r0 = (clrM m1 (x.word + y * x.wd) i, S1, ⟨if i < x.wd then 3 else 4, ⟨c0 + i, y, i, true, false, need, 0, W, 0, Hd.zero⟩, T, gNone, false⟩) := by
  intro i
  induction i with
  | zero => intro _; rw [if_pos (by omega), hr0]; rfl
  | succ i ih =>
    intro hi
    show alStep (x.al slot gen n) (alIt (x.al slot gen n) i r0).1 (alIt (x.al slot gen n) i r0).2.1 (alIt (x.al slot gen n) i r0).2.2 = _
    rw [ih (by omega), if_pos (by omega)]
    unfold alStep
    simp only [bf, if_false, tn]
    rfl
 obtain ⟨K, hK⟩ : ∃ K, K = x.wd := ⟨_, rfl⟩
 have e6 : alIt (x.al slot gen n) (K + 1) r0 = ((clrM m1 (x.word + y * x.wd) x.wd).put (x.link + y) ((rtOf W).chunk + 1).toNat, S1, ⟨5, ⟨c0 + K + 1, y, x.wd, true, false, need, 0, W, 0, Hd.zero⟩, T, gNone, false⟩) := by
  have := e5 x.wd (Nat.le_refl _)
  rw [if_neg (by omega), ← hK] at this
  show alStep (x.al slot gen n) (alIt (x.al slot gen n) K r0).1 (alIt (x.al slot gen n) K r0).2.1 (alIt (x.al slot gen n) K r0).2.2 = _
  rw [this]
  unfold alStep
  simp only [bf, if_false, tn, ← hK]
  rfl
 have hlc : ∀ i, (clrM m1 (x.word + y * x.wd) i).ws.length = x.len := fun i => (clrM_len _ _ _).trans hl1
 have hcat : ∀ i, i ≤ x.wd → ∀ a, (clrM m1 (x.word + y * x.wd) i).at_ a = if x.word + y * x.wd ≤ a ∧ a < x.word + y * x.wd + i then 0 else m1.at_ a := fun i hi a => clrM_at (by omega) a
 obtain ⟨v5, hv5⟩ : ∃ v5, v5 = ((rtOf W).chunk + 1).toNat := ⟨_, rfl⟩
 have hv5l : v5 < 18446744073709551616 := by
  have := Rt.chunk_lt (rtOf_mrk W); have := (rtOf W).chunk_ge; omega
 rw [← hv5] at e6
 have hat5 : ∀ a, ((clrM m1 (x.word + y * x.wd) x.wd).put (x.link + y) v5).at_ a = if x.link + y = a then v5 else if x.word + y * x.wd ≤ a ∧ a < x.word + y * x.wd + x.wd then 0 else m1.at_ a := fun a => by
  rw [Mp _ (by rw [hlc]; omega), hcat _ (Nat.le_refl _)]
 obtain ⟨m5, hm5⟩ : ∃ m5, m5 = (clrM m1 (x.word + y * x.wd) x.wd).put (x.link + y) v5 := ⟨_, rfl⟩
 rw [← hm5] at e6 hat5
 have hl5 : m5.ws.length = x.len := by rw [hm5, Mm.len_put]; exact hlc _
 have hok5 : m5.ok := by rw [hm5]; exact Mm.ok_put (clrM_ok hm1 _ _) hv5l
 have hr5 : m5.at_ (x.root + slot) = W := by rw [hat5, if_neg (by omega), if_neg (by omega), hr1]
 have hR : Rt.ok ⟨(rtOf W).gen, 2 + y, (rtOf W).cl, afterS x.wd need⟩ := ⟨hk.g, by show 2 + y ≤ 4097; omega, hk.c, by have := afterS_le hn2; show afterS x.wd need ≤ 1024; omega⟩
 obtain ⟨m6, hm6⟩ : ∃ m6, m6 = m5.put (x.root + slot) (Rt.w ⟨(rtOf W).gen, 2 + y, (rtOf W).cl, afterS x.wd need⟩) := ⟨_, rfl⟩
 have hput : ∀ a, m6.at_ a = if x.root + slot = a then Rt.w ⟨(rtOf W).gen, 2 + y, (rtOf W).cl, afterS x.wd need⟩ else m5.at_ a := fun a => by rw [hm6]; exact Mp a (by omega)
 have hl6 : m6.ws.length = x.len := by rw [hm6, Mm.len_put]; exact hl5
 have hok6 : m6.ok := by rw [hm6]; exact Mm.ok_put hok5 (Rt.w_lt hR)
 obtain ⟨q, hq⟩ : ∃ q, overK S1.most S1.xs = q := ⟨_, rfl⟩
 have e7 : alIt (x.al slot gen n) (K + 2) r0 = (m6, { S1 with xs := S1.xs.drop q }, ⟨6, ⟨c0 + K + 2, -1, x.wd, true, true, need, c0 + K + 2, W, 0, ⟨slot, gen, y, 0, n⟩⟩, T, PushS.init (S1.xs.take q), (PushS.init (S1.xs.take q)).done⟩) := by
  show alStep (x.al slot gen n) (alIt (x.al slot gen n) (K + 1) r0).1 (alIt (x.al slot gen n) (K + 1) r0).2.1 (alIt (x.al slot gen n) (K + 1) r0).2.2 = _
  rw [e6]
  unfold alStep
  simp only [bf, if_false, tn]
  rw [if_pos hr5, ← hm6, alClose_eq (x := x) (l := S1.xs) (by simpa using hndS) (fun z hz => by simp at hz; exact hrgS z hz) (by simp), hq]
 have pool6 : Pool x.pool m6 P := by
  refine ⟨?_, hp.nd⟩
  rw [hput, if_neg (by show ¬ x.root + slot = 0; omega), hat5, if_neg (by show ¬ x.link + y = 0; omega), if_neg (by show ¬ (_ ≤ 0 ∧ 0 < _); omega)]
  refine hp.c.congr fun z hz => ?_
  have hz2 := hp.c.mem z hz
  have hz3 : z < x.c := hz2.2
  have hzy : z ≠ (y : Int) := fun e => hyP (e ▸ hz)
  rw [hput, if_neg (by show ¬ x.root + slot = x.link + z.toNat; omega), hat5, if_neg (by show ¬ x.link + y = x.link + z.toNat; omega), if_neg (by show ¬ (_ ≤ x.link + z.toNat ∧ _); omega)]
 have hnd : ∀ j, j < K + 2 → (alIt (x.al slot gen n) j r0).2.2.done = false := fun j hj => by
  rcases (show j ≤ K ∨ j = K + 1 by omega) with h | rfl
  ·rw [e5 j (by omega)]
  ·rw [e6]
 have hlast : ∀ a, a ≠ 0 → a < x.word → a ≠ x.root + slot → (∀ z ∈ (y : Int) :: S1.xs, a ≠ x.link + z.toNat) → m6.at_ a = m1.at_ a := fun a h0 h1 h2 h3 => by
  have h4 := h3 (y : Int) (by simp)
  rw [tn] at h4
  rw [hput, if_neg (fun h => h2 h.symm), hat5, if_neg (fun h => h4 h.symm), if_neg (by omega)]
 have hql : q ≤ S1.xs.length := by rw [← hq]; unfold overK; omega
 have hqm : ((S1.xs.drop q).length : Int) ≤ S1.most := by rw [List.length_drop, ← hq]; unfold overK; omega
 have hperm : (S1.xs.drop q ++ (S1.xs.take q ++ P)).Perm (S1.xs ++ P) := by
  rw [← List.append_assoc]
  refine (List.perm_append_comm.append_right _).trans ?_
  rw [List.take_append_drop]
 by_cases hq0 : S1.xs.take q = []
 ·refine ⟨K + 2, m6, { S1 with xs := S1.xs.drop q }, _, P, e7, by omega, by rw [hq0]; rfl, hnd, hl6, hok6, pool6, rfl, rfl, hqm, ?_, by rw [hput, if_pos rfl], ?_, hlast⟩
  ·rw [hq0, ln] at hperm; exact hperm
  ·rw [hput, if_neg (by omega), hat5, if_pos rfl, hv5]
 ·have hsub : ∀ z ∈ S1.xs.take q, z ∈ S1.xs := fun z hz => List.mem_of_mem_take hz
  have hpk6 := hx.pool (n := m6.ws.length) (by omega) (by omega)
  have hndT : (S1.xs.take q).Nodup := by
   have : (S1.xs.take q ++ S1.xs.drop q).Nodup := by rw [List.take_append_drop]; exact hndS
   exact (List.nodup_append.1 this).1
  obtain ⟨M, p7, _, l7, po7, a7, d7⟩ := push_alone (k := x.pool) (m := m6) (len := m6.ws.length) hpk6 rfl pool6 hq0 hndT (fun i hi => hrgS i (hsub i hi)) (fun i hi => hSP i (hsub i hi))
  obtain ⟨X, hX⟩ : ∃ X, S1.xs.take q = X := ⟨_, rfl⟩
  rw [hX] at e7 p7 po7 a7 d7 hperm hndT hsub hq0
  have hXl : X.length ≤ S1.xs.length := by rw [← hX, List.length_take]; omega
  have hin2 : ∀ j, (pushIt x.pool j (PushS.init X, m6)).2.ok ∧ (pushIt x.pool j (PushS.init X, m6)).1.ok x.pool ∧ (pushIt x.pool j (PushS.init X, m6)).2.ws.length = m6.ws.length := by
   intro j
   induction j with
   | zero => exact ⟨hok6, PushS.ok_init fun i hi => hrgS i (hsub i hi), rfl⟩
   | succ j ih =>
     rw [pushIt_succ]
     exact ⟨(pushStep_mem hpk6 ih.1 ih.2.1).1, pushStep_ok ih.1 ih.2.1, (pushStep_mem hpk6 ih.1 ih.2.1).2.trans ih.2.2⟩
  have e8 : ∀ j, j ≤ X.length + 2 → alIt (x.al slot gen n) (K + 2 + j) r0 = ((pushIt x.pool j (PushS.init X, m6)).2, { S1 with xs := S1.xs.drop q }, ⟨6, ⟨c0 + K + 2 + j, -1, x.wd, true, true, need, c0 + K + 2, W, 0, ⟨slot, gen, y, 0, n⟩⟩, T, (pushIt x.pool j (PushS.init X, m6)).1, (pushIt x.pool j (PushS.init X, m6)).1.done⟩) := by
   intro j
   induction j with
   | zero => intro _; exact e7
   | succ j ih =>
     intro hj
     show alStep (x.al slot gen n) (alIt (x.al slot gen n) (K + 2 + j) r0).1 (alIt (x.al slot gen n) (K + 2 + j) r0).2.1 (alIt (x.al slot gen n) (K + 2 + j) r0).2.2 = _
     rw [ih (by omega), d7 j (by omega), pushIt_succ]
     unfold alStep
     simp only [bf, if_false]
     rfl
  have e9 := e8 (X.length + 2) (Nat.le_refl _)
  rw [p7] at e9
  refine ⟨K + 2 + (X.length + 2), M, { S1 with xs := S1.xs.drop q }, _, X ++ P, e9, by omega, rfl, fun j hj => ?_, l7.trans hl6, ?_, po7, rfl, rfl, hqm, hperm, ?_, ?_, fun a h0 h1 h2 h3 => ?_⟩
  ·by_cases hjk : j < K + 2
   ·exact hnd j hjk
   ·have := e8 (j - (K + 2)) (by omega)
    rw [show K + 2 + (j - (K + 2)) = j by omega] at this
    rw [this]
    exact d7 _ (by omega)
  ·have := (hin2 (X.length + 2)).1; rw [p7] at this; exact this
  ·rw [a7 _ (by show x.root + slot ≠ 0; omega) (fun i hi => by show x.root + slot ≠ x.link + i.toNat; omega), hput, if_pos rfl]
  ·rw [a7 _ (by show x.link + y ≠ 0; omega) (fun i hi => ?_), hput, if_neg (by omega), hat5, if_pos rfl, hv5]
   have h1 := hsub i hi
   have h2 := hrgS i h1
   have h3 : i ≠ (y : Int) := fun e => hyS (e ▸ h1)
   show x.link + y ≠ x.link + i.toNat
   omega
  ·rw [a7 _ h0 (fun i hi => h3 i (List.mem_cons_of_mem _ (hsub i hi)))]
   exact hlast a h0 h1 h2 h3
structure AlEnd (x : Cn) (slot need : Nat) (m : Mm) (S : SupS) (P : List Int) (M : Mm) (S' : SupS) (P' : List Int) : Prop where
 l : M.ws.length = x.len
 o : M.ok
 p : Pool x.pool M P'
 lm : S'.lm = S.lm
 mo : S'.most = S.most
 xs : (S'.xs.length : Int) ≤ S.most
 r : (∃ y : Nat, ((y : Int) :: (S'.xs ++ P')).Perm (S.xs ++ P) ∧ M.at_ (x.root + slot) = Rt.w ⟨(rtOf (m.at_ (x.root + slot))).gen, 2 + y, (rtOf (m.at_ (x.root + slot))).cl, afterS x.wd need⟩ ∧ M.at_ (x.link + y) = ((rtOf (m.at_ (x.root + slot))).chunk + 1).toNat) ∨
  ((S'.xs ++ P').Perm (S.xs ++ P) ∧ M.at_ (x.root + slot) = m.at_ (x.root + slot))
 f : ∀ a, a ≠ 0 → a < x.word → a ≠ x.root + slot → (∀ z ∈ S.xs ++ P, a ≠ x.link + z.toNat) → M.at_ a = m.at_ a
set_option maxHeartbeats 1000000 in
theorem al_any {m : Mm} {S : SupS} {P : List Int} (hx : x.ok) (hl : m.ws.length = x.len) (hm : m.ok) (hsl : slot < x.sl) (hk : (rtOf (m.at_ (x.root + slot))).ok) (hm0 : 0 ≤ S.most) (hm2 : S.most ≤ 64) (hxl : (S.xs.length : Int) ≤ S.most) (hlm : S.lm.size = 0) (hw8 : x.wd % 8 = 0) (hn : 1 ≤ n) (hnw : n ≤ x.wd)
  (hlv : (rtOf (m.at_ (x.root + slot))).live gen) (need : Nat) (hneed : roundS (rtOf (m.at_ (x.root + slot))).cl n = need) (hf : ¬ (2 ≤ (rtOf (m.at_ (x.root + slot))).mrk ∧ fitsS x.wd (rtOf (m.at_ (x.root + slot))).off need)) (hp : Pool x.pool m P) (hnd : (S.xs ++ P).Nodup) (hrg : ∀ z ∈ S.xs, 0 ≤ z ∧ z < (x.c : Int)) :
  ∃ (N : Nat) (M : Mm) (S' : SupS) (a : AlS) (P' : List Int), alIt (x.al slot gen n) N (alR m S) = (M, S', a) ∧ N ≤ x.wd + S.xs.length + 30 ∧ a.done = true ∧ (∀ j, j < N → (alIt (x.al slot gen n) j (alR m S)).2.2.done = false) ∧ AlEnd x slot need m S P M S' P' := by
 have hlen := hx.len_le
 obtain ⟨b1, b2, b3, b4, b5, b6, b7⟩ := show MayC (x.w : Int) x.c x.wd x.sl x.ca x.ba from hx
 have hpk := hx.pool (n := m.ws.length) (by omega) (by omega)
 have hwl := Ml hm (x.root + slot)
 have g1 : x.root + x.sl ≤ x.link := by unfold Cn.root Cn.link; omega
 have g2 : x.link + x.c = x.word := by unfold Cn.link Cn.word; omega
 have g3 : 3 ≤ x.root := by unfold Cn.root; omega
 have hcl := hk.c
 obtain ⟨hndS, hndP, hdis⟩ := List.nodup_append.1 hnd
 obtain ⟨W, hW⟩ : ∃ W, m.at_ (x.root + slot) = W := ⟨_, rfl⟩
 rw [hW] at hk hlv hneed hf hwl hcl
 have hn2 : need ≤ x.wd := by rw [← hneed]; exact roundS_le hcl hnw hw8
 by_cases hxs : S.xs = []
 ·cases P with
  | cons y0 l =>
    -- the pool
    obtain ⟨_, hy0, hy1, hpc⟩ := hp.c
    obtain ⟨y, rfl⟩ : ∃ y : Nat, y0 = (y : Int) := ⟨y0.toNat, by omega⟩
    have hyc : y < x.c := by have : (y : Int) < x.c := hy1; omega
    have e1 := al_firstB (x := x) (slot := slot) (gen := gen) (n := n) (m := m) (S := S) hxs hlm (by rw [hW]; exact hlv) need (by rw [hW]; exact hneed) (by rw [hW]; exact hf)
    rw [hW] at e1
    have hp1 : Pool x.pool m.tick ((y : Int) :: l) := hp.tick
    obtain ⟨c, hc⟩ : ∃ c : Nat, (c : Int) = min (x.ba : Int) ((y : Int) :: l).length := ⟨(min (x.ba : Int) ((y : Int) :: l).length).toNat, by simp only [List.length_cons]; omega⟩
    have hcl1 := hc
    simp only [List.length_cons] at hcl1
    obtain ⟨d, rfl⟩ : ∃ d, c = d + 1 := ⟨c - 1, by omega⟩
    obtain ⟨m1, p1, n1, l1, po1, a1, d1⟩ := pop_alone (k := x.pool) (m := m.tick) (len := m.ws.length) hpk rfl hp1 x.ba (by omega) (by omega) (by simp) (d + 1) hc
    simp only [List.drop_succ_cons, List.take_succ_cons] at p1 po1
    have hin : ∀ j, (popIt x.pool j (PopS.init x.ba, m.tick)).2.ok ∧ (popIt x.pool j (PopS.init x.ba, m.tick)).1.ok x.pool ∧ (popIt x.pool j (PopS.init x.ba, m.tick)).2.ws.length = m.ws.length := by
     intro j
     induction j with
     | zero => exact ⟨hm, PopS.ok_init hpk.n1 x.ba, rfl⟩
     | succ j ih =>
       rw [popIt_succ]
       exact ⟨(popStep_mem hpk ih.1 ih.2.1).1, popStep_ok hpk ih.1 ih.2.1, (popStep_mem hpk ih.1 ih.2.1).2.trans ih.2.2⟩
    have hm1 : m1.ok := by have := (hin (d + 1 + 2)).1; rw [p1] at this; exact this
    have e2 : ∀ j, j < d + 1 + 2 → alIt (x.al slot gen n) (1 + j) (alR m S) = ((popIt x.pool j (PopS.init x.ba, m.tick)).2, S, ⟨2, ⟨1 + j, -1, 0, true, false, need, 0, W, 0, Hd.zero⟩, ⟨1, 0, false, -1, (popIt x.pool j (PopS.init x.ba, m.tick)).1, false⟩, gNone, false⟩) := by
     intro j
     induction j with
     | zero => intro _; exact e1
     | succ j ih =>
       intro hj
       show alStep (x.al slot gen n) (alIt (x.al slot gen n) (1 + j) (alR m S)).1 (alIt (x.al slot gen n) (1 + j) (alR m S)).2.1 (alIt (x.al slot gen n) (1 + j) (alR m S)).2.2 = _
       rw [ih (by omega), popIt_succ]
       have hdn := d1 (j + 1) hj
       rw [popIt_succ] at hdn
       have ht : takeStep x.pool x.ba (popIt x.pool j (PopS.init x.ba, m.tick)).2 S ⟨1, 0, false, -1, (popIt x.pool j (PopS.init x.ba, m.tick)).1, false⟩ = ((popStep x.pool (popIt x.pool j (PopS.init x.ba, m.tick)).2 (popIt x.pool j (PopS.init x.ba, m.tick)).1).2, S, ⟨1, 0, false, -1, (popStep x.pool (popIt x.pool j (PopS.init x.ba, m.tick)).2 (popIt x.pool j (PopS.init x.ba, m.tick)).1).1, false⟩) := by
        unfold takeStep
        simp only [bf, if_false]
        rw [hdn]
        rfl
       unfold alStep
       simp only [bf, if_false]
       rw [ht]
       rfl
    have e3 := e2 (d + 2) (by omega)
    have p2 : popStep x.pool (popIt x.pool (d + 2) (PopS.init x.ba, m.tick)).2 (popIt x.pool (d + 2) (PopS.init x.ba, m.tick)).1 = (⟨x.ba, 0, (l.drop d).headD (-1), m.tick.at_ x.pool.head, (y : Int) :: l.take d, true⟩, m1) := by
     have := p1
     rw [show d + 1 + 2 = (d + 2) + 1 by omega, popIt_succ] at this
     exact this
    obtain ⟨T, hT⟩ : ∃ T : TakeS, T = ⟨1, y, true, -1, ⟨x.ba, 0, (l.drop d).headD (-1), m.tick.at_ x.pool.head, (y : Int) :: l.take d, true⟩, true⟩ := ⟨_, rfl⟩
    obtain ⟨S1, hS1⟩ : ∃ S1, S1 = S.give (l.take d) := ⟨_, rfl⟩
    have hS1x : S1.xs = l.take d := by rw [hS1]; show S.xs ++ l.take d = _; rw [hxs, ln]
    have e4 : alIt (x.al slot gen n) (d + 4) (alR m S) = (m1, S1, ⟨3, ⟨d + 4, y, 0, true, false, need, 0, W, 0, Hd.zero⟩, T, gNone, false⟩) := by
     show alStep (x.al slot gen n) (alIt (x.al slot gen n) (d + 3) (alR m S)).1 (alIt (x.al slot gen n) (d + 3) (alR m S)).2.1 (alIt (x.al slot gen n) (d + 3) (alR m S)).2.2 = _
     rw [show d + 3 = 1 + (d + 2) by omega, e3]
     have ht : takeStep x.pool x.ba (popIt x.pool (d + 2) (PopS.init x.ba, m.tick)).2 S ⟨1, 0, false, -1, (popIt x.pool (d + 2) (PopS.init x.ba, m.tick)).1, false⟩ = (m1, S1, T) := by
      unfold takeStep
      simp only [bf, if_false]
      rw [p2]
      dsimp only
      unfold popped
      dsimp only
      rw [if_pos rfl, hT, hS1]
     unfold alStep
     simp only [bf, if_false]
     rw [ht]
     dsimp only
     rw [show T.done = true by rw [hT], if_pos rfl]
     unfold alTaken
     rw [show T.is_ = true by rw [hT], if_pos rfl, show T.chunk = y by rw [hT], show 1 + (d + 2) + 1 = d + 4 by omega]
    have hS1m : S1.most = S.most := by rw [hS1]; rfl
    have hS1l : S1.lm = S.lm := by rw [hS1]; rfl
    rw [List.nodup_cons] at hndP
    have hndt : (l.take d ++ l.drop d).Nodup := by rw [List.take_append_drop]; exact hndP.2
    obtain ⟨t1, t2, t3⟩ := List.nodup_append.1 hndt
    have hrl : ∀ z ∈ l, 0 ≤ z ∧ z < (x.c : Int) := fun z hz => hp.c.mem z (List.mem_cons_of_mem _ hz)
    obtain ⟨N, M, S', a, P', r1, r2, r3, r4, r5, r6, r7, r8, r9, r10, r11, r12, r13, r14⟩ := al_tail (x := x) (slot := slot) (n := n) (gen := gen) (m1 := m1) (S1 := S1) (W := W) (y := y) (need := need) (c0 := d + 4) (T := T) (P := l.drop d) hx (l1.trans hl) hm1 hsl (by rw [a1 _ (by show x.root + slot ≠ 0; omega)]; exact hW) hk (by omega) (by omega) hn2 hyc (by rw [hS1x]; exact t1) (fun z hz => hrl z (List.mem_of_mem_take (by rw [← hS1x]; exact hz))) (by rw [hS1x]; exact fun h => hndP.1 (List.mem_of_mem_take h)) po1 (fun h => hndP.1 (List.mem_of_mem_drop h)) (fun z hz hz2 => t3 z (by rw [← hS1x]; exact hz) z hz2 rfl)
    rw [← e4, ← alIt_sum] at r1
    have hdl : d + 1 ≤ 8 := by omega
    have hS1n : S1.xs.length ≤ d := by rw [hS1x, List.length_take]; omega
    refine ⟨d + 4 + N, M, S', a, P', r1, by omega, r3, fun j hj => ?_, r5, r6, r7, r8.trans hS1l, r9.trans hS1m, by rw [← hS1m]; exact r10, .inl ⟨y, ?_, by rw [hW]; exact r12, by rw [hW]; exact r13⟩, fun a h0 h1 h2 h3 => ?_⟩
    ·by_cases hj4 : d + 4 ≤ j
     ·have := r4 (j - (d + 4)) (by omega)
      rw [← e4, ← alIt_sum, show d + 4 + (j - (d + 4)) = j by omega] at this
      exact this
     ·cases j with
      | zero => rfl
      | succ j => have := e2 j (by omega); rw [Nat.add_comm] at this; rw [this]
    ·rw [hxs, ln]
     refine List.Perm.cons _ (r11.trans ?_)
     rw [hS1x, List.take_append_drop]
    ·rw [r14 a h0 h1 h2 (fun z hz => h3 z ?_), a1 _ h0]
     ·rfl
     rcases List.mem_cons.1 hz with rfl | hz
     ·exact List.mem_append_right _ (by simp)
     ·rw [hS1x] at hz
      exact List.mem_append_right _ (List.mem_cons_of_mem _ (List.mem_of_mem_take hz))
  | nil =>
    -- none is left
    have e1 := al_firstB (x := x) (slot := slot) (gen := gen) (n := n) (m := m) (S := S) hxs hlm (by rw [hW]; exact hlv) need (by rw [hW]; exact hneed) (by rw [hW]; exact hf)
    rw [hW] at e1
    have htop : x.pool.top (m.at_ x.pool.head) = -1 := hp.c
    have e2 : ∃ T, alIt (x.al slot gen n) 2 (alR m S) = (m.tick.tick, S, ⟨0, ⟨2, -1, 0, true, false, need, 0, W, 0, Hd.zero⟩, T, gNone, false⟩) := by
     refine ⟨⟨1, 0, false, -1, { PopS.init x.ba with was := m.at_ x.pool.head, got := [], done := true }, true⟩, ?_⟩
     show alStep (x.al slot gen n) (alIt (x.al slot gen n) 1 (alR m S)).1 (alIt (x.al slot gen n) 1 (alR m S)).2.1 (alIt (x.al slot gen n) 1 (alR m S)).2.2 = _
     rw [e1]
     have hps : popStep x.pool m.tick (PopS.init x.ba) = ({ PopS.init x.ba with was := m.at_ x.pool.head, got := [], done := true }, m.tick.tick) := by
      unfold popStep
      have h0 : x.pool.top (m.tick.at_ x.pool.head) = -1 := htop
      simp only [PopS.init, bf, if_false, h0]
      rw [if_neg (by omega)]
      rfl
     have ht : takeStep x.pool x.ba m.tick S ⟨1, 0, false, -1, PopS.init x.ba, false⟩ = (m.tick.tick, S, ⟨1, 0, false, -1, { PopS.init x.ba with was := m.at_ x.pool.head, got := [], done := true }, true⟩) := by
      unfold takeStep
      simp only [bf, if_false]
      rw [hps]
      dsimp only
      unfold popped
      dsimp only
      rw [if_pos rfl]
     unfold alStep
     simp only [bf, if_false]
     rw [ht]
     rfl
    obtain ⟨T, e2⟩ := e2
    have e3 : alIt (x.al slot gen n) 3 (alR m S) = (m.tick.tick.tick, S, ⟨6, ⟨3, -1, 0, true, true, need, 3, W, 6, Hd.zero⟩, T, PushS.init [], true⟩) := by
     show alStep (x.al slot gen n) (alIt (x.al slot gen n) 2 (alR m S)).1 (alIt (x.al slot gen n) 2 (alR m S)).2.1 (alIt (x.al slot gen n) 2 (alR m S)).2.2 = _
     rw [e2]
     show (m.tick.tick.tick, alSeen (x.al slot gen n) S ⟨3, -1, 0, true, false, need, 0, m.at_ (x.root + slot), 0, Hd.zero⟩ T) = _
     rw [hW]
     unfold alSeen
     rw [if_pos hlv]
     dsimp only
     rw [hneed, if_neg hf, if_neg (by omega), if_pos rfl, alClose_none rfl hxl]
    refine ⟨3, m.tick.tick.tick, S, _, [], e3, by omega, rfl, fun j hj => ?_, hl, Mm.ok_tick (Mm.ok_tick (Mm.ok_tick hm)), hp.tick.tick.tick, rfl, rfl, hxl, .inr ⟨List.Perm.refl _, rfl⟩, fun _ _ _ _ _ => rfl⟩
    rcases (show j = 0 ∨ j = 1 ∨ j = 2 by omega) with rfl | rfl | rfl
    ·rfl
    ·rw [e1]
    ·rw [e2]
 ·-- the stash
  obtain ⟨z, hz⟩ : ∃ z, lastI S.xs = z := ⟨_, rfl⟩
  have hzm : z ∈ S.xs := by rw [← hz]; exact lastI_mem hxs
  have hzr := hrg z hzm
  obtain ⟨y, rfl⟩ : ∃ y : Nat, z = (y : Int) := ⟨z.toNat, by omega⟩
  have hyc : y < x.c := by omega
  have hsplit : S.xs.dropLast ++ [(y : Int)] = S.xs := by
   have := List.dropLast_concat_getLast hxs
   have e2 : lastI S.xs = S.xs.getLast hxs := by unfold lastI; rw [List.getLastD_eq_getLast?, List.getLast?_eq_some_getLast hxs]; rfl
   rw [← e2, hz] at this; exact this
  obtain ⟨T, hT⟩ : ∃ T : TakeS, T = { TakeS.none_ with chunk := y, is_ := true, done := true } := ⟨_, rfl⟩
  have hti : takeInit x.ba S = (S.kept, T) := by
   unfold takeInit keepT
   rw [if_neg hxs, hz, hT]
  have e1 : alIt (x.al slot gen n) 1 (alR m S) = (m.tick, S.kept, ⟨3, ⟨1, y, 0, true, false, need, 0, W, 0, Hd.zero⟩, T, gNone, false⟩) := by
   show (m.tick, alSeen (x.al slot gen n) S { AlV.init with cnt := 1, was := m.at_ (x.root + slot) } TakeS.zero) = _
   rw [hW]
   unfold alSeen
   rw [if_pos hlv]
   dsimp only
   rw [hneed, if_neg hf, if_neg (by show ¬ (0 : Int) ≤ -1; omega), if_neg (by show ¬ false = true; decide)]
   rw [if_pos (show (takeInit (x.al slot gen n).ba S).2.done = true by show (takeInit x.ba S).2.done = true; rw [hti, hT]), show takeInit (x.al slot gen n).ba S = (S.kept, T) from hti]
   dsimp only
   unfold alTaken
   rw [show T.is_ = true by rw [hT], if_pos rfl, show T.chunk = y by rw [hT]]
   rfl
  have hnd1 : (S.xs.dropLast ++ [(y : Int)]).Nodup := by rw [hsplit]; exact hndS
  obtain ⟨t1, _, t3⟩ := List.nodup_append.1 hnd1
  have hin : ∀ w ∈ S.kept.xs, w ∈ S.xs := fun w hw => by rw [← hsplit]; exact List.mem_append_left _ hw
  obtain ⟨N, M, S', a, P', r1, r2, r3, r4, r5, r6, r7, r8, r9, r10, r11, r12, r13, r14⟩ := al_tail (x := x) (slot := slot) (n := n) (gen := gen) (m1 := m.tick) (S1 := S.kept) (W := W) (y := y) (need := need) (c0 := 1) (T := T) (P := P) hx hl (Mm.ok_tick hm) hsl hW hk hm0 hm2 hn2 hyc t1 (fun w hw => hrg w (hin w hw)) (fun h => t3 _ h _ (by simp) rfl) hp.tick (fun h => hdis _ hzm _ h rfl) (fun w hw hw2 => hdis _ (hin w hw) _ hw2 rfl)
  rw [← e1, ← alIt_sum] at r1
  have hkl : S.kept.xs.length ≤ S.xs.length := by show S.xs.dropLast.length ≤ _; rw [List.length_dropLast]; omega
  refine ⟨1 + N, M, S', a, P', r1, by omega, r3, fun j hj => ?_, r5, r6, r7, r8, r9, r10, .inl ⟨y, ?_, by rw [hW]; exact r12, by rw [hW]; exact r13⟩, fun a h0 h1 h2 h3 => ?_⟩
  ·cases j with
   | zero => rfl
   | succ j =>
     have := r4 j (by omega)
     rw [← e1, ← alIt_sum, Nat.add_comm] at this
     exact this
  ·refine (List.Perm.cons _ r11).trans ?_
   show ((y : Int) :: (S.xs.dropLast ++ P)).Perm (S.xs ++ P)
   rw [← lc]
   refine List.Perm.append_right _ ?_
   have : ((y : Int) :: S.xs.dropLast).Perm (S.xs.dropLast ++ [(y : Int)]) := List.perm_append_comm (l₁ := [(y : Int)])
   rw [hsplit] at this
   exact this
  ·rw [r14 a h0 h1 h2 (fun w hw => h3 w ?_)]
   ·rfl
   rcases List.mem_cons.1 hw with rfl | hw
   ·exact List.mem_append_left _ hzm
   ·exact List.mem_append_left _ (hin w hw)
end
def Chn (x : Cn) (m : Mm) : List Int → Prop
 | [] => True
 | y :: l => m.at_ (x.link + y.toNat) = (l.headD (-1) + 1).toNat ∧ Chn x m l
theorem Chn.congr {x : Cn} {m m' : Mm} : ∀ {l : List Int}, Chn x m l → (∀ z ∈ l, m'.at_ (x.link + z.toNat) = m.at_ (x.link + z.toNat)) → Chn x m' l
 | [], _, _ => trivial
 | y :: l, h, e => ⟨by rw [e y (by simp)]; exact h.1, h.2.congr fun z hz => e z (List.mem_cons_of_mem _ hz)⟩
structure RgI (x : Cn) (m : Mm) (k : Nat) (C : List Int) : Prop where
 e : ∃ off, off ≤ 1024 ∧ rtOf (m.at_ (x.root + k)) = ⟨1, (C.headD (-1) + 2).toNat, 0, off⟩
 c : Chn x m C
theorem head_ge {x : Cn} {C : List Int} (h : ∀ z ∈ C, 0 ≤ z ∧ z < (x.c : Int)) : -1 ≤ C.headD (-1) ∧ C.headD (-1) < (x.c : Int) := by
 cases C with
 | nil => show (-1 : Int) ≤ -1 ∧ (-1 : Int) < x.c; omega
 | cons y l => have := h y (by simp); show -1 ≤ y ∧ y < (x.c : Int); omega
def seC (S : Nat → SupS) (C : Nat → List Int) (y : Int) : Nat := ((S 0).xs.count y + (C 0).count y) + ((S 1).xs.count y + (C 1).count y) + ((S 2).xs.count y + (C 2).count y)
theorem seC_upd {S : Nat → SupS} {C : Nat → List Int} {i : Nat} {s : SupS} {c : List Int} (hi : i < 3) (y : Int) : seC (updG S i s) (updG C i c) y + ((S i).xs.count y + (C i).count y) = seC S C y + (s.xs.count y + c.count y) := by
 rcases (show i = 0 ∨ i = 1 ∨ i = 2 by omega) with rfl | rfl | rfl
 ·show (s.xs.count y + c.count y) + _ + _ + _ = _; unfold seC; show (s.xs.count y + c.count y) + ((S 1).xs.count y + (C 1).count y) + ((S 2).xs.count y + (C 2).count y) + _ = _; omega
 ·unfold seC; show ((S 0).xs.count y + (C 0).count y) + (s.xs.count y + c.count y) + ((S 2).xs.count y + (C 2).count y) + _ = _; omega
 ·unfold seC; show ((S 0).xs.count y + (C 0).count y) + ((S 1).xs.count y + (C 1).count y) + (s.xs.count y + c.count y) + _ = _; omega
theorem seC_one {S : Nat → SupS} {C : Nat → List Int} {i : Nat} (hi : i < 3) (y : Int) : (S i).xs.count y + (C i).count y ≤ seC S C y := by
 unfold seC
 rcases (show i = 0 ∨ i = 1 ∨ i = 2 by omega) with rfl | rfl | rfl <;> omega
theorem seC_two {S : Nat → SupS} {C : Nat → List Int} {i k : Nat} (hi : i < 3) (hk : k < 3) (h : k ≠ i) (y : Int) : (S i).xs.count y + (C i).count y + (C k).count y ≤ seC S C y := by
 unfold seC
 rcases (show i = 0 ∨ i = 1 ∨ i = 2 by omega) with rfl | rfl | rfl <;> rcases (show k = 0 ∨ k = 1 ∨ k = 2 by omega) with rfl | rfl | rfl <;> omega
theorem updG_twice {α : Type} (f : Nat → α) (i : Nat) (a b : α) : updG (updG f i a) i b = updG f i b := by
 funext j
 unfold updG
 split <;> rfl
theorem updG_same {α : Type} (f : Nat → α) (i : Nat) : updG f i (f i) = f := by
 funext j
 unfold updG
 split
 ·rename_i h; rw [h]
 ·rfl
structure SeI (x : Cn) (m : Mm) (S : Nat → SupS) (C : Nat → List Int) (P : List Int) (i T : Nat) : Prop where
 len : m.ws.length = x.len
 ok : m.ok
 root : ∀ s, s < x.sl → (rtOf (m.at_ (x.root + s))).ok
 pool : Pool x.pool m P
 spare : Pool x.spare m ((iotaI x.sl).drop i)
 tag : hdT (m.at_ 0) ≤ T + 10
 nn : m.n ≤ T + 10
 one : ∀ y, P.count y + seC S C y ≤ 1
 rng : ∀ y, 0 < P.count y + seC S C y → 0 ≤ y ∧ y < (x.c : Int)
 sup : ∀ k, k < 3 → (S k).lm = Lm.nil ∧ 0 ≤ (S k).most ∧ (S k).most ≤ 64 ∧ ((S k).xs.length : Int) ≤ (S k).most
 reg : ∀ k, k < i → RgI x m k (C k)
 fut : ∀ k, i ≤ k → k < 3 → C k = [] ∧ (rtOf (m.at_ (x.root + k))).gen = 0
section
variable {x : Cn} {m : Mm} {S : Nat → SupS} {C : Nat → List Int} {P : List Int} {i T : Nat}
theorem SeI.xrng (h : SeI x m S C P i T) {k : Nat} (hk : k < 3) : ∀ z ∈ (S k).xs, 0 ≤ z ∧ z < (x.c : Int) := fun z hz => h.rng z (by
 have := List.count_pos_iff.2 hz; have := seC_one (S := S) (C := C) hk z; omega)
theorem SeI.crng (h : SeI x m S C P i T) {k : Nat} (hk : k < 3) : ∀ z ∈ C k, 0 ≤ z ∧ z < (x.c : Int) := fun z hz => h.rng z (by
 have := List.count_pos_iff.2 hz; have := seC_one (S := S) (C := C) hk z; omega)
theorem SeI.cnd (h : SeI x m S C P i T) {k : Nat} (hk : k < 3) : (C k).Nodup := List.nodup_iff_count.2 fun y => by
 have := h.one y; have := seC_one (S := S) (C := C) hk y; omega
theorem SeI.xpnd (h : SeI x m S C P i T) {k : Nat} (hk : k < 3) : ((S k).xs ++ P).Nodup := List.nodup_iff_count.2 fun y => by
 rw [List.count_append]
 have := h.one y; have := seC_one (S := S) (C := C) hk y; omega
theorem SeI.xlen (h : SeI x m S C P i T) {k : Nat} (hk : k < 3) : (S k).xs.length ≤ x.c :=
 length_nodup x.c _ (List.nodup_append.1 (h.xpnd hk)).1 (h.xrng hk)
theorem allM_n0 (x : Cn) : (allM x).n = 0 := by unfold allM poolM; rw [fillM_n]; first | rw [fillM_n]; rfl | rfl
theorem SeI.first {ca : Nat} (hx : x.ok) (hs3 : x.sl = 3) : SeI x (allM x) (fun _ => SupS.nil ca) (fun _ => []) (iotaI x.c) 0 0 := by
 obtain ⟨b1, b2, b3, b4, b5, b6, b7⟩ := show MayC (x.w : Int) x.c x.wd x.sl x.ca x.ba from hx
 have g1 : x.root + x.sl = x.slot := by unfold Cn.root Cn.slot; omega
 have g4 : 3 ≤ x.root := by unfold Cn.root; omega
 have g5 : x.slot + x.sl = x.link := by unfold Cn.slot Cn.link; omega
 have hz : ∀ s, s < 3 → (allM x).at_ (x.root + s) = 0 := fun s hs => allM_at hx (by omega) (by omega) (by omega) (by omega)
 have hc : ∀ y, seC (fun _ => SupS.nil ca) (fun _ => []) y = 0 := fun _ => rfl
 have hnm : (SupS.nil ca).most = min (max (ca : Int) 0) 64 := rfl
 have hio := iota_nodup x.c
 refine ⟨allM_len x, allM_ok hx, fun s hs => by rw [hz s (by omega)]; exact rt_zero_ok, allM_pool hx, allM_spare hx, by rw [allM_0 hx]; decide, by rw [allM_n0]; omega, fun y => ?_, fun y hy => ?_, fun k _ => ⟨rfl, by omega, by omega, ?_⟩, fun k hk => absurd hk (Nat.not_lt_zero _), fun k _ hk => ⟨rfl, by rw [hz k hk]; rfl⟩⟩
 ·rw [hc]; have := List.nodup_iff_count.1 hio y; omega
 ·rw [hc] at hy
  exact iotaI_mem (List.count_pos_iff.1 (by omega))
 ·show ((0 : Nat) : Int) ≤ _
  omega
theorem SeI.create (h : SeI x m S C P i T) (hx : x.ok) (hs3 : x.sl = 3) (hi : i < 3) :
  SeI x (crIt x.spare x.root 0 10 (CreS.init, m)).2 S C P (i + 1) (T + 5) ∧ Pool x.spare m (((i : Nat) : Int) :: (iotaI x.sl).drop (i + 1)) ∧ laterT (rtOf (m.at_ (x.root + i))).gen = 1 := by
 have hlen := hx.len_le
 have hk := hx.spare (n := m.ws.length) (by rw [h.len]; exact Nat.le_refl _) (by rw [h.len]; omega)
 have hroot : x.root + x.sl = x.slot := by unfold Cn.root Cn.slot; omega
 have hslot : x.slot + x.sl = x.link := by unfold Cn.slot Cn.link; omega
 have g3 : 3 ≤ x.root := by unfold Cn.root; omega
 have hio := iota_drop (c := x.sl) (j := i) (by omega)
 have hsp := h.spare
 rw [hio] at hsp
 obtain ⟨hCi, hgi⟩ := h.fut i (Nat.le_refl _) hi
 obtain ⟨Cr, M, e10, _, _, _, _, _, hn, hml, hmo, hp1, hrv, hoth⟩ := cr_alone (k := x.spare) (ro := x.root) (cl := 0) (m := m) hk rfl h.ok hsp (by show x.root + x.sl ≤ x.slot; omega) (by show 1 < x.root; omega) (by omega)
 rw [tn] at hrv hoth
 have hnx := nextRt_ok (cl := 0) (w := m.at_ (x.root + i)) (Ml h.ok _) (by omega)
 have hg1 : laterT (rtOf (m.at_ (x.root + i))).gen = 1 := by rw [hgi]; rfl
 have hrt : rtOf (M.at_ (x.root + i)) = ⟨1, 1, 0, 0⟩ := by rw [hrv, rtOf_w hnx]; unfold nextRt; rw [hg1]
 have e2 : (crIt x.spare x.root 0 10 (CreS.init, m)).2 = M := by rw [e10]
 rw [e2]
 have hat : ∀ a, a ≠ 1 → a ≠ x.root + i → M.at_ a = m.at_ a := fun a h1 h2 => hoth a h1 h2
 refine ⟨⟨hml.trans h.len, hmo, fun s hs => ?_, h.pool.congL (hat 0 (by omega) (by omega)) (fun z hz => ?_), hp1, by rw [hat 0 (by omega) (by omega)]; have := h.tag; omega, by have := h.nn; omega, h.one, h.rng, h.sup, fun k hk => ?_, fun k h1 h2 => ?_⟩, hsp, hg1⟩
 ·by_cases hsi : s = i
  ·subst hsi; rw [hrt]; exact ⟨by show 1 < 4294967296; omega, by show 1 ≤ 4097; omega, by show 0 ≤ 3; omega, by show 0 ≤ 1024; omega⟩
  ·rw [hat _ (by omega) (by omega)]; exact h.root s hs
 ·have := h.pool.c.mem z hz
  exact hat _ (by show x.link + z.toNat ≠ 1; omega) (by show x.link + z.toNat ≠ x.root + i; omega)
 ·by_cases hki : k = i
  ·subst hki; rw [hCi]; exact ⟨⟨0, by omega, hrt⟩, trivial⟩
  ·have hr := h.reg k (by omega)
   exact ⟨by rw [hat _ (by omega) (by omega)]; exact hr.e, hr.c.congr fun z hz => hat _ (by omega) (by omega)⟩
 ·obtain ⟨a1, a2⟩ := h.fut k (by omega) h2
  exact ⟨a1, by rw [hat _ (by omega) (by omega)]; exact a2⟩
theorem ApG.one_T {S : SupS} {n : Nat} (hl : m.ws.length = x.len) (hm : m.ok) (hrt : ∀ s, s < x.sl → (rtOf (m.at_ (x.root + s))).ok) (hp : Pool x.pool m P) (h0 : hdT (m.at_ 0) ≤ T + 10) (hlm : S.lm.size = 0) (hm0 : 0 ≤ S.most) (hm2 : S.most ≤ 64) (h1 : 1 ≤ n) (h2 : n ≤ x.wd) (hnd : (S.xs ++ P).Nodup) (hrg : ∀ z ∈ S.xs, 0 ≤ z ∧ z < (x.c : Int)) : ApG x m [⟨S, AlS.init, n⟩] P [] T := by
 have hown : ∀ y : Int, (([⟨S, AlS.init, n⟩] : List Wk).flatMap Wk.own).count y = S.xs.count y := fun y => by
  have e : (([⟨S, AlS.init, n⟩] : List Wk).flatMap Wk.own) = S.xs ++ ([] ++ []) ++ [] := rfl
  rw [e]; simp
 refine ⟨hl, hm, hrt, hp, h0, fun y => ?_, fun y hy => ?_, fun w hw => ?_⟩
 ·rw [hown, List.count_nil]
  have := List.nodup_iff_count.1 hnd y
  rw [List.count_append] at this
  omega
 ·rw [hown, List.count_nil] at hy
  by_cases hP : 0 < P.count y
  ·exact hp.c.mem y (List.count_pos_iff.1 hP)
  ·exact hrg y (List.count_pos_iff.1 (by omega))
 ·have hw : w = ⟨S, AlS.init, n⟩ := by simpa using hw
  subst hw
  exact ⟨h1, h2, hlm, hm0, hm2, Nat.zero_le _, fun hh => (by rcases hh with hh | hh <;> cases hh), fun _ => rfl, Nat.zero_le _, fun _ => ⟨Int.le_refl _, rt_zero_ok, fun hh => absurd rfl hh, fun hh => (by cases hh), fun hh => (by simp [AlS.init] at hh), fun hh => (by cases hh), fun _ _ => rfl, fun hh => (by cases hh), fun hh => (by cases hh), fun hh => (by cases hh), fun _ => ⟨rfl, rfl⟩⟩⟩
end
section
variable {x : Cn} {slot n T : Nat} {gen : Int} {m : Mm} {S : SupS} {P : List Int}
theorem al_refsT (h : ApG x m [⟨S, AlS.init, n⟩] P [] T) (hx : x.ok) (hs : slot < x.sl) (hw8 : x.wd % 8 = 0) : ∀ t, T + t ≤ 900 → (∀ j, j < t → (alIt (x.al slot gen n) j (alR m S)).2.2.done = false) → ∃ P' R', ApG x (alIt (x.al slot gen n) t (alR m S)).1 ([] ++ ⟨(alIt (x.al slot gen n) t (alR m S)).2.1, (alIt (x.al slot gen n) t (alR m S)).2.2, n⟩ :: []) P' R' (T + t)
 | 0, _, _ => ⟨P, [], h⟩
 | t + 1, ht, hnd => by
   obtain ⟨P1, R1, h1⟩ := al_refsT h hx hs hw8 t (by omega) fun j hj => hnd j (by omega)
   exact ag_step h1 hx hs (by omega) hw8 (hnd t (by omega))
theorem al_stpT {N : Nat} {M' : Mm} {S' : SupS} {a' : AlS} (h : ApG x m [⟨S, AlS.init, n⟩] P [] T) (hx : x.ok) (hs : slot < x.sl) (hw8 : x.wd % 8 = 0) (hc : x.c ≤ 100) (hN : N < 200) (hT : T + N ≤ 900) (e : alIt (x.al slot gen n) N (alR m S) = (M', S', a')) (hd : a'.done = true) (hnd : ∀ j, j < N → (alIt (x.al slot gen n) j (alR m S)).2.2.done = false) :
  AlStpG x slot gen n (m, S) N (M', S') ∧ hdT (M'.at_ 0) ≤ T + N + 10 ∧ (∀ s, s < x.sl → (rtOf (M'.at_ (x.root + s))).ok) := by
 have hg : ∀ t, t ≤ N → AlGood x slot (alIt (x.al slot gen n) t (alR m S)) ∧ ((alIt (x.al slot gen n) t (alR m S)).2.2.done = false → RefA x (alIt (x.al slot gen n) t (alR m S)).2.1 (alIt (x.al slot gen n) t (alR m S)).2.2) ∧ (alIt (x.al slot gen n) t (alR m S)).2.2.at_ ≤ 6 := fun t ht => by
  obtain ⟨P1, R1, h1⟩ := al_refsT (gen := gen) h hx hs hw8 t (by omega) fun j hj => hnd j (by omega)
  have hw := h1.mid
  have hxl := h1.xs_le
  have hlm := hw.lm
  exact ⟨⟨h1.len, h1.ok, h1.root slot hs, by dsimp only at hxl hlm; omega, hw.m0, hw.m2, fun hdn => h1.alOk (by omega) hdn⟩, fun hdn => h1.refA hx hdn, hw.a6⟩
 obtain ⟨PN, RN, hN2⟩ := al_refsT (gen := gen) h hx hs hw8 N hT hnd
 rw [e] at hN2
 refine ⟨⟨⟨fun j hj => (hg j hj).1, hnd, by show (alIt (x.al slot gen n) N (alR m S)).2.2.done = true; rw [e]; exact hd⟩, hN, by show (alIt (x.al slot gen n) N (alR m S)).1 = _; rw [e], by show (alIt (x.al slot gen n) N (alR m S)).2.1 = _; rw [e], fun t ht => (hg t (by omega)).2.1 (hnd t ht), fun hdn => ?_⟩, hN2.tag, hN2.root⟩
 show (alIt (x.al slot gen n) N (alR m S)).2.2.at_ = 6
 obtain ⟨t, rfl⟩ : ∃ t, N = t + 1 := by
  cases N with
  | zero =>
    have e0 : alIt (x.al slot gen n) 0 (alR m S) = (m, S, AlS.init) := rfl
    rw [e0] at hdn; cases hdn
  | succ t => exact ⟨t, rfl⟩
 exact alStep_done (hg t (by omega)).2.2 (hnd t (by omega)) hdn
end
section
variable {x : Cn} {m : Mm} {S : Nat → SupS} {C : Nat → List Int} {P : List Int} {i T : Nat}
theorem alIt_n (p : AlP) (r : Mm × SupS × AlS) : ∀ j, (alIt p j r).1.n ≤ r.1.n + j
 | 0 => Nat.le_refl _
 | j + 1 => by
   have h1 := alIt_n p r j
   have h2 := alStep_n p (alIt p j r).1 (alIt p j r).2.1 (alIt p j r).2.2
   show (alStep p (alIt p j r).1 (alIt p j r).2.1 (alIt p j r).2.2).1.n ≤ _
   omega
set_option maxHeartbeats 1000000 in
theorem SeI.alloc (h : SeI x m S C P (i + 1) T) (hx : x.ok) (hs3 : x.sl = 3) (hi : i < 3) (hc8 : x.c ≤ 8) (hw16 : x.wd ≤ 16) (hT : T ≤ 700) :
  ∃ N M S' C' P', AlStpG x i ((1 : Nat) : Int) (x.wd - i) (m, S i) N (M, S') ∧ N ≤ 60 ∧ SeI x M (updG S i S') (updG C i C') P' (i + 1) (T + N) := by
 obtain ⟨b1, b2, b3, b4, b5, b6, b7⟩ := show MayC (x.w : Int) x.c x.wd x.sl x.ca x.ba from hx
 have hw8 := hx.w8
 have hroot : x.root + x.sl = x.slot := by unfold Cn.root Cn.slot; omega
 have hslot : x.slot + x.sl = x.link := by unfold Cn.slot Cn.link; omega
 have hword : x.link + x.c = x.word := by unfold Cn.link Cn.word; omega
 have g3 : 3 ≤ x.root := by unfold Cn.root; omega
 obtain ⟨s1, s2, s3, s4⟩ := h.sup i hi
 have hr := h.reg i (by omega)
 obtain ⟨off, ho, hrt⟩ := hr.e
 have hcr := h.crng hi
 obtain ⟨hh1, hh2⟩ := head_ge (x := x) hcr
 have hxpn := h.xpnd hi
 have hxr := h.xrng hi
 have hlz : (S i).lm.size = 0 := by rw [s1]; rfl
 have hlv : (rtOf (m.at_ (x.root + i))).live ((1 : Nat) : Int) := by rw [hrt]; exact ⟨by show 1 ≤ ((C i).headD (-1) + 2).toNat; omega, rfl⟩
 have hne : roundS (rtOf (m.at_ (x.root + i))).cl (x.wd - i) = x.wd - i := by
  rw [hrt]
  rcases roundS_cases (cl := 0) (n := x.wd - i) (by omega) with h | h | h | h
  ·exact h.2
  ·omega
  ·omega
  ·omega
 have hnf : ¬ (2 ≤ (rtOf (m.at_ (x.root + i))).mrk ∧ fitsS x.wd (rtOf (m.at_ (x.root + i))).off (x.wd - i)) := fun hf => by
  have := hf.2.1
  omega
 obtain ⟨N, M, S', a, P', e, hN, hd, hnd, E⟩ := al_any (x := x) (slot := i) (gen := ((1 : Nat) : Int)) (n := x.wd - i) (S := S i) hx h.len h.ok (by omega) (h.root i (by omega)) s2 s3 s4 hlz hw8 (by omega) (by omega) hlv (x.wd - i) hne hnf h.pool hxpn hxr
 have hxlen := h.xlen hi
 have hA := ApG.one_T (T := T) (n := x.wd - i) (S := S i) h.len h.ok h.root h.pool h.tag hlz s2 s3 (by omega) (by omega) hxpn hxr
 obtain ⟨hst, htag, hroots⟩ := al_stpT (slot := i) (gen := ((1 : Nat) : Int)) hA hx (by omega) hw8 (by omega) (by omega) (by omega) e hd hnd
 obtain ⟨q1, q2, q3, q4, q5, q6, q7, q8⟩ := E
 have hNl : N ≤ 60 := by omega
 have hnn : M.n ≤ T + N + 10 := by
  have h1 := alIt_n (x.al i ((1 : Nat) : Int) (x.wd - i)) (alR m (S i)) N
  rw [e] at h1
  have h2 := h.nn
  have h3 : M.n ≤ m.n + N := h1
  omega
 -- what is not turned
 have hmem : ∀ z, z ∈ (S i).xs ++ P → 0 ≤ z ∧ z < (x.c : Int) := fun z hz => by
  rcases List.mem_append.1 hz with hz | hz
  ·exact hxr z hz
  ·exact h.pool.c.mem z hz
 have hlow : ∀ a, a ≠ 0 → a < x.link → a ≠ x.root + i → M.at_ a = m.at_ a := fun a h0 h1 h2 => q8 a h0 (by omega) h2 fun z hz => by omega
 have hlk : ∀ k, k < 3 → ∀ z ∈ C k, M.at_ (x.link + z.toNat) = m.at_ (x.link + z.toNat) := fun k hk z hz => by
  have hz2 := h.crng hk z hz
  refine q8 _ (by omega) (by omega) (by omega) fun w hw => ?_
  have hw2 := hmem w hw
  have hne : z ≠ w := fun e => by
   subst e
   have h1 := List.count_pos_iff.2 hz
   have h2 := List.count_pos_iff.2 hw
   rw [List.count_append] at h2
   have h3 := h.one z
   by_cases hki : k = i
   ·subst hki; have := seC_one (S := S) (C := C) hi z; omega
   ·have := seC_two (S := S) (C := C) hi hk hki z; omega
  omega
 have hspare : Pool x.spare M ((iotaI x.sl).drop (i + 1)) := h.spare.congL (hlow 1 (by omega) (by omega) (by omega)) fun z hz => by
  have hz2 := h.spare.c.mem z hz
  have hz3 : z < x.sl := hz2.2
  exact hlow _ (by show x.slot + z.toNat ≠ 0; omega) (by show x.slot + z.toNat < x.link; omega) (by show x.slot + z.toNat ≠ x.root + i; omega)
 have hsup : ∀ k, k < 3 → ((updG S i S') k).lm = Lm.nil ∧ 0 ≤ ((updG S i S') k).most ∧ ((updG S i S') k).most ≤ 64 ∧ (((updG S i S') k).xs.length : Int) ≤ ((updG S i S') k).most := fun k hk => by
  by_cases hki : k = i
  ·subst hki; rw [updG_at]; exact ⟨q4.trans s1, by omega, by omega, by omega⟩
  ·rw [updG_ne hki]; exact h.sup k hk
 have hfut : ∀ c, ∀ k, i + 1 ≤ k → k < 3 → (updG C i c) k = [] ∧ (rtOf (M.at_ (x.root + k))).gen = 0 := fun c k h1 h2 => by
  rw [updG_ne (by omega), hlow _ (by omega) (by omega) (by omega)]; exact h.fut k h1 h2
 have hregO : ∀ c, ∀ k, k < i → RgI x M k ((updG C i c) k) := fun c k hk => by
  have hr := h.reg k (by omega)
  rw [updG_ne (by omega)]
  exact ⟨by rw [hlow _ (by omega) (by omega) (by omega)]; exact hr.e, hr.c.congr (hlk k (by omega))⟩
 have hcnt : ∀ c : List Int, (∀ y, P'.count y + (S'.xs.count y + c.count y) = P.count y + ((S i).xs.count y + (C i).count y)) → ∀ y, P'.count y + seC (updG S i S') (updG C i c) y = P.count y + seC S C y := fun c hc y => by
  have h1 := seC_upd (S := S) (C := C) (s := S') (c := c) hi y
  have h2 := hc y
  omega
 rcases q7 with ⟨y, hp, hr2, hk2⟩ | ⟨hp, hr2⟩
 ·have hyr : 0 ≤ (y : Int) ∧ (y : Int) < x.c := hmem y (hp.subset (by simp))
  have hc2 : ∀ w, P'.count w + (S'.xs.count w + ((y : Int) :: C i).count w) = P.count w + ((S i).xs.count w + (C i).count w) := fun w => by
   have h1 := hp.count_eq w
   rw [List.count_cons, List.count_append, List.count_append] at h1
   rw [List.count_cons]
   omega
  have hch := hcnt _ hc2
  have hR : Rt.ok ⟨1, 2 + y, 0, afterS x.wd (x.wd - i)⟩ := ⟨by show 1 < 4294967296; omega, by show 2 + y ≤ 4097; omega, by show 0 ≤ 3; omega, by have := afterS_le (wd := x.wd) (need := x.wd - i) (by omega); show afterS x.wd (x.wd - i) ≤ 1024; omega⟩
  rw [hrt] at hr2 hk2
  refine ⟨N, M, S', (y : Int) :: C i, P', hst, hNl, q1, q2, hroots, q3, hspare, htag, hnn, fun w => by rw [hch]; exact h.one w, fun w hw => h.rng w (by rw [← hch]; exact hw), hsup, fun k hk => ?_, hfut _⟩
  by_cases hki : k = i
  ·subst hki
   rw [updG_at]
   refine ⟨⟨afterS x.wd (x.wd - k), hR.o, ?_⟩, ?_, hr.c.congr (hlk k hi)⟩
   ·rw [hr2, rtOf_w hR]
    congr 1
    show 2 + y = ((y : Int) + 2).toNat
    omega
   ·rw [tn, hk2]
    unfold Rt.chunk
    dsimp only
    by_cases h2 : ((C k).headD (-1) + 2).toNat < 2
    ·rw [if_pos h2]; congr 1; omega
    ·rw [if_neg h2]; congr 1; omega
  ·exact hregO _ k (by omega)
 ·have hc2 : ∀ w, P'.count w + (S'.xs.count w + (C i).count w) = P.count w + ((S i).xs.count w + (C i).count w) := fun w => by
   have h1 := hp.count_eq w
   rw [List.count_append, List.count_append] at h1
   omega
  have hch := hcnt _ hc2
  refine ⟨N, M, S', C i, P', hst, hNl, q1, q2, hroots, q3, hspare, htag, hnn, fun w => by rw [hch]; exact h.one w, fun w hw => h.rng w (by rw [← hch]; exact hw), hsup, fun k hk => ?_, hfut _⟩
  by_cases hki : k = i
  ·subst hki
   rw [updG_at]
   exact ⟨⟨off, ho, by rw [hr2]; exact hrt⟩, hr.c.congr (hlk k hi)⟩
  ·exact hregO _ k (by omega)
theorem SeI.allocs (h : SeI x m S C P (i + 1) T) (hx : x.ok) (hs3 : x.sl = 3) (hi : i < 3) (hc8 : x.c ≤ 8) (hw16 : x.wd ≤ 16) : ∀ j, T + 60 * j ≤ 700 →
  ∃ (R : Nat → Mm × SupS) (N : Nat → Nat) (C' : List Int) (P' : List Int) (T' : Nat), R 0 = (m, S i) ∧ (∀ t, t < j → AlStpG x i ((1 : Nat) : Int) (x.wd - i) (R t) (N t) (R (t + 1))) ∧ T' ≤ T + 60 * j ∧ SeI x (R j).1 (updG S i (R j).2) (updG C i C') P' (i + 1) T'
 | 0, _ => ⟨fun _ => (m, S i), fun _ => 0, C i, P, T, rfl, fun t ht => absurd ht (Nat.not_lt_zero _), by omega, by dsimp only; rw [updG_same, updG_same]; exact h⟩
 | j + 1, hj => by
   obtain ⟨R, N, C1, P1, T1, h0, hR, hT1, h1⟩ := SeI.allocs h hx hs3 hi hc8 hw16 j (by omega)
   obtain ⟨Nn, M, S', C2, P2, hst, hN60, h2⟩ := h1.alloc hx hs3 hi hc8 hw16 (by omega)
   rw [updG_at] at hst
   rw [updG_twice, updG_twice] at h2
   refine ⟨fun t => if t ≤ j then R t else (M, S'), fun t => if t < j then N t else Nn, C2, P2, T1 + Nn, ?_, fun t ht => ?_, by omega, ?_⟩
   ·dsimp only; rw [if_pos (Nat.zero_le _)]; exact h0
   ·by_cases htj : t < j
    ·dsimp only; rw [if_pos (by omega), if_pos htj, if_pos (by omega)]; exact hR t htj
    ·obtain rfl : t = j := by omega
     dsimp only
     rw [if_pos (Nat.le_refl _), if_neg (Nat.lt_irrefl _), if_neg (by omega)]; exact hst
   ·dsimp only; rw [if_neg (by omega)]; exact h2
theorem SeI.region (h : SeI x m S C P i T) (hx : x.ok) (hs3 : x.sl = 3) (hi : i < 3) (hc8 : x.c ≤ 8) (hw16 : x.wd ≤ 16) (many : Nat) (hT : T + 5 + 60 * many ≤ 700) :
  ∃ (R : Nat → Mm × SupS) (N : Nat → Nat) (C' : List Int) (P' : List Int) (T' : Nat), R 0 = ((crIt x.spare x.root 0 10 (CreS.init, m)).2, S i) ∧ (∀ t, t < many → AlStpG x i ((1 : Nat) : Int) (x.wd - i) (R t) (N t) (R (t + 1))) ∧ T' ≤ T + 5 + 60 * many ∧ SeI x (R many).1 (updG S i (R many).2) (updG C i C') P' (i + 1) T' ∧
   Pool x.spare m (((i : Nat) : Int) :: (iotaI x.sl).drop (i + 1)) ∧ laterT (rtOf (m.at_ (x.root + i))).gen = 1 := by
 obtain ⟨h1, h2, h3⟩ := h.create hx hs3 hi
 obtain ⟨R, N, C1, P1, T1, a, b, c, d⟩ := h1.allocs hx hs3 hi hc8 hw16 many hT
 exact ⟨R, N, C1, P1, T1, a, b, c, d, h2, h3⟩
end
def Lm.alls (m : Lm) : List Int := m.x0 ++ (m.x1 ++ m.x2)
theorem alls_len (m : Lm) : m.alls.length = m.size := by unfold Lm.alls Lm.size; simp only [List.length_append]; omega
theorem alls_retire (m : Lm) (tag : Int) (ys : List Int) (y : Int) : (retireM m tag ys).alls.count y + (outM m tag).count y = m.alls.count y + ys.count y := by
 have hlt : bucketOf tag < 3 := Nat.mod_lt _ (by omega)
 unfold retireM outM
 generalize bucketOf tag = q at *
 rcases (show q = 0 ∨ q = 1 ∨ q = 2 by omega) with rfl | rfl | rfl <;> simp only [Lm.put, Lm.alls, Lm.items, Lm.tag, List.count_append] <;> split <;> simp <;> omega
theorem supRet_count (s : SupS) (tag : Int) (ys : List Int) (y : Int) : (supRet s tag ys).xs.count y + (supRet s tag ys).lm.alls.count y ≤ s.xs.count y + s.lm.alls.count y + ys.count y := by
 unfold supRet
 split
 ·omega
 ·have := alls_retire s.lm tag ys y
  show (s.xs ++ outM s.lm tag).count y + _ ≤ _
  rw [List.count_append]
  dsimp only
  omega
theorem supRet_most (s : SupS) (tag : Int) (ys : List Int) : (supRet s tag ys).most = s.most := by
 unfold supRet
 split <;> rfl
def deadW : Nat := Rt.w ⟨1, 0, 0, 0⟩
theorem dead_rt : rtOf deadW = ⟨1, 0, 0, 0⟩ := rtOf_w dead_ok
structure Fk where
 s : SupS
 on : Bool
 k : Nat
 g : Int
 f : FrS
def Fk.hold (C : Nat → List Int) (w : Fk) : List Int := if w.on = true ∧ (w.f.at_ = 1 ∨ w.f.at_ = 2) then C w.k else []
def Fk.giv (w : Fk) : List Int := if w.on = true ∧ w.f.at_ = 4 then w.f.g.l else []
def Fk.own (C : Nat → List Int) (w : Fk) : List Int := w.s.xs ++ (w.s.lm.alls ++ (w.hold C ++ w.giv))
def liveC (x : Cn) (W : Nat → Nat) (C : Nat → List Int) (m : Mm) (k : Nat) : List Int := if m.at_ (x.root + k) = W k then C k else []
structure RefF (x : Cn) (S : SupS) (f : FrS) : Prop where
 ok : FrOk x f
 e : f.at_ = 0 → EndI f.e ∧ f.e.done = false ∧ f.e.code = 0
 h : f.at_ = 1 ∨ f.at_ = 2 → f.e.chunk = f.v.chunk ∧ 0 ≤ f.v.chunk ∧ f.v.chunk < x.c
 w : f.at_ = 2 → f.w.ok x.c ∧ f.w.done = false
 p : f.at_ = 3 → f.p.ok x.spare ∧ f.p.l.length ≤ 1000000 ∧ f.p.done = false
 g : f.at_ = 4 → f.g.ok x.pool ∧ f.g.l.length ≤ 1000000 ∧ f.g.done = false
 c0 : f.v.code = 0
 b0 : f.at_ ≤ 3 → f.v.back = 0
structure FrTell (slot : Nat) (f : FrS) : Prop where
 s0 : f.at_ = 0 ∨ f.at_ = 4 → f.v.slot = -1
 s1 : f.at_ = 1 ∨ f.at_ = 2 ∨ f.at_ = 3 → f.v.slot = slot
 k0 : f.at_ = 0 ∨ f.at_ = 3 → f.v.chunk = -1
structure FpS (x : Cn) (W : Nat → Nat) (C : Nat → List Int) : Prop where
 ok : x.ok
 s3 : x.sl = 3
 w : ∀ k, k < 3 → ∃ off, off ≤ 1024 ∧ rtOf (W k) = ⟨1, ((C k).headD (-1) + 2).toNat, 0, off⟩
 wl : ∀ k, k < 3 → W k < 18446744073709551616
 nd : ∀ k, k < 3 → (C k).Nodup
 cr : ∀ k, k < 3 → ∀ z ∈ C k, 0 ≤ z ∧ z < (x.c : Int)
structure FkR (x : Cn) (W : Nat → Nat) (C : Nat → List Int) (m : Mm) (T : Nat) (w : Fk) : Prop where
 k3 : w.k < 3
 g : w.g = 1 ∨ w.g = 2
 d : w.f.done = false
 n : w.f.v.cnt ≤ T
 a4 : w.f.at_ ≤ 4
 e0 : w.f.at_ = 0 → w.f.e.done = false ∧ EndI w.f.e ∧ w.f.e.cnt ≤ T ∧ w.f.e.code = 0 ∧ w.f.e.chunk = -1 ∧ (w.f.e.at_ = 1 → w.f.e.was = W w.k)
 c1 : w.f.at_ = 1 ∨ w.f.at_ = 2 → w.f.e.chunk = w.f.v.chunk ∧ C w.k ≠ [] ∧ w.f.v.chunk = (C w.k).headD (-1) ∧ Chn x m (C w.k)
 c2 : w.f.at_ = 2 → ∃ t, 1 ≤ t ∧ t ≤ (C w.k).length ∧ w.f.w = ⟨(C w.k).take t, false⟩
 c3 : w.f.at_ = 3 → w.f.p.ok x.spare ∧ w.f.p.done = false ∧ w.f.p.l = [(w.k : Int)]
 c4 : w.f.at_ = 4 → w.f.g.ok x.pool ∧ w.f.g.done = false
 tl : FrTell w.k w.f
 c0 : w.f.v.code = 0
 b0 : w.f.at_ ≤ 3 → w.f.v.back = 0
structure FkI (x : Cn) (W : Nat → Nat) (C : Nat → List Int) (m : Mm) (T : Nat) (w : Fk) : Prop where
 m0 : 0 ≤ w.s.most
 m2 : w.s.most ≤ 64
 run : w.on = true → FkR x W C m T w
def totC (x : Cn) (W : Nat → Nat) (C : Nat → List Int) (m : Mm) (y : Int) : Nat := (liveC x W C m 0).count y + (liveC x W C m 1).count y + (liveC x W C m 2).count y
def fkC (C : Nat → List Int) (ws : Nat → Fk) (y : Int) : Nat := ((ws 0).own C).count y + ((ws 1).own C).count y + ((ws 2).own C).count y
theorem fkC_upd {C : Nat → List Int} {ws : Nat → Fk} {i : Nat} {w : Fk} (hi : i < 3) (y : Int) : fkC C (updG ws i w) y + ((ws i).own C).count y = fkC C ws y + (w.own C).count y := by
 rcases (show i = 0 ∨ i = 1 ∨ i = 2 by omega) with rfl | rfl | rfl
 ·show (w.own C).count y + _ + _ + _ = _; unfold fkC; show (w.own C).count y + ((ws 1).own C).count y + ((ws 2).own C).count y + _ = _; omega
 ·unfold fkC; show ((ws 0).own C).count y + (w.own C).count y + ((ws 2).own C).count y + _ = _; omega
 ·unfold fkC; show ((ws 0).own C).count y + ((ws 1).own C).count y + (w.own C).count y + _ = _; omega
theorem fkC_two {C : Nat → List Int} {ws : Nat → Fk} {i j : Nat} (hi : i < 3) (hj : j < 3) (h : j ≠ i) (y : Int) : ((ws i).own C).count y + ((ws j).own C).count y ≤ fkC C ws y := by
 unfold fkC
 rcases (show i = 0 ∨ i = 1 ∨ i = 2 by omega) with rfl | rfl | rfl <;> rcases (show j = 0 ∨ j = 1 ∨ j = 2 by omega) with rfl | rfl | rfl <;> omega
theorem fkC_one {C : Nat → List Int} {ws : Nat → Fk} {i : Nat} (hi : i < 3) (y : Int) : ((ws i).own C).count y ≤ fkC C ws y := by
 unfold fkC
 rcases (show i = 0 ∨ i = 1 ∨ i = 2 by omega) with rfl | rfl | rfl <;> omega
theorem totC_one {x : Cn} {W : Nat → Nat} {C : Nat → List Int} {m : Mm} {k : Nat} (hk : k < 3) (y : Int) : (liveC x W C m k).count y ≤ totC x W C m y := by
 unfold totC
 rcases (show k = 0 ∨ k = 1 ∨ k = 2 by omega) with rfl | rfl | rfl <;> omega
structure FpI (x : Cn) (W : Nat → Nat) (C : Nat → List Int) (m : Mm) (ws : Nat → Fk) (T : Nat) : Prop where
 len : m.ws.length = x.len
 ok : m.ok
 root : ∀ k, k < 3 → m.at_ (x.root + k) = W k ∨ m.at_ (x.root + k) = deadW
 chn : ∀ k, k < 3 → m.at_ (x.root + k) = W k → Chn x m (C k)
 one : ∀ y, totC x W C m y + fkC C ws y ≤ 1
 rng : ∀ y, 0 < totC x W C m y + fkC C ws y → 0 ≤ y ∧ y < (x.c : Int)
 wk : ∀ i, i < 3 → FkI x W C m T (ws i)
section
variable {x : Cn} {W : Nat → Nat} {C : Nat → List Int} {m m' : Mm} {ws : Nat → Fk} {T i : Nat} {w' : Fk}
theorem FpS.dead (hs : FpS x W C) {k : Nat} (hk : k < 3) : W k ≠ deadW := fun e => by
 obtain ⟨off, _, h⟩ := hs.w k hk
 rw [e, dead_rt] at h
 obtain ⟨hh1, _⟩ := head_ge (x := x) (hs.cr k hk)
 have := congrArg Rt.mrk h
 have h2 : (0 : Nat) = ((C k).headD (-1) + 2).toNat := this
 omega
theorem FpS.wok (hs : FpS x W C) {k : Nat} (hk : k < 3) : (rtOf (W k)).ok ∧ (rtOf (W k)).mrk ≤ x.c + 1 ∧ (rtOf (W k)).gen = 1 ∧ 1 ≤ (rtOf (W k)).mrk ∧ (rtOf (W k)).chunk = (C k).headD (-1) := by
 obtain ⟨b1, b2, b3, b4, b5, b6, b7⟩ := show MayC (x.w : Int) x.c x.wd x.sl x.ca x.ba from hs.ok
 obtain ⟨off, ho, h⟩ := hs.w k hk
 obtain ⟨hh1, hh2⟩ := head_ge (x := x) (hs.cr k hk)
 rw [h]
 refine ⟨⟨by show 1 < 4294967296; omega, by show ((C k).headD (-1) + 2).toNat ≤ 4097; omega, by show 0 ≤ 3; omega, ho⟩, by show ((C k).headD (-1) + 2).toNat ≤ x.c + 1; omega, rfl, by show 1 ≤ ((C k).headD (-1) + 2).toNat; omega, ?_⟩
 unfold Rt.chunk
 dsimp only
 by_cases h2 : ((C k).headD (-1) + 2).toNat < 2
 ·rw [if_pos h2]; omega
 ·rw [if_neg h2]; omega
theorem FpI.own_one (h : FpI x W C m ws T) (hi : i < 3) (y : Int) : totC x W C m y + ((ws i).own C).count y ≤ 1 := by
 have := h.one y; have := fkC_one (C := C) (ws := ws) hi y; omega
theorem FpI.own_nd (h : FpI x W C m ws T) (hi : i < 3) : ((ws i).own C).Nodup := List.nodup_iff_count.2 fun y => by have := h.own_one hi y; omega
theorem FpI.own_rng (h : FpI x W C m ws T) (hi : i < 3) : ∀ z ∈ (ws i).own C, 0 ≤ z ∧ z < (x.c : Int) := fun z hz => h.rng z (by
 have := List.count_pos_iff.2 hz; have := fkC_one (C := C) (ws := ws) hi z; omega)
theorem FpI.sizes (h : FpI x W C m ws T) (hi : i < 3) : (ws i).s.xs.length + (ws i).s.lm.size ≤ x.c := by
 have := length_nodup x.c _ (h.own_nd hi) (h.own_rng hi)
 unfold Fk.own at this
 rw [List.length_append, List.length_append, alls_len] at this
 omega
theorem FpI.xs_nd (h : FpI x W C m ws T) (hi : i < 3) : (ws i).s.xs.Nodup ∧ ∀ z ∈ (ws i).s.xs, 0 ≤ z ∧ z < (x.c : Int) := by
 have h1 := h.own_nd hi
 refine ⟨?_, fun z hz => h.own_rng hi z ?_⟩
 ·unfold Fk.own at h1; exact (List.nodup_append.1 h1).1
 ·unfold Fk.own; exact List.mem_append_left _ hz
theorem liveC_le (hl : ∀ k, k < 3 → m'.at_ (x.root + k) = W k → m.at_ (x.root + k) = W k) {k : Nat} (hk : k < 3) (y : Int) : (liveC x W C m' k).count y ≤ (liveC x W C m k).count y := by
 unfold liveC
 split
 ·rename_i h; rw [if_pos (hl k hk h)]; exact Nat.le_refl _
 ·simp
theorem FpI.upd (h : FpI x W C m ws T) (hi : i < 3) (hlen : m'.ws.length = x.len) (hok : m'.ok) (hroot : ∀ k, k < 3 → m'.at_ (x.root + k) = W k ∨ m'.at_ (x.root + k) = deadW) (hlive : ∀ k, k < 3 → m'.at_ (x.root + k) = W k → m.at_ (x.root + k) = W k)
  (hcnt : ∀ y, totC x W C m' y + (w'.own C).count y ≤ totC x W C m y + ((ws i).own C).count y) (hlink : ∀ z : Int, 0 ≤ z → z < x.c → z ∉ (ws i).giv → m'.at_ (x.link + z.toNat) = m.at_ (x.link + z.toNat))
  (hw : FkI x W C m' (T + 1) w') : FpI x W C m' (updG ws i w') (T + 1) := by
 have hle : ∀ y, totC x W C m' y + fkC C (updG ws i w') y ≤ totC x W C m y + fkC C ws y := fun y => by
  have h1 := fkC_upd (C := C) (ws := ws) (w := w') hi y
  have h2 := hcnt y
  omega
 have hgo : ∀ z, z ∈ (ws i).giv → 0 < ((ws i).own C).count z := fun z hz => List.count_pos_iff.2 (by unfold Fk.own; exact List.mem_append_right _ (List.mem_append_right _ (List.mem_append_right _ hz)))
 refine ⟨hlen, hok, hroot, fun k hk hkk => ?_, fun y => Nat.le_trans (hle y) (h.one y), fun y hy => h.rng y (Nat.lt_of_lt_of_le hy (hle y)), fun j hj => ?_⟩
 ·have h0 := hlive k hk hkk
  refine (h.chn k hk h0).congr fun z hz => ?_
  have hzl : 0 < (liveC x W C m k).count z := List.count_pos_iff.2 (by unfold liveC; rw [if_pos h0]; exact hz)
  have hz1 := totC_one (x := x) (W := W) (C := C) (m := m) hk z
  obtain ⟨r1, r2⟩ := h.rng z (by omega)
  refine hlink z r1 r2 fun hg => ?_
  have h3 := hgo z hg
  have h4 := h.own_one hi z
  omega
 ·by_cases hji : j = i
  ·subst hji; rw [updG_at]; exact hw
  ·rw [updG_ne hji]
   have hj0 := h.wk j hj
   refine ⟨hj0.m0, hj0.m2, fun hon => ?_⟩
   have r := hj0.run hon
   refine ⟨r.k3, r.g, r.d, by have := r.n; omega, r.a4, fun h0 => ?_, fun h1 => ?_, r.c2, r.c3, r.c4, r.tl, r.c0, r.b0⟩
   ·obtain ⟨a, b, c, d, e, f⟩ := r.e0 h0
    exact ⟨a, b, by omega, d, e, f⟩
   ·obtain ⟨a, b, c, d⟩ := r.c1 h1
    refine ⟨a, b, c, d.congr fun z hz => ?_⟩
    have hzo : z ∈ (ws j).own C := by
     unfold Fk.own Fk.hold
     rw [if_pos ⟨hon, h1⟩]
     exact List.mem_append_right _ (List.mem_append_right _ (List.mem_append_left _ hz))
    obtain ⟨r1, r2⟩ := h.own_rng hj z hzo
    refine hlink z r1 r2 fun hg => ?_
    have h3 := hgo z hg
    have h4 := List.count_pos_iff.2 hzo
    have h5 := fkC_two (C := C) (ws := ws) hi hj hji z
    have h6 := h.one z
    omega
theorem FpI.still (h : FpI x W C m ws T) (hi : i < 3) (hcnt : ∀ y, (w'.own C).count y ≤ ((ws i).own C).count y) (hw : FkI x W C m.tick (T + 1) w') : FpI x W C m.tick (updG ws i w') (T + 1) :=
 h.upd hi h.len (Mm.ok_tick h.ok) h.root (fun _ _ e => e) (fun y => Nat.add_le_add (Nat.le_refl _) (hcnt y)) (fun _ _ _ _ => rfl) hw
theorem FpI.noth (h : FpI x W C m ws T) {T' : Nat} (hT : T ≤ T') : FpI x W C m ws T' :=
 ⟨h.len, h.ok, h.root, h.chn, h.one, h.rng, fun i hi => by
  have w := h.wk i hi
  refine ⟨w.m0, w.m2, fun hon => ?_⟩
  have r := w.run hon
  refine ⟨r.k3, r.g, r.d, by have := r.n; omega, r.a4, fun h0 => ?_, r.c1, r.c2, r.c3, r.c4, r.tl, r.c0, r.b0⟩
  obtain ⟨a, b, c, d, e, f⟩ := r.e0 h0
  exact ⟨a, b, by omega, d, e, f⟩⟩
theorem FpI.lay (h : FpI x W C m ws T) (hx : x.ok) {v : Nat} (hv : v < 18446744073709551616) : FpI x W C (m.lay 2 v) ws T := by
 have hlen : 2 < m.ws.length := by rw [h.len]; unfold Cn.len; omega
 have g3 : 3 ≤ x.root := by unfold Cn.root; omega
 have g4 : 3 ≤ x.link := by unfold Cn.link; omega
 have hat : ∀ a, 2 < a → (m.lay 2 v).at_ a = m.at_ a := fun a ha => by rw [Mm.at_lay _ hlen, if_neg (by omega)]
 have hlv : ∀ k, liveC x W C (m.lay 2 v) k = liveC x W C m k := fun k => by unfold liveC; rw [hat _ (by omega)]
 have ht : ∀ y, totC x W C (m.lay 2 v) y = totC x W C m y := fun y => by unfold totC; rw [hlv, hlv, hlv]
 refine ⟨by rw [Mm.len_lay]; exact h.len, Mm.ok_lay h.ok hv, fun k hk => by rw [hat _ (by omega)]; exact h.root k hk, fun k hk e => ?_, fun y => by rw [ht]; exact h.one y, fun y hy => h.rng y (by rw [← ht]; exact hy), fun j hj => ?_⟩
 ·rw [hat _ (by omega)] at e
  exact (h.chn k hk e).congr fun z _ => hat _ (by omega)
 ·have w := h.wk j hj
  refine ⟨w.m0, w.m2, fun hon => ?_⟩
  have r := w.run hon
  refine ⟨r.k3, r.g, r.d, r.n, r.a4, r.e0, fun h1 => ?_, r.c2, r.c3, r.c4, r.tl, r.c0, r.b0⟩
  obtain ⟨a, b, c, d⟩ := r.c1 h1
  exact ⟨a, b, c, d.congr fun z _ => hat _ (by omega)⟩
theorem FpI.begin_ (h : FpI x W C m ws T) (hi : i < 3) (hon : (ws i).on = false) {k : Nat} {g : Int} (hk : k < 3) (hg : g = 1 ∨ g = 2) : FpI x W C m (updG ws i ⟨(ws i).s, true, k, g, FrS.init⟩) (T + 1) := by
 have hw := h.wk i hi
 refine h.upd hi h.len h.ok h.root (fun _ _ e => e) (fun y => ?_) (fun _ _ _ _ => rfl) ⟨hw.m0, hw.m2, fun _ => ?_⟩
 ·unfold Fk.own Fk.hold Fk.giv
  rw [hon]
  simp [FrS.init]
 ·refine ⟨hk, hg, rfl, Nat.zero_le _, Nat.zero_le _, fun _ => ⟨rfl, EndI.init, Nat.zero_le _, rfl, rfl, fun hh => (by cases hh)⟩, fun hh => (by rcases hh with hh | hh <;> cases hh), fun hh => (by cases hh), fun hh => (by cases hh), fun hh => (by cases hh), ⟨fun _ => rfl, fun hh => (by rcases hh with hh | hh | hh <;> cases hh), fun _ => rfl⟩, rfl, fun _ => rfl⟩
theorem chn_next : ∀ {l : List Int} {t : Nat}, Chn x m l → t < l.length → m.at_ (x.link + (l.getD t 0).toNat) = ((l.drop (t + 1)).headD (-1) + 1).toNat
 | y :: l, 0, h, _ => h.1
 | y :: l, t + 1, h, ht => chn_next (l := l) (t := t) h.2 (by simpa using ht)
theorem lastI_take {l : List Int} {t : Nat} (h1 : 1 ≤ t) (h2 : t ≤ l.length) : lastI (l.take t) = l.getD (t - 1) 0 := by
 unfold lastI
 rw [List.getLastD_eq_getLast?, List.getLast?_eq_getElem?, List.length_take, List.getElem?_take, List.getD_eq_getElem?_getD, show min t l.length - 1 = t - 1 by omega, if_pos (by omega)]
theorem head_drop {l : List Int} {t : Nat} (h : t < l.length) : (l.drop t).headD (-1) = l.getD t 0 := by
 rw [List.headD_eq_head?_getD, List.head?_drop, List.getD_eq_getElem?_getD, List.getElem?_eq_getElem h]
 rfl
theorem head_drop_no {l : List Int} {t : Nat} (h : l.length ≤ t) : (l.drop t).headD (-1) = -1 := by
 rw [List.drop_eq_nil_of_le h]; rfl
theorem pushStep_frame (k : Sk) (m : Mm) (p : PushS) (hk : k.ok m.ws.length) (hp : p.ok k) {a : Nat} (h0 : a ≠ k.head) (h1 : ∀ z ∈ p.l, a ≠ k.links + z.toNat) (hd : p.done = false) : (pushStep k m p).2.at_ a = m.at_ a := by
 obtain ⟨k1, k2, k3, k4, k5, k6⟩ := hk
 have hlp := List.length_pos_iff.2 (hp.ne hd)
 unfold pushStep
 rw [hd]
 simp only [bf, if_false]
 split
 ·have hz := itI_mem (l := p.l) (i := p.at_) (by omega)
  have hr := hp.g _ hz
  show (m.put _ _).at_ a = _
  rw [Mp _ (by omega), if_neg (fun e => h1 _ hz e.symm)]
 ·split
  ·rfl
  ·split
   ·have hz := itI_mem (l := p.l) (i := p.l.length - 1) (by omega)
    have hr := hp.g _ hz
    show (m.put _ _).at_ a = _
    rw [Mp _ (by omega), if_neg (fun e => h1 _ hz e.symm)]
   ·show (m.cas _ _ _).at_ a = _
    unfold Mm.cas
    split
    ·rw [Mp _ (by omega), if_neg (fun e => h0 e.symm)]
    ·rfl
theorem own_at {C : Nat → List Int} {s : SupS} {on : Bool} {k : Nat} {g : Int} {f : FrS} : Fk.own C ⟨s, on, k, g, f⟩ = s.xs ++ (s.lm.alls ++ ((if on = true ∧ (f.at_ = 1 ∨ f.at_ = 2) then C k else []) ++ (if on = true ∧ f.at_ = 4 then f.g.l else []))) := rfl
def Fk.go (w : Fk) (s : SupS) (f : FrS) : Fk := ⟨s, !f.done, w.k, w.g, f⟩
theorem own_gone {C : Nat → List Int} {w : Fk} {s : SupS} {f : FrS} (h : f.done = true) : (w.go s f).own C = s.xs ++ (s.lm.alls ++ ([] ++ [])) := by
 unfold Fk.go
 rw [own_at, h]
 simp
theorem own_mid {C : Nat → List Int} {w : Fk} {s : SupS} {f : FrS} (h : f.done = false) : (w.go s f).own C = s.xs ++ (s.lm.alls ++ ((if f.at_ = 1 ∨ f.at_ = 2 then C w.k else []) ++ (if f.at_ = 4 then f.g.l else []))) := by
 unfold Fk.go
 rw [own_at, h]
 simp
theorem own_eq (w : Fk) (C : Nat → List Int) (y : Int) : (w.own C).count y = w.s.xs.count y + (w.s.lm.alls.count y + ((w.hold C).count y + w.giv.count y)) := by
 unfold Fk.own; simp only [List.count_append]
theorem gone_I (h : FkI x W C m T w') {s : SupS} {f : FrS} (hs : s.most = w'.s.most) (hd : f.done = true) {m' : Mm} {T' : Nat} : FkI x W C m' T' (w'.go s f) :=
 ⟨by show 0 ≤ s.most; rw [hs]; exact h.m0, by show s.most ≤ 64; rw [hs]; exact h.m2, fun hon => by
  have : (!f.done) = true := hon
  rw [hd] at this; cases this⟩
set_option maxHeartbeats 2000000 in
theorem FpI.step (h : FpI x W C m ws T) (hs : FpS x W C) (hi : i < 3) (hon : (ws i).on = true) :
  FpI x W C (frStep (x.fr (ws i).k (ws i).g) m (ws i).s (ws i).f).1 (updG ws i ((ws i).go (frStep (x.fr (ws i).k (ws i).g) m (ws i).s (ws i).f).2.1 (frStep (x.fr (ws i).k (ws i).g) m (ws i).s (ws i).f).2.2)) (T + 1) := by
 obtain ⟨b1, b2, b3, b4, b5, b6, b7⟩ := show MayC (x.w : Int) x.c x.wd x.sl x.ca x.ba from hs.ok
 have hs3 := hs.s3
 have hlen := hs.ok.len_le
 have g1 : x.root + x.sl = x.slot := by unfold Cn.root Cn.slot; omega
 have g2 : x.slot + x.sl = x.link := by unfold Cn.slot Cn.link; omega
 have g3 : 3 ≤ x.root := by unfold Cn.root; omega
 have g4 : x.link + x.c ≤ x.len := by unfold Cn.link Cn.len; omega
 have hwk := h.wk i hi
 have r := hwk.run hon
 have hml := h.len
 have hpk := hs.ok.pool (n := m.ws.length) (by omega) (by omega)
 have hsk := hs.ok.spare (n := m.ws.length) (by omega) (by omega)
 have hxn := h.xs_nd hi
 have hown := own_eq (ws i) C
 have hmo := h.ok
 obtain ⟨w, hw⟩ : ∃ w, ws i = w := ⟨_, rfl⟩
 have hh : w.hold C = if w.f.at_ = 1 ∨ w.f.at_ = 2 then C w.k else [] := by
  rw [← hw]; unfold Fk.hold; rw [hon]; simp
 have hg : w.giv = if w.f.at_ = 4 then w.f.g.l else [] := by
  rw [← hw]; unfold Fk.giv; rw [hon]; simp
 rw [hw] at r hwk hxn hown ⊢
 obtain ⟨hk3, hgg, hd, hn, ha4, he0, hc1, hc2, hc3, hc4, htl, hc0, hb0⟩ := r
 have hm0 := hwk.m0
 have hm2 := hwk.m2
 rcases (show w.f.at_ = 0 ∨ w.f.at_ = 1 ∨ w.f.at_ = 2 ∨ w.f.at_ = 3 ∨ w.f.at_ = 4 by omega) with ha | ha | ha | ha | ha
 ·-- the End
  obtain ⟨ed, ei, en, ec, ek, ew⟩ := he0 ha
  have hh0 : w.hold C = [] := by rw [hh, if_neg (by omega)]
  have hg0 : w.giv = [] := by rw [hg, if_neg (by omega)]
  have hgi : (ws i).giv = [] := by rw [hw]; exact hg0
  have htl0 := htl.s0 (.inl ha)
  have htk0 := htl.k0 (.inl ha)
  rcases (show w.f.e.at_ = 0 ∨ w.f.e.at_ = 1 by have := ei.a; omega) with he | he
  ·by_cases hlv : (rtOf (m.at_ (x.root + w.k))).live w.g
   ·have hroot : m.at_ (x.root + w.k) = W w.k := by
     rcases h.root w.k hk3 with e | e
     ·exact e
     ·rw [e, dead_rt] at hlv; have := hlv.1; cases this
    have e1 : frStep (x.fr w.k w.g) m w.s w.f = (m.tick, w.s, ⟨0, { w.f.v with cnt := w.f.v.cnt + 1 }, { w.f.e with cnt := w.f.e.cnt + 1, was := m.at_ (x.root + w.k), at_ := 1 }, WalkS.zero, gNone, gNone, false⟩) := by
     unfold frStep endStep
     rw [hd, ha, ed, he]
     simp only [bf, if_false, if_pos hlv, ed]
    rw [e1]
    refine h.still hi (fun y => ?_) ⟨hm0, hm2, fun _ => ⟨hk3, hgg, rfl, by show w.f.v.cnt + 1 ≤ T + 1; omega, Nat.zero_le _, fun _ => ⟨ed, ⟨Nat.le_refl _, by show m.at_ _ < _; exact Ml hmo _, by show (rtOf (m.at_ _)).ok; rw [hroot]; exact (hs.wok hk3).1⟩, by show w.f.e.cnt + 1 ≤ T + 1; omega, ec, ek, fun _ => hroot⟩, fun hh => (by rcases hh with hh | hh <;> cases hh), fun hh => (by cases hh), fun hh => (by cases hh), fun hh => (by cases hh), ⟨fun _ => htl0, fun hh => (by rcases hh with hh | hh | hh <;> cases hh), fun _ => htk0⟩, hc0, fun _ => hb0 (by omega)⟩⟩
    rw [hw, hown, own_mid rfl, hh0, hg0]
    simp
   ·have e1 : frStep (x.fr w.k w.g) m w.s w.f = (m.tick, w.s, ⟨0, { w.f.v with cnt := w.f.v.cnt + 1, point := w.f.v.cnt + 1, code := 3 }, { w.f.e with at_ := 0, cnt := w.f.e.cnt + 1, was := m.at_ (x.root + w.k), code := 3, point := w.f.e.cnt + 1, done := true }, WalkS.zero, gNone, gNone, true⟩) := by
     unfold frStep endStep
     rw [hd, ha, ed, he]
     simp only [bf, if_false, if_neg hlv, if_true]
     rfl
    rw [e1]
    refine h.still hi (fun y => ?_) (gone_I hwk rfl rfl)
    rw [hw, hown, own_gone rfl, hh0, hg0]
    simp
  ·have hwas := ew he
   have hwl := hs.wl w.k hk3
   obtain ⟨q1, q2, q3, q4, q5⟩ := hs.wok hk3
   by_cases hc : m.at_ (x.root + w.k) = w.f.e.was
   ·have hroot : m.at_ (x.root + w.k) = W w.k := hc.trans hwas
    have hput : ∀ a, (m.put (x.root + w.k) deadW).at_ a = if x.root + w.k = a then deadW else m.at_ a := fun a => Mp a (by omega)
    have hdw : deadW < 18446744073709551616 := Rt.w_lt dead_ok
    have ecas : m.cas (x.root + w.k) w.f.e.was (Rt.w ⟨(rtOf w.f.e.was).gen, 0, 0, 0⟩) = m.put (x.root + w.k) deadW := by
     unfold Mm.cas; rw [if_pos hc, hwas, q3]; rfl
    have hrootN : ∀ k, k < 3 → (m.put (x.root + w.k) deadW).at_ (x.root + k) = W k ∨ (m.put (x.root + w.k) deadW).at_ (x.root + k) = deadW := fun k hk => by
     rw [hput]
     split
     ·exact .inr rfl
     ·exact h.root k hk
    have hliveN : ∀ k, k < 3 → (m.put (x.root + w.k) deadW).at_ (x.root + k) = W k → m.at_ (x.root + k) = W k := fun k hk e => by
     rw [hput] at e
     split at e
     ·exact absurd e.symm (hs.dead hk)
     ·exact e
    have hlinkN : ∀ z : Int, 0 ≤ z → z < x.c → z ∉ (ws i).giv → (m.put (x.root + w.k) deadW).at_ (x.link + z.toNat) = m.at_ (x.link + z.toNat) := fun z h1 h2 _ => by
     rw [hput, if_neg (by omega)]
    have htotN : ∀ y, totC x W C (m.put (x.root + w.k) deadW) y + (C w.k).count y ≤ totC x W C m y := fun y => by
     have hz : liveC x W C (m.put (x.root + w.k) deadW) w.k = [] := by
      unfold liveC; rw [hput, if_pos rfl, if_neg (fun e => hs.dead hk3 e.symm)]
     have hf : liveC x W C m w.k = C w.k := by unfold liveC; rw [if_pos hroot]
     have l0 := liveC_le (x := x) (W := W) (C := C) hliveN (k := 0) (by omega) y
     have l1 := liveC_le (x := x) (W := W) (C := C) hliveN (k := 1) (by omega) y
     have l2 := liveC_le (x := x) (W := W) (C := C) hliveN (k := 2) (by omega) y
     have hz' := congrArg (List.count y) hz
     have hf' := congrArg (List.count y) hf
     rw [List.count_nil] at hz'
     unfold totC
     rcases (show w.k = 0 ∨ w.k = 1 ∨ w.k = 2 by omega) with e | e | e <;> rw [e] at hz' hf' ⊢ <;> rw [e] at l0 l1 l2 <;> omega
    have hchn := h.chn w.k hk3 hroot
    have hE : (endStep (x.root + w.k) w.g m w.f.e) = ({ w.f.e with at_ := 1, cnt := w.f.e.cnt + 1, chunk := (C w.k).headD (-1), point := w.f.e.cnt + 1, done := true }, m.put (x.root + w.k) deadW) := by
     unfold endStep
     rw [ed, he]
     simp only [bf, if_false, if_pos hc, ecas]
     rw [hwas, q5]
    by_cases hne : C w.k = []
    ·have hch : (C w.k).headD (-1) = -1 := by rw [hne]; rfl
     have e1 : frStep (x.fr w.k w.g) m w.s w.f = (m.put (x.root + w.k) deadW, w.s, frLeave (x.fr w.k w.g) { w.f.v with cnt := w.f.v.cnt + 1, point := w.f.v.cnt + 1, code := 0, slot := w.k } { w.f.e with at_ := 1, cnt := w.f.e.cnt + 1, chunk := (C w.k).headD (-1), point := w.f.e.cnt + 1, done := true } WalkS.zero) := by
      unfold frStep
      rw [hd, ha]
      simp only [bf, if_false]
      rw [hE]
      unfold frEnded
      simp only [ec, ne_eq, not_true_eq_false, if_false, if_true]
      rw [if_neg (by omega)]
     rw [e1]
     refine h.upd hi (by rw [Mm.len_put]; exact hml) (Mm.ok_put hmo hdw) hrootN hliveN (fun y => ?_) hlinkN ⟨hm0, hm2, fun _ => ⟨hk3, hgg, rfl, by show w.f.v.cnt + 1 ≤ T + 1; omega, by show 3 ≤ 4; omega, fun hh => (by cases hh), fun hh => (by rcases hh with hh | hh <;> cases hh), fun hh => (by cases hh), fun _ => ⟨PushS.ok_init fun z hz => ?_, rfl, rfl⟩, fun hh => (by cases hh), ⟨fun hh => (by rcases hh with hh | hh <;> cases hh), fun _ => rfl, fun _ => rfl⟩, rfl, fun _ => hb0 (by omega)⟩⟩
     ·have := htotN y
      rw [hw, hown, own_mid rfl, hh0, hg0, if_neg (by show ¬ ((3 : Nat) = 1 ∨ (3 : Nat) = 2); omega), if_neg (by show ¬ (3 : Nat) = 4; omega)]
      simp
      omega
     ·have : z = (w.k : Int) := List.mem_singleton.1 hz
      rw [this]
      exact ⟨by omega, by show (w.k : Int) < x.sl; omega⟩
    ·have hcr := hs.cr w.k hk3
     have hch : 0 ≤ (C w.k).headD (-1) := by
      cases hC : C w.k with
      | nil => exact absurd hC hne
      | cons y l => have := hcr y (by rw [hC]; simp); exact this.1
     have e1 : frStep (x.fr w.k w.g) m w.s w.f = (m.put (x.root + w.k) deadW, w.s, ⟨1, { w.f.v with cnt := w.f.v.cnt + 1, point := w.f.v.cnt + 1, code := 0, slot := w.k, chunk := (C w.k).headD (-1) }, { w.f.e with at_ := 1, cnt := w.f.e.cnt + 1, chunk := (C w.k).headD (-1), point := w.f.e.cnt + 1, done := true }, WalkS.zero, gNone, gNone, false⟩) := by
      unfold frStep
      rw [hd, ha]
      simp only [bf, if_false]
      rw [hE]
      unfold frEnded
      simp only [ec, ne_eq, not_true_eq_false, if_false, if_true]
      rw [if_pos hch]
     rw [e1]
     refine h.upd hi (by rw [Mm.len_put]; exact hml) (Mm.ok_put hmo hdw) hrootN hliveN (fun y => ?_) hlinkN ⟨hm0, hm2, fun _ => ⟨hk3, hgg, rfl, by show w.f.v.cnt + 1 ≤ T + 1; omega, by show 1 ≤ 4; omega, fun hh => (by cases hh), fun _ => ⟨rfl, hne, rfl, hchn.congr fun z hz => ?_⟩, fun hh => (by cases hh), fun hh => (by cases hh), fun hh => (by cases hh), ⟨fun hh => (by rcases hh with hh | hh <;> cases hh), fun _ => rfl, fun hh => (by rcases hh with hh | hh <;> cases hh)⟩, rfl, fun _ => hb0 (by omega)⟩⟩
     ·have := htotN y
      rw [hw, hown, own_mid rfl, hh0, hg0, if_pos (by exact .inl rfl), if_neg (by show ¬ (1 : Nat) = 4; omega)]
      simp
      show _ + (_ + (_ + (C w.k).count y)) ≤ _
      omega
     ·obtain ⟨z1, z2⟩ := hcr z hz
      rw [hput, if_neg (by omega)]
   ·have e1 : frStep (x.fr w.k w.g) m w.s w.f = (m.tick, w.s, ⟨0, { w.f.v with cnt := w.f.v.cnt + 1 }, { w.f.e with cnt := w.f.e.cnt + 1, at_ := 0 }, WalkS.zero, gNone, gNone, false⟩) := by
     unfold frStep endStep
     rw [hd, ha, ed, he]
     simp only [bf, if_false, if_neg hc, ed]
     unfold Mm.cas
     rw [if_neg hc]
    rw [e1]
    refine h.still hi (fun y => ?_) ⟨hm0, hm2, fun _ => ⟨hk3, hgg, rfl, by show w.f.v.cnt + 1 ≤ T + 1; omega, Nat.zero_le _, fun _ => ⟨ed, ⟨Nat.zero_le _, ei.w, ei.o⟩, by show w.f.e.cnt + 1 ≤ T + 1; omega, ec, ek, fun hh => (by cases hh)⟩, fun hh => (by rcases hh with hh | hh <;> cases hh), fun hh => (by cases hh), fun hh => (by cases hh), fun hh => (by cases hh), ⟨fun _ => htl0, fun hh => (by rcases hh with hh | hh | hh <;> cases hh), fun _ => htk0⟩, hc0, fun _ => hb0 (by omega)⟩⟩
    rw [hw, hown, own_mid rfl, hh0, hg0]
    simp
 ·-- the epoch
  obtain ⟨c1, c2, c3, c4⟩ := hc1 (.inl ha)
  have hh1 : w.hold C = C w.k := by rw [hh, if_pos (.inl ha)]
  have hg0 : w.giv = [] := by rw [hg, if_neg (by omega)]
  have htl1 := htl.s1 (.inl ha)
  have e1 : frStep (x.fr w.k w.g) m w.s w.f = (m.tick, w.s, ⟨2, { w.f.v with cnt := w.f.v.cnt + 1, tag := cutE (m.at_ 2) }, w.f.e, ⟨[w.f.v.chunk], false⟩, gNone, gNone, false⟩) := by
   unfold frStep
   rw [hd, ha]
   simp only [bf, if_false]
  rw [e1]
  refine h.still hi (fun y => ?_) ⟨hm0, hm2, fun _ => ⟨hk3, hgg, rfl, by show w.f.v.cnt + 1 ≤ T + 1; omega, by show 2 ≤ 4; omega, fun hh => (by cases hh), fun _ => ⟨c1, c2, c3, c4.congr fun _ _ => rfl⟩, fun _ => ⟨1, Nat.le_refl _, List.length_pos_iff.2 c2, ?_⟩, fun hh => (by cases hh), fun hh => (by cases hh), ⟨fun hh => (by rcases hh with hh | hh <;> cases hh), fun _ => htl1, fun hh => (by rcases hh with hh | hh <;> cases hh)⟩, hc0, fun _ => hb0 (by omega)⟩⟩
  ·rw [hw, hown, own_mid rfl, hh1, hg0, if_pos (by exact .inr rfl), if_neg (by show ¬ (2 : Nat) = 4; omega)]
   simp
  ·show (⟨[w.f.v.chunk], false⟩ : WalkS) = ⟨(C w.k).take 1, false⟩
   rw [c3]
   cases hC : C w.k with
   | nil => exact absurd hC c2
   | cons y l => rfl
 ·-- the Walk
  obtain ⟨c1, c2, c3, c4⟩ := hc1 (.inr ha)
  obtain ⟨t, t1, t2, ht⟩ := hc2 ha
  have hh1 : w.hold C = C w.k := by rw [hh, if_pos (.inr ha)]
  have hg0 : w.giv = [] := by rw [hg, if_neg (by omega)]
  have htl1 := htl.s1 (.inr (.inl ha))
  have hlast := lastI_take (l := C w.k) t1 t2
  have hnx := chn_next (l := C w.k) (t := t - 1) c4 (by omega)
  rw [show t - 1 + 1 = t by omega] at hnx
  have hcr := hs.cr w.k hk3
  have hCl := length_nodup x.c (C w.k) (hs.nd w.k hk3) hcr
  have htl' : ((C w.k).take t).length = t := by rw [List.length_take]; omega
  by_cases hlt : t < (C w.k).length
  ·have hhd := head_drop hlt
   have hzm : (C w.k).getD t 0 ∈ C w.k := by
    rw [List.getD_eq_getElem?_getD, List.getElem?_eq_getElem hlt]; exact List.getElem_mem _
   obtain ⟨z1, z2⟩ := hcr _ hzm
   obtain ⟨z, hz⟩ : ∃ z, (C w.k).getD t 0 = z := ⟨_, rfl⟩
   rw [hhd, hz] at hnx
   rw [hz] at z1 z2
   have hbe : behindN x.c (m.at_ (x.link + ((C w.k).getD (t - 1) 0).toNat)) = z := by
    rw [hnx]; unfold behindN; rw [if_neg (by omega)]; omega
   have htk : (C w.k).take t ++ [z] = (C w.k).take (t + 1) := by
    rw [List.take_add_one, List.getElem?_eq_getElem hlt]
    have : (C w.k)[t] = z := by rw [← hz, List.getD_eq_getElem?_getD, List.getElem?_eq_getElem hlt]; rfl
    rw [this]; rfl
   have e0 : walkStep x.link x.c m w.f.w = (⟨(C w.k).take (t + 1), false⟩, m.tick) := by
    rw [ht]
    unfold walkStep
    simp only [bf, if_false, hlast, hbe, htl', htk]
    rw [if_pos ⟨z1, by omega⟩]
   have e1 : frStep (x.fr w.k w.g) m w.s w.f = (m.tick, w.s, ⟨2, { w.f.v with cnt := w.f.v.cnt + 1 }, w.f.e, ⟨(C w.k).take (t + 1), false⟩, gNone, gNone, false⟩) := by
    unfold frStep
    rw [hd, ha]
    simp only [bf, if_false]
    rw [e0]
    simp
   rw [e1]
   refine h.still hi (fun y => ?_) ⟨hm0, hm2, fun _ => ⟨hk3, hgg, rfl, by show w.f.v.cnt + 1 ≤ T + 1; omega, by show 2 ≤ 4; omega, fun hh => (by cases hh), fun _ => ⟨c1, c2, c3, c4.congr fun _ _ => rfl⟩, fun _ => ⟨t + 1, by omega, by show t + 1 ≤ (C w.k).length; omega, rfl⟩, fun hh => (by cases hh), fun hh => (by cases hh), ⟨fun hh => (by rcases hh with hh | hh <;> cases hh), fun _ => htl1, fun hh => (by rcases hh with hh | hh <;> cases hh)⟩, hc0, fun _ => hb0 (by omega)⟩⟩
   rw [hw, hown, own_mid rfl, hh1, hg0, if_pos (by exact .inr rfl), if_neg (by show ¬ (2 : Nat) = 4; omega)]
   simp
  ·obtain rfl : t = (C w.k).length := by omega
   rw [head_drop_no (Nat.le_refl _)] at hnx
   have hbe : behindN x.c (m.at_ (x.link + ((C w.k).getD ((C w.k).length - 1) 0).toNat)) = -1 := by
    rw [hnx]; unfold behindN; rw [if_neg (by omega)]; rfl
   have e0 : walkStep x.link x.c m w.f.w = (⟨C w.k, true⟩, m.tick) := by
    rw [ht]
    unfold walkStep
    simp only [bf, if_false, hlast, hbe]
    rw [if_neg (fun hh => by have := hh.1; omega), List.take_length]
   have e1 : frStep (x.fr w.k w.g) m w.s w.f = (m.tick, supRet w.s w.f.v.tag (C w.k), frLeave (x.fr w.k w.g) { w.f.v with cnt := w.f.v.cnt + 1 } w.f.e ⟨C w.k, true⟩) := by
    unfold frStep
    rw [hd, ha]
    simp only [bf, if_false]
    rw [e0]
    simp
   rw [e1]
   have hmo2 := supRet_most w.s w.f.v.tag (C w.k)
   refine h.still hi (fun y => ?_) ⟨by show 0 ≤ (supRet w.s w.f.v.tag (C w.k)).most; omega, by show (supRet w.s w.f.v.tag (C w.k)).most ≤ 64; omega, fun _ => ⟨hk3, hgg, rfl, by show w.f.v.cnt + 1 ≤ T + 1; omega, by show 3 ≤ 4; omega, fun hh => (by cases hh), fun hh => (by rcases hh with hh | hh <;> cases hh), fun hh => (by cases hh), fun _ => ⟨PushS.ok_init fun z hz => ?_, rfl, rfl⟩, fun hh => (by cases hh), ⟨fun hh => (by rcases hh with hh | hh <;> cases hh), fun _ => htl1, fun _ => rfl⟩, hc0, fun _ => hb0 (by omega)⟩⟩
   ·have := supRet_count w.s w.f.v.tag (C w.k) y
    rw [hw, hown, own_mid rfl, hh1, hg0, if_neg (by show ¬ ((3 : Nat) = 1 ∨ (3 : Nat) = 2); omega), if_neg (by show ¬ (3 : Nat) = 4; omega)]
    simp only [List.count_append, List.count_nil]
    omega
   ·have : z = (w.k : Int) := List.mem_singleton.1 hz
    rw [this]
    exact ⟨by omega, by show (w.k : Int) < x.sl; omega⟩
 ·-- the slot's Push
  obtain ⟨p1, p2, p3⟩ := hc3 ha
  have hh0 : w.hold C = [] := by rw [hh, if_neg (by omega)]
  have hg0 : w.giv = [] := by rw [hg, if_neg (by omega)]
  have htl1 := htl.s1 (.inr (.inr ha))
  have htk0 := htl.k0 (.inr ha)
  obtain ⟨M, hM⟩ : ∃ M, pushStep x.spare m w.f.p = M := ⟨_, rfl⟩
  have hpm := pushStep_mem hsk hmo p1
  have hpo := pushStep_ok (k := x.spare) hmo p1
  have hpl := pushStep_l x.spare m w.f.p
  have hfr : ∀ a, a ≠ 1 → a ≠ x.slot + w.k → (pushStep x.spare m w.f.p).2.at_ a = m.at_ a := fun a h1 h2 => pushStep_frame x.spare m w.f.p hsk p1 h1 (fun z hz => by rw [p3] at hz; rw [List.mem_singleton.1 hz, tn]; exact h2) p2
  rw [hM] at hpm hpo hpl hfr
  have hrootN : ∀ k, k < 3 → M.2.at_ (x.root + k) = m.at_ (x.root + k) := fun k hk => hfr _ (by omega) (by omega)
  have hlinkN : ∀ z : Int, 0 ≤ z → z < x.c → z ∉ (ws i).giv → M.2.at_ (x.link + z.toNat) = m.at_ (x.link + z.toNat) := fun z h1 h2 _ => hfr _ (by omega) (by omega)
  have htot : ∀ y, totC x W C M.2 y = totC x W C m y := fun y => by
   unfold totC liveC
   rw [hrootN 0 (by omega), hrootN 1 (by omega), hrootN 2 (by omega)]
  cases hq : M.1.done with
  | false =>
    have e1 : frStep (x.fr w.k w.g) m w.s w.f = (M.2, w.s, ⟨3, { w.f.v with cnt := w.f.v.cnt + 1 }, w.f.e, w.f.w, M.1, gNone, false⟩) := by
     unfold frStep
     rw [hd, ha]
     simp only [bf, if_false]
     rw [hM, hq]
     simp
    rw [e1]
    refine h.upd hi (hpm.2.trans hml) hpm.1 (fun k hk => by rw [hrootN k hk]; exact h.root k hk) (fun k hk e => by rw [hrootN k hk] at e; exact e) (fun y => ?_) hlinkN ⟨hm0, hm2, fun _ => ⟨hk3, hgg, rfl, by show w.f.v.cnt + 1 ≤ T + 1; omega, by show 3 ≤ 4; omega, fun hh => (by cases hh), fun hh => (by rcases hh with hh | hh <;> cases hh), fun hh => (by cases hh), fun _ => ⟨hpo, hq, hpl.trans p3⟩, fun hh => (by cases hh), ⟨fun hh => (by rcases hh with hh | hh <;> cases hh), fun _ => htl1, fun _ => htk0⟩, hc0, fun _ => hb0 (by omega)⟩⟩
    rw [htot, hw, hown, own_mid rfl, hh0, hg0, if_neg (by show ¬ ((3 : Nat) = 1 ∨ (3 : Nat) = 2); omega), if_neg (by show ¬ (3 : Nat) = 4; omega)]
    simp
  | true =>
    obtain ⟨q, hqq⟩ : ∃ q, overK w.s.most w.s.xs = q := ⟨_, rfl⟩
    have hndT : (w.s.xs.take q).Nodup := by
     have : (w.s.xs.take q ++ w.s.xs.drop q).Nodup := by rw [List.take_append_drop]; exact hxn.1
     exact (List.nodup_append.1 this).1
    have hrT : ∀ z ∈ w.s.xs.take q, 0 ≤ z ∧ z < (x.pool.n : Int) := fun z hz => hxn.2 z (List.mem_of_mem_take hz)
    have hgi : giveInit x.pool (w.s.xs.take q) = PushS.init (w.s.xs.take q) := giveInit_yes ⟨hndT, hrT⟩
    have e1 : frStep (x.fr w.k w.g) m w.s w.f = (M.2, { w.s with xs := w.s.xs.drop q }, ⟨4, { w.f.v with cnt := w.f.v.cnt + 1, back := w.f.v.cnt + 1, slot := -1 }, w.f.e, w.f.w, M.1, PushS.init (w.s.xs.take q), (PushS.init (w.s.xs.take q)).done⟩) := by
     unfold frStep
     rw [hd, ha]
     simp only [bf, if_false]
     rw [hM, hq, hqq, hgi]
     simp
    rw [e1]
    have hcq : ∀ y, (w.s.xs.take q).count y + (w.s.xs.drop q).count y = w.s.xs.count y := fun y => by rw [← List.count_append, List.take_append_drop]
    by_cases hq0 : w.s.xs.take q = []
    ·refine h.upd hi (hpm.2.trans hml) hpm.1 (fun k hk => by rw [hrootN k hk]; exact h.root k hk) (fun k hk e => by rw [hrootN k hk] at e; exact e) (fun y => ?_) hlinkN (gone_I (s := { w.s with xs := w.s.xs.drop q }) (f := ⟨4, _, _, _, _, _, (PushS.init (w.s.xs.take q)).done⟩) hwk rfl (by show (PushS.init (w.s.xs.take q)).done = true; rw [hq0]; rfl))
     have := hcq y
     rw [htot, hw, hown, own_gone (by show (PushS.init (w.s.xs.take q)).done = true; rw [hq0]; rfl), hh0, hg0]
     simp only [List.count_append, List.count_nil]
     show _ + ((w.s.xs.drop q).count y + (w.s.lm.alls.count y + (0 + 0))) ≤ _
     omega
    ·have hpd : (PushS.init (w.s.xs.take q)).done = false := dz hq0
     refine h.upd hi (hpm.2.trans hml) hpm.1 (fun k hk => by rw [hrootN k hk]; exact h.root k hk) (fun k hk e => by rw [hrootN k hk] at e; exact e) (fun y => ?_) hlinkN ⟨hm0, hm2, fun _ => ⟨hk3, hgg, hpd, by show w.f.v.cnt + 1 ≤ T + 1; omega, by show 4 ≤ 4; omega, fun hh => (by cases hh), fun hh => (by rcases hh with hh | hh <;> cases hh), fun hh => (by cases hh), fun hh => (by cases hh), fun _ => ⟨PushS.ok_init hrT, hpd⟩, ⟨fun _ => rfl, fun hh => (by rcases hh with hh | hh | hh <;> cases hh), fun hh => (by rcases hh with hh | hh <;> cases hh)⟩, hc0, fun hh => (by have : 4 ≤ 3 := hh; omega)⟩⟩
     have := hcq y
     rw [htot, hw, hown, own_mid hpd, hh0, hg0, if_neg (by show ¬ ((4 : Nat) = 1 ∨ (4 : Nat) = 2); omega), if_pos rfl]
     simp only [List.count_append, List.count_nil]
     show _ + ((w.s.xs.drop q).count y + (w.s.lm.alls.count y + (0 + (w.s.xs.take q).count y))) ≤ _
     omega
 ·-- the Spill
  obtain ⟨p1, p2⟩ := hc4 ha
  have hh0 : w.hold C = [] := by rw [hh, if_neg (by omega)]
  have hg1 : w.giv = w.f.g.l := by rw [hg, if_pos ha]
  have htl0 := htl.s0 (.inr ha)
  obtain ⟨M, hM⟩ : ∃ M, pushStep x.pool m w.f.g = M := ⟨_, rfl⟩
  have hpm := pushStep_mem hpk hmo p1
  have hpo := pushStep_ok (k := x.pool) hmo p1
  have hpl := pushStep_l x.pool m w.f.g
  have hfr : ∀ a, a ≠ 0 → (∀ z ∈ w.f.g.l, a ≠ x.link + z.toNat) → (pushStep x.pool m w.f.g).2.at_ a = m.at_ a := fun a h1 h2 => pushStep_frame x.pool m w.f.g hpk p1 h1 h2 p2
  rw [hM] at hpm hpo hpl hfr
  have hrootN : ∀ k, k < 3 → M.2.at_ (x.root + k) = m.at_ (x.root + k) := fun k hk => hfr _ (by omega) (fun z hz => by omega)
  have hlinkN : ∀ z : Int, 0 ≤ z → z < x.c → z ∉ (ws i).giv → M.2.at_ (x.link + z.toNat) = m.at_ (x.link + z.toNat) := fun z h1 h2 h3 => hfr _ (by omega) (fun v hv => by
   have hv2 := p1.g v hv
   have hne : z ≠ v := fun e => h3 (by rw [hw, hg1, e]; exact hv)
   omega)
  have htot : ∀ y, totC x W C M.2 y = totC x W C m y := fun y => by
   unfold totC liveC
   rw [hrootN 0 (by omega), hrootN 1 (by omega), hrootN 2 (by omega)]
  have e1 : frStep (x.fr w.k w.g) m w.s w.f = (M.2, w.s, ⟨4, { w.f.v with cnt := w.f.v.cnt + 1 }, w.f.e, w.f.w, w.f.p, M.1, M.1.done⟩) := by
   unfold frStep
   rw [hd, ha]
   simp only [bf, if_false]
   rw [hM]
  rw [e1]
  cases hq : M.1.done with
  | true =>
    refine h.upd hi (hpm.2.trans hml) hpm.1 (fun k hk => by rw [hrootN k hk]; exact h.root k hk) (fun k hk e => by rw [hrootN k hk] at e; exact e) (fun y => ?_) hlinkN (gone_I hwk rfl rfl)
    rw [htot, hw, hown, own_gone rfl, hh0, hg1]
    simp only [List.count_append, List.count_nil]
    omega
  | false =>
    refine h.upd hi (hpm.2.trans hml) hpm.1 (fun k hk => by rw [hrootN k hk]; exact h.root k hk) (fun k hk e => by rw [hrootN k hk] at e; exact e) (fun y => ?_) hlinkN ⟨hm0, hm2, fun _ => ⟨hk3, hgg, rfl, by show w.f.v.cnt + 1 ≤ T + 1; omega, by show 4 ≤ 4; omega, fun hh => (by cases hh), fun hh => (by rcases hh with hh | hh <;> cases hh), fun hh => (by cases hh), fun hh => (by cases hh), fun _ => ⟨hpo, hq⟩, ⟨fun _ => htl0, fun hh => (by rcases hh with hh | hh | hh <;> cases hh), fun hh => (by rcases hh with hh | hh <;> cases hh)⟩, hc0, fun hh => (by have : 4 ≤ 3 := hh; omega)⟩⟩
    rw [htot, hw, hown, own_mid rfl, hh0, hg1, if_neg (by show ¬ ((4 : Nat) = 1 ∨ (4 : Nat) = 2); omega), if_pos rfl, hpl]
    simp only [List.count_append, List.count_nil]
    omega
theorem FpI.ref (h : FpI x W C m ws T) (hs : FpS x W C) (hi : i < 3) (hT : T ≤ 100000) (hon : (ws i).on = true) : RefF x (ws i).s (ws i).f := by
 obtain ⟨b1, b2, b3, b4, b5, b6, b7⟩ := show MayC (x.w : Int) x.c x.wd x.sl x.ca x.ba from hs.ok
 have r := (h.wk i hi).run hon
 have hkr := r.k3
 have hw := hs.wok hkr
 have hcr := head_ge (x := x) (hs.cr _ hkr)
 have hch : (ws i).f.at_ = 1 ∨ (ws i).f.at_ = 2 → 0 ≤ (ws i).f.v.chunk ∧ (ws i).f.v.chunk < x.c := fun h1 => by
  obtain ⟨c1, c2, c3, c4⟩ := r.c1 h1
  rw [c3]
  refine ⟨?_, hcr.2⟩
  cases hC : C (ws i).k with
  | nil => exact absurd hC c2
  | cons y l => have := hs.cr _ hkr y (by rw [hC]; simp); exact this.1
 refine ⟨⟨r.a4, by have := r.n; omega, fun h0 => ?_, fun h0 h1 => ?_, fun h1 => hch (.inl h1)⟩, fun h0 => ?_, fun h1 => ⟨(r.c1 h1).1, hch h1⟩, fun h2 => ?_, fun h3 => ?_, fun h4 => ?_, r.c0, r.b0⟩
 ·obtain ⟨a, b, c, d, e, f⟩ := r.e0 h0
  exact ⟨b.a, b.w, fun _ => by have := b.o.m; omega, by omega⟩
 ·obtain ⟨a, b, c, d, e, f⟩ := r.e0 h0
  rw [f h1]; exact hw.2.1
 ·obtain ⟨a, b, c, d, e, f⟩ := r.e0 h0
  exact ⟨b, a, d⟩
 ·obtain ⟨t, t1, t2, ht⟩ := r.c2 h2
  rw [ht]
  have hCl := length_nodup x.c _ (hs.nd _ hkr) (hs.cr _ hkr)
  refine ⟨⟨fun e => ?_, fun z hz => hs.cr _ hkr z (List.mem_of_mem_take hz), by show (List.take t _).length ≤ _; rw [List.length_take]; omega⟩, rfl⟩
  have := congrArg List.length e
  dsimp only at this
  rw [List.length_take, List.length_nil] at this
  omega
 ·obtain ⟨p1, p2, p3⟩ := r.c3 h3
  exact ⟨p1, by rw [p3]; simp, p2⟩
 ·obtain ⟨p1, p2⟩ := r.c4 h4
  refine ⟨p1, ?_, p2⟩
  have := length_nodup x.c _ (h.own_nd hi) (h.own_rng hi)
  unfold Fk.own Fk.giv at this
  rw [if_pos ⟨hon, h4⟩] at this
  simp only [List.length_append] at this
  omega
end
section
open Go
attribute [local irreducible] Sx Cx Rx Fx Krg Ksq Kbl Klp Kr
section
variable {L F G : St}
theorem Fx.iso {P : Program} {f : FuncId} {vs : List Value} {V : Value} {M : St} (h1 : Ent L M) (h2 : Ent M L) (x : Fx P f vs M (fun v L' => v = V ∧ L' = M)) : Fx P f vs L (fun v L' => v = V ∧ L' = L) := by
 unfold Fx at *
 intro w0 w s
 exact (x w0 w (s.ent h1)).mono fun en w' ⟨v', L', he, ⟨hv, hL⟩, hS⟩ => ⟨v', L, he, ⟨hv, rfl⟩, hS.ent (by subst hL; exact h2)⟩
end
def updF {α : Type} (f : Nat → α) (i : Nat) (v : α) : Nat → α := fun j => if j = i then v else f j
theorem updF_at {α : Type} (f : Nat → α) (i : Nat) (v : α) : updF f i v i = v := if_pos rfl
theorem updF_ne {α : Type} {f : Nat → α} {i j : Nat} {v : α} (h : j ≠ i) : updF f i v j = f j := if_neg h
def yvs (Y : Nat → OA) : List Value := (List.range 3).map fun j => .pointer (Y j)
theorem yvs_get {Y : Nat → OA} {i : Nat} (h : i < 3) : (yvs Y)[0 + (i : Int).toNat * 1]? = some (.pointer (Y i)) := by simp [yvs, h]
theorem yvs_set {Y : Nat → OA} {i : Nat} {o : OA} (h : i < 3) : (yvs Y).set (0 + (i : Int).toNat * 1) (.pointer o) = yvs (updF Y i o) := by
 rcases (show i = 0 ∨ i = 1 ∨ i = 2 by omega) with rfl | rfl | rfl <;> rfl
theorem yvs_blt {Y : Nat → OA} {i : Nat} (h : i < 3) : Nat.blt (0 + (i : Int).toNat * 1) (yvs Y).length = true := by
 rw [show (yvs Y).length = 3 by simp [yvs]]; rcases (show i = 0 ∨ i = 1 ∨ i = 2 by omega) with rfl | rfl | rfl <;> rfl
section
variable {L F G : St}
structure EnX where
 b : Nat
 bb : Nat
 e : EndS
 s : Nat
structure PlS where
 i : Nat
 m : Mm
 W : Nat → Wk
 A : Nat → Nat
 bs : Nat → Nat
 Y : Nat → OA
 en : Option EnX
structure PlOk (x : Cn) (len : Nat) (p : PlS) : Prop where
 i : p.i ≤ len
 ag : Ag x p.m p.W p.i
 n : p.m.n ≤ 10 + p.i
 wk : ∀ j, j < 3 → (p.W j).a.done = false → EnA (p.W j).a ∧ p.A j < 2 ∧ ∃ b, p.Y j = ad b
 en : ∀ q, p.en = some q → q.e.ok ∧ EndI q.e ∧ q.e.cnt ≤ p.i ∧ q.s < 2
theorem updF_id {α : Type} (f : Nat → α) (i : Nat) : updF f i (f i) = f := by
 funext j; unfold updF; split
 ·rename_i h; rw [h]
 ·rfl
theorem updN_id (f : Nat → Nat) (i : Nat) : updN f i (f i) = f := by
 funext j; unfold updN; split
 ·rename_i h; rw [h]
 ·rfl
end
section
variable {L F G : St}
theorem rootsSpare {g mp sb : Nat} {x : Cn} {m : Mm} (hx : x.ok) (hl : x.len ≤ m.ws.length) (hl2 : m.ws.length ≤ 8388608) [t : Take L (ad mp) (MemO m) F] [s : Take F (ad sb) (SkO mp x.spare) G] {H : St} [c : Take L (ad g) (RoO mp sb x) H] :
  FX 53 [zp g] L (fun v L' => ∃ ro co, v = .slice ro (listK x.spare m).length co ∧ L' = pt ro (Row 3 1 (listK x.spare m).length co (ints (listK x.spare m))) :: L) := by
 refine Fm Tryz.func53 k53 ?_
 dsimp only [c53, eL]
 refine go ?_
 refine Sa rfl (stackList (sb := sb) (mp := mp) (k := x.spare) (m := m) (hx.spare (n := m.ws.length) hl hl2)) ?_
 rintro v L' ⟨ro, co, rfl, rfl⟩
 refine go ?_
 exact Ko rfl (Er _) ⟨ro, co, rfl, rfl⟩
theorem ehF_out {P : As} {x : Cn} {n : Hn} {e : He} {r r2 : OA} {k c c2 : Nat} {Q : Nat → Who} {S S2 : Nat → SupS} {m m2 : Mm} : Ent (ehF x n e r r2 k c c2 Q S S2 m m2 (P :: G)) (P :: ehF x n e r r2 k c c2 Q S S2 m m2 G) := by
 dsimp only [ehF]
 iterate 18 (refine Et (Ec ?_) Ent.swap)
 exact Ent.deep (N := many k _) (M := [P]) (G := G)
set_option maxHeartbeats 4000000 in
theorem enFirst : FX 45 [] L (fun v L' => v = .bool true ∧ L = L') := by
 refine Fm Tryz.func45 k45 ?_
 dsimp only [c45, eL]
 have hx : (⟨1, 1, 8, 1, 0, 1⟩ : Cn).ok := by unfold Cn.ok MayC; decide
 obtain ⟨x, hxe⟩ : ∃ x, x = (⟨1, 1, 8, 1, 0, 1⟩ : Cn) := ⟨_, rfl⟩
 have hca : x.ca = 0 := by rw [hxe]
 have hsl : x.sl = 1 := by rw [hxe]
 rw [← hxe] at hx
 have hlen := hx.len_le
 obtain ⟨M, hM, hn, hml, hmo, hpo, hrt, hoth, hsp, hgen⟩ := region0 hx 0 (by omega)
 obtain ⟨hps, hio⟩ := region0s hx 0 (by omega)
 rw [hM] at hps
 have hnd := hsp.nd
 rw [List.nodup_cons] at hnd
 have hmost : (SupS.nil x.ca).most = 0 := by rw [hca]; rfl
 obtain ⟨M2, A, e5, hrun, a1, a2, a3, a4, a5, a6, _, c1, c2, c3, _⟩ := fr_bare (x := x) (slot := 0) (gen := 1) (m := M) (S := SupS.nil x.ca) hx hml hmo (by omega) hps hnd.1 (by show 0 + 0 ≤ 1000; omega) (by omega) (by omega) (by rw [hmost]; show ((0 : Nat) : Int) ≤ 0; omega) (by rw [hrt]; exact ⟨by show 1 ≤ 1; omega, rfl⟩) (by rw [hrt])
 refine go ?_
 refine Sa (vs := [x.v]) (by rw [hxe]; rfl) (enMade hx) ?_
 rintro v L' ⟨n, e, r, r2, c, c2', Q, rfl, rfl⟩
 refine go ?_
 refine Se_ (M := rhF x n e (ad r) (ad r2) 3 c c2' (allM x) (pt (ad r) (Row 47 1 3 c (ptrs 3 fun i => (Q i).u)) :: pt (ad (Q 0).u) (SupO n.mp (Q 0).pb x (SupS.nil x.ca)) :: pt (ad (Q 0).pb) (SkO n.mp x.pool) ::
   pt (ad e.eo) (EnO n.mp e.ro e.ch) :: pt (ad e.ro) (RoO n.mp e.sp x) :: pt (ad e.sp) (SkO n.mp x.spare) :: pt (ad e.ch) (ChO n.mp e.pb x) :: L)) ?_ ?_
 ·dsimp only [ehF, rhF]
  refine Et (Ent.ith 0 (by omega)) ?_
  simp only [whoL, lc, ln]
  exact entm
 refine Sa rfl (enRegion0 (x := x) (n := n) (e := e) (m := allM x) (s := 0) (l := (iotaI x.sl).tail) 0 1 hx (allM_len x) (allM_ok hx) hsp) ?_
 rintro v L' ⟨rfl, rfl⟩
 rw [hM, hgen]
 refine go ?_
 have ga := enFrees (x := x) (n := n) (e := e) (r := r) (r2 := ad r2) (k := 3) (c := c) (c2 := c2') (Q := Q) (i := 0) (S := SupS.nil x.ca) (m := M) (slot := 0) (gen := 1) (G := pt (ad n.ro) (RoO n.mp n.sp x) :: pt (ad n.sp) (SkO n.mp x.spare) :: L) 5 (by omega) (by omega) (by omega) hx (by omega) hrun
 rw [e5] at ga
 refine Se_ ?_ (Sa rfl ga ?_)
 ·dsimp only [rhF, fgF]
  exact entm
 rintro v L' ⟨b, rfl, rfl⟩
 dsimp only [fgF]
 refine go ?_
 refine Sa rfl (frDoneY (b := b) (h := frH n e Q 0) (x := x) (slot := 0) (gen := 1) (s := A) a1) ?_
 rintro v L' ⟨rfl, rfl⟩
 refine go ?_
 refine Sa rfl (frCodeD (b := b) (h := frH n e Q 0) (x := x) (slot := 0) (gen := 1) (s := A) a1) ?_
 rintro v L' ⟨rfl, rfl⟩
 rw [a4]
 refine go ?_
 refine Sa rfl (frPointD (b := b) (h := frH n e Q 0) (x := x) (slot := 0) (gen := 1) (s := A) a1) ?_
 rintro v L' ⟨rfl, rfl⟩
 rw [a5]
 refine go ?_
 refine Sa rfl (frBackD (b := b) (h := frH n e Q 0) (x := x) (slot := 0) (gen := 1) (s := A) a1) ?_
 rintro v L' ⟨rfl, rfl⟩
 rw [a6]
 refine go ?_
 refine Sa rfl (rootsSpare (g := n.ro) (mp := n.mp) (sb := n.sp) (x := x) (m := M2) hx (by omega) (by omega)) ?_
 rw [list_pool c3, ← hio, iotaI_len, hsl]
 rintro v L' ⟨ro, co, rfl, rfl⟩
 refine go ?_
 refine Ko rfl ?_ ⟨rfl, rfl⟩
 exact entm
end
section
variable {L F G : St}
end
section
variable {L F G : St}
end
section
variable {L F G : St}
theorem s5_in {n i : Nat} {f : Nat → St} {N G A R : St} [t : Many L n f N G] (h : i < n) (e : f i = A ++ R) : Ent L (A ++ ((N ++ (many n (updS f i []) ++ G)) ++ R)) := by
 rw [t.eq]
 refine Et (Et Ent.deep (Et (Ent.one h) (Ent.app Ent.deep))) ?_
 rw [e, List.append_assoc]
 exact Ent.app (.perm List.perm_append_comm)
theorem s5_out {n i : Nat} {f : Nat → St} {N G A R : St} [t : Many L n f N G] (h : i < n) (e : f i = A ++ R) : Ent (A ++ ((N ++ (many n (updS f i []) ++ G)) ++ R)) L := by
 rw [t.eq]
 have h1 : Ent (A ++ ((N ++ (many n (updS f i []) ++ G)) ++ R)) (f i ++ (N ++ (many n (updS f i []) ++ G))) := by
  rw [e, List.append_assoc A R]
  exact Ent.app (.perm List.perm_append_comm)
 refine Et h1 (Et (Ent.ithBack h) ?_)
 rw [updS_id]
 exact Er _
def s5W (n : Hn) (x : Cn) (q : Who) (s : SupS) (R : St) : St := pt (ad q.u) (SupO n.mp q.pb x s) :: pt (ad q.s) (RSupO n.w s) :: R
abbrev s5F (x : Cn) (n : Hn) (e : He) (r r2 c c2 : Nat) (Q : Nat → Who) (S : Nat → SupS) (R : Nat → St) (m : Mm) (G : St) : St :=
 pt (ad n.a) (Blk 97 (ehV x n e (ad r) (ad r2) 3 c c2)) :: pt (ad r) (Row 47 1 3 c (ptrs 3 fun i => (Q i).u)) :: pt (ad r2) (Row 81 1 3 c2 (ptrs 3 fun i => (Q i).s)) ::
 pt (ad n.mp) (MemO m) :: pt (ad n.w) (RWO x n.rm n.rp n.rs n.re) :: pt (ad n.rm) (RMemO m) ::
 (many 3 (fun i => s5W n x (Q i) (S i) (R i)) ++ G)
abbrev s5M (n : Hn) (m : Mm) (rg : OA) (cg : Nat) (G : St) : St := pt (ad n.rm) (Blk 110 [.slice rg m.ws.length cg, ii (IntKind.i64.wrap (m.n : Int))]) :: pt rg (Row 56 1 m.ws.length cg (us m.ws)) :: G
abbrev s5G (x : Cn) (n : Hn) (e : He) (r r2 c c2 : Nat) (Q : Nat → Who) (m : Mm) (rg : OA) (cg : Nat) (T : St) : St :=
 pt (ad n.a) (Blk 97 (ehV x n e (ad r) (ad r2) 3 c c2)) :: pt (ad r) (Row 47 1 3 c (ptrs 3 fun i => (Q i).u)) :: pt (ad r2) (Row 81 1 3 c2 (ptrs 3 fun i => (Q i).s)) ::
 pt (ad n.mp) (MemO m) :: pt (ad n.w) (RWO x n.rm n.rp n.rs n.re) :: s5M n m rg cg T
set_option maxHeartbeats 4000000 in
theorem sameE {x : Cn} {n : Hn} {e : He} {r r2 c c2 : Nat} {Q : Nat → Who} {S : Nat → SupS} {R : Nat → St} {m : Mm} (hn : m.n ≤ 1000000000000) (hS : ∀ i, i < 3 → (S i).xs.length ≤ 1000000000) (hB : ∀ i, i < 3 → (S i).lm.size ≤ 1000000000) :
  FX 65 [zp n.a] (s5F x n e r r2 c c2 Q S R m G) (fun v L' => v = .bool true ∧ L' = s5F x n e r r2 c c2 Q S R m G) := by
 refine Fm Tryz.func65 k65 ?_
 dsimp only [c65, eL]
 dsimp only [s5F]
 refine Xo (a := ad n.rm) rfl ?_
 rintro ⟨rg, cg⟩
 simp only [rmemL, lc, ln]
 refine Cx.liftp fun hm => ?_
 refine Cx.rowkey (a := rg) fun hx0 hn0 _ hk1 => ?_
 have hmx : maxLen = 9223372036854775807 := rfl
 refine go ?_
 refine Cx.lp (α := {j : Nat // j ≤ m.ws.length}) (fun j => [(0, zp n.a), (3, ii j.1)]) (fun _ => s5G x n e r r2 c c2 Q m rg cg (many 3 (fun i => s5W n x (Q i) (S i) (R i)) ++ G)) (fun j => m.ws.length - j.1) ⟨0, Nat.zero_le _⟩ sb2 ?_ ?_
 ·dsimp only [s5G, s5M]
  exact entm
 rintro ⟨j, hj⟩
 dsimp only [s5G, s5M]
 refine go ?_
 refine Xi rfl (fun h => ?_) (fun h => ?_)
 ·have hjl : j < m.ws.length := by omega
  obtain ⟨g0, rfl⟩ := row_some hjl (hk1.imp (fun h => ⟨h.1, h.2.1, h.2.2⟩) id)
  refine go ?_
  refine Xd rfl kr_ (ge ?_)
  refine Eb kr_ rfl rfl (cellsPeek (b := n.mp) (m := m) j hjl) (ge ?_)
  refine El (b := g0) kr_ rfl rfl (show (us m.ws)[0 + (j : Int).toNat * 1]? = some (wd (m.at_ j)) by rw [show 0 + (j : Int).toNat * 1 = j by omega]; exact us_get (Mm.get hjl)) (ge ?_)
  rw [dt rfl]
  refine go ?_
  rw [w64 (n := (j : Int) + 1) (by omega) (by omega)]
  refine Kn ⟨j + 1, by omega⟩ sb2 ?_ (by dsimp only; omega)
  exact entm
 ·refine go ?_
  refine Cx.lp (α := {j : Nat // j ≤ 3}) (fun j => [(0, zp n.a), (4, ii j.1)]) (fun _ => s5G x n e r r2 c c2 Q m rg cg (many 3 (fun i => s5W n x (Q i) (S i) (R i)) ++ G)) (fun j => 3 - j.1) ⟨0, Nat.zero_le _⟩ sb2 ?_ ?_
  ·exact entm
  rintro ⟨i, hi⟩
  dsimp only [s5G, s5M]
  refine go ?_
  refine Xi rfl (fun h => ?_) (fun h => ?_)
  ·have hi3 : i < 3 := by omega
   refine go ?_
   refine Xe (s5_in (A := [pt (ad (Q i).u) (SupO n.mp (Q i).pb x (S i)), pt (ad (Q i).s) (RSupO n.w (S i))]) (R := R i) hi3 rfl) ?_
   simp only [lc, ln]
   refine Xo (a := ad (Q i).s) rfl ?_
   rintro ⟨st, lm⟩
   simp only [rsupL, lc, ln]
   refine Xo (a := ad st) rfl ?_
   rintro ⟨ra, ca⟩
   simp only [lc, ln]
   have hpu : (ptrs 3 fun i => (Q i).u)[0 + (i : Int).toNat * 1]? = some (zp (Q i).u) := by
    rw [show 0 + (i : Int).toNat * 1 = i by omega]; exact ptrs_get hi3
   have hps : (ptrs 3 fun i => (Q i).s)[0 + (i : Int).toNat * 1]? = some (zp (Q i).s) := by
    rw [show 0 + (i : Int).toNat * 1 = i by omega]; exact ptrs_get hi3
   refine Xd rfl kr_ (ge ?_)
   refine El (b := r) kr_ rfl rfl hpu (ge ?_)
   iterate 6 (refine Ev.bring 1 rfl ?_; refine ge ?_)
   refine Ev.bring 1 rfl ?_
   refine El (b := r2) kr_ rfl rfl hps ?_
   iterate 6 (refine Ev.bring 1 rfl ?_; refine ge ?_)
   refine Ea kr_ rfl rfl (supStash (u := (Q i).u) (mp := n.mp) (pb := (Q i).pb) (x := x) (s := S i) (hS i hi3)) (.keep (fun v L' ⟨_, _, _, e⟩ => by subst e; exact Has.cell rfl) (.keep (fun v L' ⟨_, _, _, e⟩ => by subst e; exact Has.cell rfl) (.keep (fun v L' ⟨_, _, _, e⟩ => by subst e; exact (Has.row (b := r2) (m := 1)).one (take_one hps)) (.keep (fun v L' ⟨_, _, _, e⟩ => by subst e; exact Has.cell rfl) (.dep rfl (.dep rfl .nil)))))) ?_
   rintro v L' ⟨a1, c1, rfl, rfl⟩
   refine ge ?_
   refine Eb kr_ rfl rfl (sameIntsR (xs := (S i).xs) (ys := (S i).xs) (a := a1) (b := ra) (hS i hi3)) (ge ?_)
   rw [dt rfl]
   refine go ?_
   refine Cx.lp (α := {k : Nat // k ≤ 3}) (fun k => [(0, zp n.a), (4, ii (i : Nat)), (5, ii k.1)])
    (fun _ => pt (ad (Q i).u) (SupO n.mp (Q i).pb x (S i)) :: pt (ad (Q i).s) (Blk 183 [zp n.w, zp st, zp lm]) :: pt (ad st) (RefO (S i).most (S i).xs) :: pt (ad lm) (RLimboO (S i).lm) ::
     s5G x n e r r2 c c2 Q m rg cg ((many 3 (updS (fun i => s5W n x (Q i) (S i) (R i)) i []) ++ G) ++ R i))
    (fun k => 3 - k.1) ⟨0, Nat.zero_le _⟩ sb3 ?_ ?_
   ·refine Et (StashO.close (T := 191) (most := (S i).most) (xs := (S i).xs) (a := ad st) (r := ra) rfl rfl rfl) ?_
    dsimp only [s5G, s5M]
    exact entm
   rintro ⟨k, hk⟩
   dsimp only [s5G, s5M]
   refine go ?_
   refine Xi rfl (fun h5 => ?_) (fun h5 => ?_)
   ·have hk3 : k < 3 := by omega
    have hz3 : ((S i).lm.items (k : Int).toNat).length ≤ (S i).lm.size := by unfold Lm.items Lm.size; split <;> omega
    have hBi := hB i hi3
    refine gg ?_
    refine Sx.ldr (b := r) rfl hpu (go ?_)
    refine Sa rfl (supBucket (u := (Q i).u) (mp := n.mp) (pb := (Q i).pb) (x := x) (s := S i) (k : Int) hBi) ?_
    rintro v L' (⟨hno, rfl, rfl⟩ | ⟨hyes, r1, k1, rfl, rfl⟩)
    ·refine gg ?_
     refine Sx.ldr (b := r2) rfl hps (go ?_)
     refine Sa rfl (refBucket (b := lm) (m := (S i).lm) (k := (k : Int)) hBi) ?_
     rintro v L' (⟨_, rfl, rfl⟩ | ⟨hyes, _⟩)
     rotate_left
     ·exact absurd hno hyes
     refine go ?_
     refine Sa rfl (sameInts (xs := []) (ys := []) (Rd.nil _ _ _) (Rd.nil _ _ _) (by omega)) ?_
     rintro v L' ⟨rfl, rfl⟩
     refine go ?_
     rw [w64 (n := (k : Int) + 1) (by omega) (by omega)]
     refine Kn ⟨k + 1, by omega⟩ sb3 ?_ (by dsimp only; omega)
     exact entm
    ·refine gg ?_
     refine Sx.ldr (b := r2) rfl hps (go ?_)
     refine Sa rfl (refBucket (b := lm) (m := (S i).lm) (k := (k : Int)) hBi) ?_
     rintro v L' (⟨hno, _⟩ | ⟨_, r3, k3, rfl, rfl⟩)
     ·exact absurd hno hyes
     refine go ?_
     refine Sx.gyes rfl (by simp) (go ?_)
     refine Sa rfl (sameIntsR (xs := (S i).lm.items (k : Int).toNat) (ys := (S i).lm.items (k : Int).toNat) (a := r1) (b := r3) (by omega)) ?_
     rintro v L' ⟨rfl, rfl⟩
     rw [dt (rfl : (S i).lm.items (k : Int).toNat = (S i).lm.items (k : Int).toNat)]
     refine go ?_
     rw [w64 (n := (k : Int) + 1) (by omega) (by omega)]
     refine Kn ⟨k + 1, by omega⟩ sb3 ?_ (by dsimp only; omega)
     exact entm
   ·refine go ?_
    rw [w64 (n := (i : Int) + 1) (by omega) (by omega)]
    refine Kn ⟨i + 1, by omega⟩ sb2 ?_ (by dsimp only; omega)
    refine Et ?_ (s5_out (A := [pt (ad (Q i).u) (SupO n.mp (Q i).pb x (S i)), pt (ad (Q i).s) (RSupO n.w (S i))]) (R := R i) hi3 rfl)
    simp only [lc, ln]
    refine Et (RSupO.close (a := ad (Q i).s) (st := st) (lm := lm) (w := n.w) (S i) rfl rfl rfl) ?_
    exact entm
  ·obtain rfl : i = 3 := by omega
   refine go ?_
   refine Xd rfl kr_ (ge ?_)
   refine Eb kr_ rfl rfl (cellsCount (b := n.mp) (m := m) hn) (ge ?_)
   rw [w64 (n := (m.n : Int)) (by omega) (by omega), dt rfl]
   refine go ?_
   refine Ko rfl ?_ ⟨rfl, rfl⟩
   refine Et (RMemO.close (a := ad n.rm) (r := rg) (v := ii (m.n : Int)) m hm (by rw [w64 (by omega) (by omega)]) rfl rfl) ?_
   exact entm
end
section
variable {L F G : St}
theorem frDoneQ {b : Nat} {h : FrH} {x : Cn} {slot : Nat} {gen : Int} {s : FrS} {F1 : St} (ha : s.done = false → s.at_ ≤ 4) [t1 : Take L (ad b) (FrO h x slot gen s) F1] : FX 56 [zp b] L (fun v L' => v = .bool s.done ∧ L = L') := by
 cases hd : s.done with
 | true =>
   refine (frDoneY (b := b) (h := h) (x := x) (slot := slot) (gen := gen) (s := s) hd).mono ?_
   rintro v L' ⟨rfl, rfl⟩
   exact ⟨by first | rfl | rw [hd], rfl⟩
 | false =>
   have ha := ha hd
   refine Fx.kept (t := t1) ?_
   refine Fm Tryz.func56 k56 ?_
   dsimp only [c56, eL]
   refine Xe (Eo t1.out) ?_
   rcases (show s.at_ = 0 ∨ s.at_ = 1 ∨ s.at_ = 2 ∨ s.at_ = 3 ∨ s.at_ = 4 by omega) with h0 | h0 | h0 | h0 | h0
   ·refine Xo (a := ad b) (FrO.e_ hd h0) ?_
    intro q
    simp only [frEL, lc, ln]
    refine go ?_
    refine Sa rfl (machDoneNo (b := b)) ?_
    rintro v' L' ⟨rfl, rfl⟩
    refine go ?_
    exact Ko rfl (FrO.closeE (v := s.v) s hd h0 rfl rfl rfl) ⟨rfl, rfl⟩
   ·refine Xo (a := ad b) (FrO.l_ hd h0) ?_
    rintro ⟨n1, n2, n3, ep⟩
    simp only [frLL, lc, ln]
    refine go ?_
    refine Sa rfl (machDoneNo (b := b)) ?_
    rintro v' L' ⟨rfl, rfl⟩
    refine go ?_
    exact Ko rfl (FrO.closeL (v := s.v) s hd h0 rfl rfl) ⟨rfl, rfl⟩
   ·refine Xo (a := ad b) (FrO.w_ hd h0) ?_
    rintro ⟨q, ep⟩
    simp only [frWL, lc, ln]
    refine go ?_
    refine Sa rfl (machDoneNo (b := b)) ?_
    rintro v' L' ⟨rfl, rfl⟩
    refine go ?_
    exact Ko rfl (FrO.closeW (v := s.v) s hd h0 rfl rfl rfl) ⟨rfl, rfl⟩
   ·refine Xo (a := ad b) (FrO.p_ hd h0) ?_
    rintro ⟨q, ep, wp⟩
    simp only [frPL, lc, ln]
    refine go ?_
    refine Sa rfl (machDoneNo (b := b)) ?_
    rintro v' L' ⟨rfl, rfl⟩
    refine go ?_
    exact Ko rfl (FrO.closeP (v := s.v) s hd h0 rfl rfl rfl) ⟨rfl, rfl⟩
   ·refine Xo (a := ad b) (FrO.g_ hd h0) ?_
    rintro ⟨q, ep, wp⟩
    simp only [frGL, lc, ln]
    refine go ?_
    refine Sa rfl (machDoneNo (b := b)) ?_
    rintro v' L' ⟨rfl, rfl⟩
    refine go ?_
    exact Ko rfl (FrO.closeG (v := s.v) s hd h0 rfl rfl rfl) ⟨rfl, rfl⟩
theorem frPointQ {b : Nat} {h : FrH} {x : Cn} {slot : Nat} {gen : Int} {s : FrS} {F1 : St} (ha : s.done = false → s.at_ ≤ 4) [t1 : Take L (ad b) (FrO h x slot gen s) F1] : FX 51 [zp b] L (fun v L' => v = ii (s.v.point : Nat) ∧ L = L') := by
 cases hd : s.done with
 | true =>
   refine (frPointD (b := b) (h := h) (x := x) (slot := slot) (gen := gen) (s := s) hd).mono ?_
   rintro v L' ⟨rfl, rfl⟩
   exact ⟨by first | rfl | rw [hd], rfl⟩
 | false =>
   have ha := ha hd
   refine Fx.kept (t := t1) ?_
   refine Fm Tryz.func51 k51 ?_
   dsimp only [c51, eL]
   refine Xe (Eo t1.out) ?_
   rcases (show s.at_ = 0 ∨ s.at_ = 1 ∨ s.at_ = 2 ∨ s.at_ = 3 ∨ s.at_ = 4 by omega) with h0 | h0 | h0 | h0 | h0
   ·refine Xo (a := ad b) (FrO.e_ hd h0) ?_
    intro q
    simp only [frEL, lc, ln]
    refine go ?_
    exact Ko rfl (FrO.closeE (v := s.v) s hd h0 rfl rfl rfl) ⟨rfl, rfl⟩
   ·refine Xo (a := ad b) (FrO.l_ hd h0) ?_
    rintro ⟨n1, n2, n3, ep⟩
    simp only [frLL, lc, ln]
    refine go ?_
    exact Ko rfl (FrO.closeL (v := s.v) s hd h0 rfl rfl) ⟨rfl, rfl⟩
   ·refine Xo (a := ad b) (FrO.w_ hd h0) ?_
    rintro ⟨q, ep⟩
    simp only [frWL, lc, ln]
    refine go ?_
    exact Ko rfl (FrO.closeW (v := s.v) s hd h0 rfl rfl rfl) ⟨rfl, rfl⟩
   ·refine Xo (a := ad b) (FrO.p_ hd h0) ?_
    rintro ⟨q, ep, wp⟩
    simp only [frPL, lc, ln]
    refine go ?_
    exact Ko rfl (FrO.closeP (v := s.v) s hd h0 rfl rfl rfl) ⟨rfl, rfl⟩
   ·refine Xo (a := ad b) (FrO.g_ hd h0) ?_
    rintro ⟨q, ep, wp⟩
    simp only [frGL, lc, ln]
    refine go ?_
    exact Ko rfl (FrO.closeG (v := s.v) s hd h0 rfl rfl rfl) ⟨rfl, rfl⟩
theorem frBackQ {b : Nat} {h : FrH} {x : Cn} {slot : Nat} {gen : Int} {s : FrS} {F1 : St} (ha : s.done = false → s.at_ ≤ 4) [t1 : Take L (ad b) (FrO h x slot gen s) F1] : FX 52 [zp b] L (fun v L' => v = ii (s.v.back : Nat) ∧ L = L') := by
 cases hd : s.done with
 | true =>
   refine (frBackD (b := b) (h := h) (x := x) (slot := slot) (gen := gen) (s := s) hd).mono ?_
   rintro v L' ⟨rfl, rfl⟩
   exact ⟨by first | rfl | rw [hd], rfl⟩
 | false =>
   have ha := ha hd
   refine Fx.kept (t := t1) ?_
   refine Fm Tryz.func52 k52 ?_
   dsimp only [c52, eL]
   refine Xe (Eo t1.out) ?_
   rcases (show s.at_ = 0 ∨ s.at_ = 1 ∨ s.at_ = 2 ∨ s.at_ = 3 ∨ s.at_ = 4 by omega) with h0 | h0 | h0 | h0 | h0
   ·refine Xo (a := ad b) (FrO.e_ hd h0) ?_
    intro q
    simp only [frEL, lc, ln]
    refine go ?_
    exact Ko rfl (FrO.closeE (v := s.v) s hd h0 rfl rfl rfl) ⟨rfl, rfl⟩
   ·refine Xo (a := ad b) (FrO.l_ hd h0) ?_
    rintro ⟨n1, n2, n3, ep⟩
    simp only [frLL, lc, ln]
    refine go ?_
    exact Ko rfl (FrO.closeL (v := s.v) s hd h0 rfl rfl) ⟨rfl, rfl⟩
   ·refine Xo (a := ad b) (FrO.w_ hd h0) ?_
    rintro ⟨q, ep⟩
    simp only [frWL, lc, ln]
    refine go ?_
    exact Ko rfl (FrO.closeW (v := s.v) s hd h0 rfl rfl rfl) ⟨rfl, rfl⟩
   ·refine Xo (a := ad b) (FrO.p_ hd h0) ?_
    rintro ⟨q, ep, wp⟩
    simp only [frPL, lc, ln]
    refine go ?_
    exact Ko rfl (FrO.closeP (v := s.v) s hd h0 rfl rfl rfl) ⟨rfl, rfl⟩
   ·refine Xo (a := ad b) (FrO.g_ hd h0) ?_
    rintro ⟨q, ep, wp⟩
    simp only [frGL, lc, ln]
    refine go ?_
    exact Ko rfl (FrO.closeG (v := s.v) s hd h0 rfl rfl rfl) ⟨rfl, rfl⟩
theorem frSlotQ {b : Nat} {h : FrH} {x : Cn} {slot : Nat} {gen : Int} {s : FrS} {F1 : St} (ha : s.done = false → s.at_ ≤ 4) [t1 : Take L (ad b) (FrO h x slot gen s) F1] : FX 60 [zp b] L (fun v L' => v = ii s.v.slot ∧ L = L') := by
 cases hd : s.done with
 | true =>
   refine (frSlotD (b := b) (h := h) (x := x) (slot := slot) (gen := gen) (s := s) hd).mono ?_
   rintro v L' ⟨rfl, rfl⟩
   exact ⟨by first | rfl | rw [hd], rfl⟩
 | false =>
   have ha := ha hd
   refine Fx.kept (t := t1) ?_
   refine Fm Tryz.func60 k60 ?_
   dsimp only [c60, eL]
   refine Xe (Eo t1.out) ?_
   rcases (show s.at_ = 0 ∨ s.at_ = 1 ∨ s.at_ = 2 ∨ s.at_ = 3 ∨ s.at_ = 4 by omega) with h0 | h0 | h0 | h0 | h0
   ·refine Xo (a := ad b) (FrO.e_ hd h0) ?_
    intro q
    simp only [frEL, lc, ln]
    refine go ?_
    exact Ko rfl (FrO.closeE (v := s.v) s hd h0 rfl rfl rfl) ⟨rfl, rfl⟩
   ·refine Xo (a := ad b) (FrO.l_ hd h0) ?_
    rintro ⟨n1, n2, n3, ep⟩
    simp only [frLL, lc, ln]
    refine go ?_
    exact Ko rfl (FrO.closeL (v := s.v) s hd h0 rfl rfl) ⟨rfl, rfl⟩
   ·refine Xo (a := ad b) (FrO.w_ hd h0) ?_
    rintro ⟨q, ep⟩
    simp only [frWL, lc, ln]
    refine go ?_
    exact Ko rfl (FrO.closeW (v := s.v) s hd h0 rfl rfl rfl) ⟨rfl, rfl⟩
   ·refine Xo (a := ad b) (FrO.p_ hd h0) ?_
    rintro ⟨q, ep, wp⟩
    simp only [frPL, lc, ln]
    refine go ?_
    exact Ko rfl (FrO.closeP (v := s.v) s hd h0 rfl rfl rfl) ⟨rfl, rfl⟩
   ·refine Xo (a := ad b) (FrO.g_ hd h0) ?_
    rintro ⟨q, ep, wp⟩
    simp only [frGL, lc, ln]
    refine go ?_
    exact Ko rfl (FrO.closeG (v := s.v) s hd h0 rfl rfl rfl) ⟨rfl, rfl⟩
theorem walkL_fin {k : Sk} {m : Mm} {out : List Int} {i : Int} (h : i < 0 ∨ k.n ≤ out.length) : walkL k m (k.n - out.length) i = [] := by
 rcases h with h | h
 ·cases hf : k.n - out.length with
  | zero => simp [walkL]
  | succ f => simp [walkL, show ¬ 0 ≤ i by omega]
 ·rw [show k.n - out.length = 0 by omega]; simp [walkL]
theorem walkL_le (k : Sk) (m : Mm) : ∀ (n : Nat) (i : Int), (walkL k m n i).length ≤ n
 | 0, _ => by simp [walkL]
 | n + 1, i => by
   unfold walkL
   split
   ·have := walkL_le k m n (k.below (m.at_ (k.links + i.toNat)))
    simp only [List.length_cons]; omega
   ·exact Nat.zero_le _
def chainL (x : Cn) (m : Mm) (first : Int) : List Int := walkL x.pool m x.c first
theorem chainL_len (x : Cn) (m : Mm) (first : Int) : (chainL x m first).length ≤ x.c := walkL_le _ _ _ _
set_option maxHeartbeats 1000000 in
theorem chainList {g mp sb : Nat} {x : Cn} {m : Mm} (first : Int) (h0 : 0 ≤ first) (h1 : first < x.c) (hx : x.ok) (hl : x.len ≤ m.ws.length) [t : Take L (ad mp) (MemO m) F] [s : Take F (ad g) (ChO mp sb x) G] :
  FX 129 [zp g, ii first] L (fun v L' => ∃ ro co, v = .slice ro (chainL x m first).length co ∧ L' = pt ro (Row 3 1 (chainL x m first).length co (ints (chainL x m first))) :: L) := by
 obtain ⟨b1, b2, b3, b4, b5, b6, b7⟩ := hx.b
 have hlen := hx.len_le
 have hsz : x.link + x.c ≤ x.len := by unfold Cn.link Cn.len; omega
 refine Fm Tryz.func129 k129 ?_
 dsimp only [c129, eL]
 refine Cx.pure (memKey (b := mp) (m := m)) fun hm => ?_
 refine Xe (Et (Eo t.out) (Ec (Eo s.out))) (go ?_)
 refine Sa rfl (chainIs (g := g) (mp := mp) (sb := sb) (x := x) first) ?_
 rintro v L' ⟨rfl, rfl⟩
 rw [dt (show 0 ≤ first ∧ first < x.c by omega)]
 refine go ?_
 refine Cx.lp (α := {p : (List Int × Int) × (OA × Nat) // p.1.1.length ≤ x.c ∧ -1 ≤ p.1.2 ∧ p.1.2 < x.c ∧ p.1.1 ++ walkL x.pool m (x.c - p.1.1.length) p.1.2 = chainL x m first})
  (fun p => [(0, zp g), (5, .slice p.1.2.1 p.1.1.1.length p.1.2.2), (6, ii p.1.1.2)])
  (fun p => pt p.1.2.1 (Row 3 1 p.1.1.1.length p.1.2.2 (ints p.1.1.1)) :: pt (ad mp) (MemO m) :: pt (ad g) (ChO mp sb x) :: G)
  (fun p => x.c - p.1.1.1.length) ⟨(([], first), (none, 0)), by simp, by dsimp only; omega, h1, by simp [chainL]⟩ sb3 (Ent.rownil 3 1) ?_
 rintro ⟨⟨⟨out, i⟩, ⟨r, c⟩⟩, hol, hi1, hi2, he⟩
 dsimp only at hol hi1 hi2 he ⊢
 have fin : (i < 0 ∨ x.c ≤ out.length) → out = chainL x m first := by
  intro h
  rw [← he]
  have := walkL_fin (k := x.pool) (m := m) h
  rw [show x.pool.n = x.c from rfl] at this
  rw [this, List.append_nil]
 refine go ?_
 refine Sx.ifp rfl (fun h => ?_) (fun h => ?_)
 ·refine go ?_
  refine Xi rfl (fun h2 => ?_) (fun h2 => ?_)
  ·obtain ⟨y, rfl⟩ : ∃ y : Nat, i = y := ⟨i.toNat, by omega⟩
   have hlx := Ml hm.1 (x.link + y)
   have hbl := x.pool.below_lt (m.at_ (x.link + y))
   have hbg := x.pool.below_ge (m.at_ (x.link + y))
   have hbe : behindN x.c (m.at_ (x.link + y)) = x.pool.below (m.at_ (x.link + y)) := rfl
   refine go ?_
   refine Sx.bs (sz := 1) rfl rfl fun g2 => ?_
   refine Sx.ap (ra := r) rfl rfl (Rd.row (b := g2) (E := 3) (cap := 1) rfl) rfl (by simp [maxLen]; omega) (by omega) fun ra ca hc => (go ?_)
   refine Cx.ordu rfl rfl kr_ kr_ (ge ?_)
   refine Eb kr_ rfl rfl (layLinkN hx y (by omega)) (ge ?_)
   refine Eb kr_ rfl rfl (cellsPeek (b := mp) (m := m) (x.link + y) (by omega)) (ge ?_)
   refine Eb kr_ rfl rfl (chainBehind (g := g) (mp := mp) (sb := sb) (x := x) (m.at_ (x.link + y)) hlx b2) ?_
   rw [hbe]
   refine ge ?_
   refine go ?_
   refine Kn ⟨((out ++ [(y : Int)], x.pool.below (m.at_ (x.link + y))), (ra, ca)), by simp; omega, hbg, hbl, ?_⟩ (sub.cons rfl (sub.cons (by simp; rfl) sb1)) ?_ (by simp; omega)
   ·dsimp only
    rw [← he, show x.c - out.length = (x.c - (out ++ [(y : Int)]).length) + 1 by simp; omega]
    simp only [walkL, if_pos h, List.append_assoc, lc, ln, tn]
    rfl
   ·simp only [List.length_append, List.length_singleton, ints_append]
    exact ent
  ·refine go ?_
   have hf := fin (.inr (by omega))
   subst hf
   exact Ko rfl (Ec (Et (Ec (Eo s.back)) (Eo t.back))) ⟨r, c, rfl, rfl⟩
 ·refine go ?_
  have hf := fin (.inl (by omega))
  subst hf
  exact Ko rfl (Ec (Et (Ec (Eo s.back)) (Eo t.back))) ⟨r, c, rfl, rfl⟩
def handF (x : Cn) (m : Mm) (f : FrS) : List Int := if f.at_ = 1 ∨ f.at_ = 2 then chainL x m f.v.chunk else if f.at_ = 4 then handG f.g else []
theorem handF_len {x : Cn} {m : Mm} {f : FrS} (hx : x.c ≤ 4096) (hl : f.at_ = 4 → f.g.done = false → f.g.l.length ≤ 1000000) : (handF x m f).length ≤ 1000000000 := by
 unfold handF
 split
 ·have := chainL_len x m f.v.chunk; omega
 ·split
  ·rename_i h4
   cases hd : f.g.done with
   | true => rw [handG_done hd]; exact Nat.zero_le _
   | false => rw [handG_on hd]; have := hl h4 hd; omega
  ·exact Nat.zero_le _
set_option maxHeartbeats 1000000 in
theorem frHandQ {b : Nat} {h : FrH} {x : Cn} {slot : Nat} {gen : Int} {s : FrS} {m : Mm} {pb2 : Nat} {F1 F2 F3 F4 : St} (hx : x.ok) (hml : x.len ≤ m.ws.length) (ha : s.at_ ≤ 4) (hd4 : s.done = true → s.at_ = 0 ∨ s.at_ = 4) (h1 : s.at_ = 1 ∨ s.at_ = 2 → 0 ≤ s.v.chunk ∧ s.v.chunk < x.c) (h03 : s.at_ = 0 ∨ s.at_ = 3 → s.v.chunk = -1) (hl : s.at_ = 4 → s.g.done = false → s.g.l.length ≤ 1000000)
  [t1 : Take L (ad b) (FrO h x slot gen s) F1] [t2 : Take F1 (ad h.eo) (EnO h.mp h.ro h.ch) F2] [t3 : Take F2 (ad h.ch) (ChO h.mp pb2 x) F3] [t4 : Take F3 (ad h.mp) (MemO m) F4] : FX 63 [zp b] L
  (fun v L' => ∃ a c, v = .slice a (handF x m s).length c ∧ L' = pt a (Row 3 1 (handF x m s).length c (ints (handF x m s))) :: pt (ad b) (FrO h x slot gen s) :: F1) := by
 have hback : Ent (pt (ad h.eo) (EnO h.mp h.ro h.ch) :: pt (ad h.ch) (ChO h.mp pb2 x) :: pt (ad h.mp) (MemO m) :: F4) F1 := Et (Ec (Et (Ec (Eo t4.back)) (Eo t3.back))) (Eo t2.back)
 refine Fm Tryz.func63 k63 ?_
 dsimp only [c63, eL]
 refine Xe (Et (Eo t1.out) (Ec (Et (Eo t2.out) (Ec (Et (Eo t3.out) (Ec (Eo t4.out))))))) ?_
 cases hd : s.done with
 | true =>
   rcases hd4 hd with h0 | h0
   ·have eh : handF x m s = [] := by unfold handF; rw [if_neg (by omega), if_neg (by omega)]
    have hch := h03 (.inl h0)
    rw [eh]
    refine Xo (a := ad b) (FrO.s_ hd (by omega)) ?_
    rintro ⟨n1, n2, n3, ep⟩
    simp only [frSL, lc, ln]
    refine go ?_
    rw [hch]
    refine go ?_
    refine Ko rfl ?_ ⟨none, 0, rfl, rfl⟩
    refine Et (FrO.closeS (x := x) (gen := gen) (v := s.v) s hd (by omega) rfl rfl) ?_
    exact Et (Ec hback) (Ent.rownil _ _)
   ·have eh : handF x m s = handG s.g := by unfold handF; rw [if_neg (by omega), if_pos h0]
    rw [eh]
    refine Xo (a := ad b) (FrO.d_ hd h0) ?_
    rintro ⟨q, ⟨n1, n2, n3⟩, ep, wp⟩
    simp only [frDL, lc, ln]
    refine go ?_
    refine Sa rfl (giveHandQ (b := q) (pb := h.pb) (k := x.pool) (p := s.g) (hl h0)) ?_
    rintro v L' ⟨a, c, rfl, rfl⟩
    refine go ?_
    refine Ko rfl (Ec ?_) ⟨a, c, rfl, rfl⟩
    refine Et (Ek (a := ad b)) ?_
    exact Et (FrO.closeD (x := x) (gen := gen) (v := s.v) s hd h0 rfl rfl rfl) (Ec hback)
 | false =>
   rcases (show s.at_ = 0 ∨ s.at_ = 1 ∨ s.at_ = 2 ∨ s.at_ = 3 ∨ s.at_ = 4 by omega) with h0 | h0 | h0 | h0 | h0
   ·have eh : handF x m s = [] := by unfold handF; rw [if_neg (by omega), if_neg (by omega)]
    have hch := h03 (.inl h0)
    rw [eh]
    refine Xo (a := ad b) (FrO.e_ hd h0) ?_
    intro q
    simp only [frEL, lc, ln]
    refine go ?_
    rw [hch]
    refine go ?_
    refine Ko rfl ?_ ⟨none, 0, rfl, rfl⟩
    refine Et (FrO.closeE (x := x) (gen := gen) (v := s.v) s hd h0 rfl rfl rfl) ?_
    exact Et (Ec hback) (Ent.rownil _ _)
   ·have eh : handF x m s = chainL x m s.v.chunk := by unfold handF; rw [if_pos (.inl h0)]
    obtain ⟨c1, c2⟩ := h1 (.inl h0)
    rw [eh]
    refine Xo (a := ad b) (FrO.l_ hd h0) ?_
    rintro ⟨n1, n2, n3, ep⟩
    simp only [frLL, lc, ln]
    refine go ?_
    refine Xy rfl (dt c1) (go ?_)
    refine Xd rfl kr_ (ge ?_)
    refine Ea kr_ rfl rfl (chainList (g := h.ch) (mp := h.mp) (sb := pb2) (x := x) (m := m) s.v.chunk c1 c2 hx hml) (Pd kr_) ?_
    rintro v L' ⟨a, c, rfl, rfl⟩
    refine ge ?_
    refine go ?_
    refine Ko rfl (Ec ?_) ⟨a, c, rfl, rfl⟩
    exact Et (FrO.closeL (x := x) (gen := gen) (v := s.v) s hd h0 rfl rfl) (Ec hback)
   ·have eh : handF x m s = chainL x m s.v.chunk := by unfold handF; rw [if_pos (.inr h0)]
    obtain ⟨c1, c2⟩ := h1 (.inr h0)
    rw [eh]
    refine Xo (a := ad b) (FrO.w_ hd h0) ?_
    rintro ⟨q, ep⟩
    simp only [frWL, lc, ln]
    refine go ?_
    refine Xy rfl (dt c1) (go ?_)
    refine Xd rfl kr_ (ge ?_)
    refine Ea kr_ rfl rfl (chainList (g := h.ch) (mp := h.mp) (sb := pb2) (x := x) (m := m) s.v.chunk c1 c2 hx hml) (Pd kr_) ?_
    rintro v L' ⟨a, c, rfl, rfl⟩
    refine ge ?_
    refine go ?_
    refine Ko rfl (Ec ?_) ⟨a, c, rfl, rfl⟩
    exact Et (FrO.closeW (x := x) (gen := gen) (v := s.v) s hd h0 rfl rfl rfl) (Ec hback)
   ·have eh : handF x m s = [] := by unfold handF; rw [if_neg (by omega), if_neg (by omega)]
    have hch := h03 (.inr h0)
    rw [eh]
    refine Xo (a := ad b) (FrO.p_ hd h0) ?_
    rintro ⟨q, ep, wp⟩
    simp only [frPL, lc, ln]
    refine go ?_
    rw [hch]
    refine go ?_
    refine Ko rfl ?_ ⟨none, 0, rfl, rfl⟩
    refine Et (FrO.closeP (x := x) (gen := gen) (v := s.v) s hd h0 rfl rfl rfl) ?_
    exact Et (Ec hback) (Ent.rownil _ _)
   ·have eh : handF x m s = handG s.g := by unfold handF; rw [if_neg (by omega), if_pos h0]
    rw [eh]
    refine Xo (a := ad b) (FrO.g_ hd h0) ?_
    rintro ⟨q, ep, wp⟩
    simp only [frGL, lc, ln]
    refine go ?_
    refine Sa rfl (giveHandQ (b := q) (pb := h.pb) (k := x.pool) (p := s.g) (hl h0)) ?_
    rintro v L' ⟨a, c, rfl, rfl⟩
    refine go ?_
    refine Ko rfl (Ec ?_) ⟨a, c, rfl, rfl⟩
    refine Et (Ek (a := ad b)) ?_
    exact Et (FrO.closeG (x := x) (gen := gen) (v := s.v) s hd h0 rfl rfl rfl) (Ec hback)
end
end
end Go.Proofs.YtflalhdofhobmaaGreat
