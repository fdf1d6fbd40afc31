/-
  Parts of the proof, merged: what the statement leans on.
-/
import Derived.Test.YtflalhdofhobmaaGreatZHhC
set_option linter.unusedVariables false
set_option linter.unusedSimpArgs false

namespace Go.Proofs.YtflalhdofhobmaaGreat
open Go
attribute [local irreducible] Sx Cx Rx Fx Krg Ksq Kbl Klp Kr
theorem ints_last {l : List Int} (h : l ≠ []) : (ints l)[l.length - 1]? = some (.int .i64 (lastI l)) := by
 unfold ints lastI
 rw [List.getElem?_map, List.getLastD_eq_getLast?, ← List.getLast?_eq_getElem?, List.getLast?_eq_some_getLast h]
 rfl
section
variable {L F G : St}
def rpopL (T : TypeId) (sb : Nat) (q : PopS) (a : Option Addr) (y : Option Addr × Nat) : St :=
 [pt a (Blk T [.pointer (some ⟨sb, 0, none⟩), .int .i64 q.most, .int .i64 (q.at_ : Nat), .int .i64 q.under, wd q.was, .slice y.1 q.got.length y.2, .bool q.done]), pt y.1 (Row 3 1 q.got.length y.2 (ints q.got))]
def RPopT (T : TypeId) (sb : Nat) (q : PopS) (a : Option Addr) : As := exs (rpopL T sb q a)
abbrev RPopO := RPopT 235
theorem RPopO.close {T : TypeId} {sb : Nat} {a r : Option Addr} {c n : Nat} {v0 v1 v2 v3 v4 v6 : Value} {w : List Value} {F G : St} (q : PopS) [t : Take L a (Blk T [v0, v1, v2, v3, v4, .slice r n c, v6]) F] [u : Take F r (Row 3 1 n c w) G]
  (h0 : v0 = .pointer (some ⟨sb, 0, none⟩)) (h1 : v1 = .int .i64 q.most) (h2 : v2 = .int .i64 (q.at_ : Nat)) (h3 : v3 = .int .i64 q.under) (h4 : v4 = wd q.was) (h5 : n = q.got.length) (h6 : v6 = .bool q.done) (hw : w = ints q.got) : Ent L (pt a (RPopT T sb q) :: G) := by
 subst h0 h1 h2 h3 h4 h5 h6 hw
 refine Ent.trans (Ent.take1 (t := t) (Ent.of u.out)) ?_
 exact Ent.close (f := rpopL T sb q a) rfl (r, c)
theorem refPopNew {sb rm : Nat} {k : Sk} (most : Int) [t : Take L (some ⟨sb, 0, none⟩) (RSkO rm k) F] :
  Fx Tryz.prog 166 [.pointer (some ⟨sb, 0, none⟩), .int .i64 most] L (fun v L' => ∃ b, v = .pointer (some ⟨b, 0, none⟩) ∧ L' = pt (some ⟨b, 0, none⟩) (RPopO sb (PopS.init most)) :: L) := by
 refine Fx.mk Tryz.func166 k166 nb_ ?_
 dsimp only [c166, kG, kS, kH, kM, kN, kF, kL, envOf, Nat.reduceAdd]
 refine go ?_
 refine Sx.bx rfl rfl fun b => ?_
 refine go ?_
 refine Kr.one (.inr rfl) rfl ?_ ⟨b, rfl, rfl⟩
 refine Ent.trans (Ent.rownil 3 1) ?_
 refine RPopO.close (a := some ⟨b, 0, none⟩) (r := none) (PopS.init most) rfl (congrArg (Value.int .i64) ?_) rfl rfl rfl rfl rfl rfl
 simp only [PopS.init, cond_true, cond_false]
 (repeat' split) <;> omega
set_option maxHeartbeats 1000000 in
theorem refPopStep {b sb rm : Nat} {k : Sk} {m : Mm} {q : PopS} {F1 F2 : St} (hk : k.ok m.ws.length) (hq : q.ok k) [t1 : Take L (some ⟨b, 0, none⟩) (RPopO sb q) F1] [t2 : Take F1 (some ⟨rm, 0, none⟩) (RMemO m) F2] [t3 : Take F2 (some ⟨sb, 0, none⟩) (RSkO rm k) G] :
  Fx Tryz.prog 167 [.pointer (some ⟨b, 0, none⟩)] L (fun v L' => v = .bool (!q.done) ∧ L' = pt (some ⟨b, 0, none⟩) (RPopO sb (popStep k m q).1) :: pt (some ⟨rm, 0, none⟩) (RMemO (popStep k m q).2) :: F2) := by
 obtain ⟨k1, k2, k3, k4, k5, k6⟩ := hk
 refine Fx.mk Tryz.func167 k167 nb_ ?_
 dsimp only [c167, kG, kS, kH, kM, kN, kF, kL, envOf, Nat.reduceAdd]
 refine Cx.ent (Ent.trans (Ent.of t1.out) (Ent.cons (Ent.trans (Ent.of t2.out) (Ent.cons (Ent.of t3.out))))) ?_
 refine Cx.pure (rmemKey (rm := rm) (m := m)) fun hm => ?_
 refine Cx.openp (a := some ⟨b, 0, none⟩) rfl ?_
 rintro ⟨r, c⟩
 simp only [rpopL, List.cons_append, List.nil_append]
 cases hd : q.done with
 | true =>
   have e1 : popStep k m q = (q, m) := by unfold popStep; rw [hd]; rfl
   rw [e1]
   refine go ?_
   refine Kr.one (.inr rfl) rfl (Ent.trans (RPopO.close (sb := sb) (a := some ⟨b, 0, none⟩) (r := r) q rfl rfl rfl rfl rfl rfl (by rw [hd]) rfl) (Ent.cons (Ent.cons (Ent.of t3.back)))) ⟨rfl, rfl⟩
 | false =>
   have ha := hq.a
   rcases (show q.at_ = 0 ∨ q.at_ = 1 ∨ q.at_ = 2 by omega) with h0 | h0 | h0
   ·have hwl := Mm.at_lt hm.1 k.head
    rw [h0]
    refine go ?_
    refine Cx.ordc rfl kr_ ?_
    refine ge ?_
    refine Ev.caH kr_ rfl rfl (refLoad (rm := rm) (m := m) k.head k3) (Pres.deps kr_) ?_
    rintro v L' ⟨rfl, rfl⟩
    refine ge ?_
    refine Ev.stbH (b := b) kr_ rfl rfl rfl rfl rfl (by rfl) rfl (Pres.deps kr_) ?_
    refine ge ?_
    refine go ?_
    refine Sx.ca rfl (refTop (sb := sb) (rm := rm) (k := k) (m.at_ k.head) hwl) ?_
    rintro v L' ⟨rfl, rfl⟩
    refine go ?_
    refine Cx.ifp rfl (fun h => ?_) (fun h => ?_)
    ·have e1 : popStep k m q = ({ q with was := m.at_ k.head, got := [], done := true }, m.tick) := by unfold popStep; rw [hd, h0]; simp only [Bool.false_eq_true, if_false]; rw [if_neg (by omega)]
     rw [e1]
     refine go ?_
     refine Kr.one (.inr rfl) rfl ?_ ⟨rfl, rfl⟩
     refine Ent.trans (Ent.rownil 3 1) ?_
     refine Ent.trans (RPopO.close (sb := sb) (a := some ⟨b, 0, none⟩) (r := none) { q with was := m.at_ k.head, got := [], done := true } rfl rfl (by rw [h0]) rfl rfl rfl rfl rfl) ?_
     refine Ent.cons ?_
     refine Ent.trans ?_ (Ent.cons (Ent.of t3.back))
     exact ent
    ·have e1 : popStep k m q = ({ q with was := m.at_ k.head, got := [k.top (m.at_ k.head)], at_ := 1 }, m.tick) := by unfold popStep; rw [hd, h0]; simp only [Bool.false_eq_true, if_false]; rw [if_pos (by omega)]
     rw [e1]
     refine go ?_
     refine Sx.bs (sz := 1) rfl rfl fun g => ?_
     refine go ?_
     refine Sx.apn rfl rfl (Rd.row (b := g) (E := 3) (cap := 1) rfl) rfl (by simp [maxLen]) (by omega) fun r' c' hc => ?_
     refine go ?_
     refine Kr.one (.inr rfl) rfl ?_ ⟨rfl, rfl⟩
     refine Ent.trans (RPopO.close (sb := sb) (a := some ⟨b, 0, none⟩) (r := r') { q with was := m.at_ k.head, got := [k.top (m.at_ k.head)], at_ := 1 } rfl rfl rfl rfl rfl rfl (by rw [hd]) rfl) ?_
     refine Ent.cons ?_
     refine Ent.trans ?_ (Ent.cons (Ent.of t3.back))
     exact ent
   ·have hne := hq.ne hd (by omega)
    have hlp := List.length_pos_iff.2 hne
    have hlen8 := hq.len
    have hlast := hq.g _ (lastI_mem hne)
    have hm8 := hq.m2
    have hwl := Mm.at_lt hm.1 (k.links + (lastI q.got).toNat)
    obtain ⟨bl, hbl⟩ : ∃ bl, k.below (m.at_ (k.links + (lastI q.got).toNat)) = bl := ⟨_, rfl⟩
    have hbl1 : -1 ≤ bl := hbl ▸ k.below_ge _
    have hbl2 : bl < k.n := hbl ▸ k.below_lt _
    refine Cx.rowkey (a := r) fun hx0 hn0 hc0 hk1 => ?_
    obtain ⟨rg, rfl⟩ := row_some hlp (hk1.imp (fun h => ⟨h.1, h.2.1, h.2.2⟩) id)
    rw [h0]
    refine go ?_
    refine Cx.ordc rfl kr_ ?_
    refine ge ?_
    rw [w64 (n := (q.got.length : Int) - 1) (by omega) (by omega)]
    refine ge ?_
    refine Ev.ldrH (b := rg) (v := .int .i64 (lastI q.got)) kr_ rfl rfl (by rw [show 0 + ((q.got.length : Int) - 1).toNat * 1 = q.got.length - 1 by omega]; exact ints_last hne) ?_
    refine ge ?_
    rw [w64 (n := (k.links : Int) + lastI q.got) (by omega) (by omega), show (k.links : Int) + lastI q.got = ((k.links + (lastI q.got).toNat : Nat) : Int) by omega]
    refine Ev.caH kr_ rfl rfl (refLoad (rm := rm) (m := m) (k.links + (lastI q.got).toNat) (by omega)) (Pres.deps kr_) ?_
    rintro v L' ⟨rfl, rfl⟩
    refine ge ?_
    refine Ev.cakH kr_ rfl rfl (refBelow (sb := sb) (rm := rm) (k := k) _ hwl k2) ?_
    rw [hbl]
    refine ge ?_
    refine Ev.stbH (b := b) kr_ rfl rfl rfl rfl rfl (by rfl) rfl (Pres.deps kr_) ?_
    refine ge ?_
    refine Cx.sq ?_
    refine Cx.ordc rfl kr_ ?_
    refine ge ?_
    by_cases hb0 : 0 ≤ bl
    ·refine Ev.yes 120 rfl (decide_eq_true hb0) ?_
     refine ge ?_
     refine Cx.ifp rfl (fun h => ?_) (fun h => ?_)
     ·have e1 : popStep k m q = ({ q with under := bl, got := q.got ++ [bl] }, m.tick) := by unfold popStep; rw [hd, h0]; simp only [Bool.false_eq_true, if_false, hbl]; rw [if_pos ⟨hb0, h⟩]
      rw [e1]
      refine go ?_
      refine Cx.orde rfl kr_ ?_
      refine ge ?_
      refine Ev.bsH (sz := 1) kr_ rfl rfl rfl (.dep rfl (.keep (fun v L' ⟨_, _, e⟩ => by subst e; exact Has.cell rfl) .nil)) fun g => ?_
      refine ge ?_
      refine Ev.apH (ra := some ⟨rg, 0, none⟩) kr_ rfl rfl rfl (Rd.row (b := g) (E := 3) (cap := 1) rfl) rfl (by simp [maxLen]; omega) (by omega) (Pres.deps kr_) fun r' c' hc hk2 => ?_
      refine ge ?_
      refine Ev.stbH (b := b) kr_ rfl rfl rfl rfl rfl (by rfl) rfl (Pres.deps kr_) ?_
      refine ge ?_
      refine go ?_
      refine Kr.one (.inr rfl) rfl ?_ ⟨rfl, rfl⟩
      refine Ent.trans (RPopO.close (sb := sb) (a := some ⟨b, 0, none⟩) (r := r') { q with under := bl, got := q.got ++ [bl] } rfl rfl (by rw [h0]) rfl rfl (by simp) (by rw [hd]) (by simp [ints, lay])) ?_
      refine Ent.cons ?_
      refine Ent.trans ?_ (Ent.cons (Ent.of t3.back))
      exact ent
     ·have e1 : popStep k m q = ({ q with under := bl, at_ := 2 }, m.tick) := by unfold popStep; rw [hd, h0]; simp only [Bool.false_eq_true, if_false, hbl]; rw [if_neg (fun hh => h hh.2)]
      rw [e1]
      refine go ?_
      refine Kr.one (.inr rfl) rfl ?_ ⟨rfl, rfl⟩
      refine Ent.trans (RPopO.close (sb := sb) (a := some ⟨b, 0, none⟩) (r := some ⟨rg, 0, none⟩) { q with under := bl, at_ := 2 } rfl rfl rfl rfl rfl rfl (by rw [hd]) rfl) ?_
      refine Ent.cons ?_
      refine Ent.trans ?_ (Ent.cons (Ent.of t3.back))
      exact ent
    ·refine Ev.no 120 rfl (decide_eq_false hb0) ?_
     have e1 : popStep k m q = ({ q with under := bl, at_ := 2 }, m.tick) := by unfold popStep; rw [hd, h0]; simp only [Bool.false_eq_true, if_false, hbl]; rw [if_neg (fun hh => hb0 hh.1)]
     rw [e1]
     refine ge ?_
     refine go ?_
     refine Kr.one (.inr rfl) rfl ?_ ⟨rfl, rfl⟩
     refine Ent.trans (RPopO.close (sb := sb) (a := some ⟨b, 0, none⟩) (r := some ⟨rg, 0, none⟩) { q with under := bl, at_ := 2 } rfl rfl rfl rfl rfl rfl (by rw [hd]) rfl) ?_
     refine Ent.cons ?_
     refine Ent.trans ?_ (Ent.cons (Ent.of t3.back))
     exact ent
   ·have hu1 := hq.u1
    have hu2 := hq.u2
    have hw := hq.w
    have hnw := nextW_lt (i := q.under) hw (by omega)
    have e1 : popStep k m q = ({ q with at_ := 0, done := decide (m.at_ k.head = q.was) }, m.cas k.head q.was (nextW q.was q.under)) := by unfold popStep; rw [hd, h0]; rfl
    rw [e1, h0]
    refine go ?_
    refine Cx.ordc rfl kr_ ?_
    refine ge ?_
    refine Ev.cakH kr_ rfl rfl (refNextW q.was q.under hw hu1 (by omega)) ?_
    refine ge ?_
    refine Ev.caH kr_ rfl rfl (refCas (rm := rm) (m := m) k.head q.was (nextW q.was q.under) k3 hw hnw) (Pres.deps kr_) ?_
    rintro v L' ⟨rfl, rfl⟩
    refine ge ?_
    refine Ev.stbH (b := b) kr_ rfl rfl rfl rfl rfl (by rfl) rfl (Pres.deps kr_) ?_
    refine ge ?_
    refine go ?_
    refine Kr.one (.inr rfl) rfl ?_ ⟨rfl, rfl⟩
    refine Ent.trans (RPopO.close (sb := sb) (a := some ⟨b, 0, none⟩) (r := r) { q with at_ := 0, done := decide (m.at_ k.head = q.was) } rfl rfl rfl rfl rfl rfl rfl rfl) ?_
    refine Ent.cons ?_
    refine Ent.trans ?_ (Ent.cons (Ent.of t3.back))
    exact ent
theorem refPopGot {b sb rm : Nat} {k : Sk} {q : PopS} {F1 : St} (hd : q.done = true) (hb : q.got.length ≤ 8) [t1 : Take L (some ⟨b, 0, none⟩) (RPopO sb q) F1] :
  Fx Tryz.prog 168 [.pointer (some ⟨b, 0, none⟩)] L (fun v L' => ∃ r c, v = .slice r q.got.length c ∧ L' = pt r (Row 3 1 q.got.length c (ints q.got)) :: pt (some ⟨b, 0, none⟩) (RPopO sb q) :: F1) := by
 refine Fx.mk Tryz.func168 k168 nb_ ?_
 dsimp only [c168, kG, kS, kH, kM, kN, kF, kL, envOf, Nat.reduceAdd]
 refine Cx.openp (t := t1) rfl ?_
 rintro ⟨r, c⟩
 simp only [rpopL, List.cons_append, List.nil_append]
 rw [hd]
 refine Cx.rowkey (a := r) fun hx0 hn0 hc0 hk1 => ?_
 refine go ?_
 refine Sx.apn rfl rfl (Rd.any (a := r) hx0 (hk1.imp (fun h => h.2.1) id)) (ones_ints _) (by simp [maxLen]; omega) (by omega) fun r' c' hc => ?_
 refine go ?_
 refine Kr.one (.inr rfl) rfl (Ent.cons ?_) ⟨r', c', rfl, rfl⟩
 exact RPopO.close (sb := sb) (a := some ⟨b, 0, none⟩) (r := r) q rfl rfl rfl rfl rfl rfl (by rw [hd]) rfl
end
end Go.Proofs.YtflalhdofhobmaaGreat


namespace Go.Proofs.YtflalhdofhobmaaGreat
open Go
attribute [local irreducible] Sx Cx Rx Fx Krg Ksq Kbl Klp Kr
section
variable {L F : St}
theorem anyOpen_least {now : Int} {m : Lm} (h : 2 ≤ now) : decide (0 ≤ leastI (leastUp now m 3)) = anyOpen now m := by
 refine decide_eq_decide.2 ?_
 cases hl : leastUp now m 3 with
 | none =>
   have hn := leastUp_none hl
   simp [leastI, hn 0 (by omega), hn 1 (by omega), hn 2 (by omega)]
 | some j =>
   have hj := leastUp_lt hl
   have h1 := hj.1
   simp only [leastI]
   refine ⟨fun _ => ⟨h, ?_⟩, fun _ => by omega⟩
   rcases (show j = 0 ∨ j = 1 ∨ j = 2 by omega) with rfl | rfl | rfl
   ·exact .inl hj.2
   ·exact .inr (.inl hj.2)
   ·exact .inr (.inr hj.2)
theorem refOpen {b : Nat} {m : Lm} {now : Int} {F : St} [t : Take L (some ⟨b, 0, none⟩) (RLimboO m) F] (h3 : now ≤ 9223372036854775807) :
  Fx Tryz.prog 253 [.pointer (some ⟨b, 0, none⟩), .int .i64 now] L (fun v L' => v = .bool (anyOpen now m) ∧ L = L') := by
 refine Fx.mk Tryz.func253 k253 nb_ ?_
 dsimp only [c253, kG, kS, kH, kM, kN, kF, kL, envOf, Nat.reduceAdd]
 refine go ?_
 refine Sx.ifp rfl (fun h => ?_) (fun h => ?_)
 ·refine go ?_
  refine Sx.ca rfl (refLeast (b := b) (m := m) (F := F) h h3) ?_
  rintro v L' ⟨rfl, rfl⟩
  refine go ?_
  exact Kr.one (.inr rfl) rfl (Ent.refl _) ⟨congrArg Value.bool (anyOpen_least h), rfl⟩
 ·have h' : ¬ 2 ≤ now := h
  refine go ?_
  exact Kr.one (.inr rfl) rfl (Ent.refl _) ⟨by simp [anyOpen, h'], rfl⟩
theorem refLimboLen {b : Nat} {m : Lm} {F : St} [t : Take L (some ⟨b, 0, none⟩) (RLimboO m) F] (hb : m.size ≤ 1000000000) :
  Fx Tryz.prog 229 [.pointer (some ⟨b, 0, none⟩)] L (fun v L' => v = .int .i64 m.size ∧ L = L') := by
 have hs : m.size = m.x0.length + m.x1.length + m.x2.length := rfl
 refine Fx.kept (t := t) ?_
 refine Fx.mk Tryz.func229 k229 nb_ ?_
 dsimp only [c229, kG, kS, kH, kM, kN, kF, kL, envOf, Nat.reduceAdd]
 refine Cx.openp (t := t) rfl ?_
 rintro ⟨⟨⟨r0, c0⟩, ⟨r1, c1⟩, ⟨r2, c2⟩⟩, ⟨u0, u1, u2, l⟩⟩
 simp only [refL, List.cons_append, List.nil_append]
 refine Cx.liftp fun hT => ?_
 refine go ?_
 refine Cx.ordc rfl kr_ ?_
 refine ge ?_
 rw [w64 (n := (m.x0.length : Int) + m.x1.length) (by omega) (by omega), w64 (n := (m.x0.length : Int) + m.x1.length + m.x2.length) (by omega) (by omega)]
 refine go ?_
 refine Kr.one (.inr rfl) rfl (RLimboO.close (a := some ⟨b, 0, none⟩) (r0 := r0) (r1 := r1) (r2 := r2) m hT rfl rfl rfl rfl rfl rfl rfl rfl rfl rfl) ⟨?_, rfl⟩
 refine congrArg (Value.int .i64) ?_
 omega
theorem RTag.put0 {m : Lm} {u0 u1 u2 l : Int} (h : RTag m u0 u1 u2 l) : RTag (m.put 0 0 []) u0 u1 u2 l := ⟨fun x => absurd rfl x, h.h1, h.h2, h.hl⟩
theorem RTag.put1 {m : Lm} {u0 u1 u2 l : Int} (h : RTag m u0 u1 u2 l) : RTag (m.put 1 0 []) u0 u1 u2 l := ⟨h.h0, fun x => absurd rfl x, h.h2, h.hl⟩
theorem RTag.put2 {m : Lm} {u0 u1 u2 l : Int} (h : RTag m u0 u1 u2 l) : RTag (m.put 2 0 []) u0 u1 u2 l := ⟨h.h0, h.h1, fun x => absurd rfl x, h.hl⟩
set_option maxHeartbeats 4000000 in
theorem refReady {b : Nat} {m : Lm} {now : Int} {F : St} [t : Take L (some ⟨b, 0, none⟩) (RLimboO m) F] (hb : m.size ≤ 100000000) (hnow : now ≤ 9223372036854775807) :
  Fx Tryz.prog 230 [.pointer (some ⟨b, 0, none⟩), .int .i64 now] L (fun v L' => ∃ ro co, v = .slice ro (readyAll now m).1.length co ∧
   L' = pt ro (Row 3 1 (readyAll now m).1.length co (ints (readyAll now m).1)) :: pt (some ⟨b, 0, none⟩) (RLimboO (readyAll now m).2) :: F) := by
 refine Fx.mk Tryz.func230 k230 nb_ ?_
 dsimp only [c230, kG, kS, kH, kM, kN, kF, kL, envOf, Nat.reduceAdd]
 refine Cx.ent (Ent.trans (Ent.of t.out) (Ent.rownil 3 1)) ?_
 refine go ?_
 refine Cx.lp (α := {p : (List Int × Lm) × (Option Addr × Nat) // p.1.1.length + p.1.2.size = m.size ∧ p.1.1 ++ (readyAll now p.1.2).1 = (readyAll now m).1 ∧ (readyAll now p.1.2).2 = (readyAll now m).2})
  (fun p => [(0, .pointer (some ⟨b, 0, none⟩)), (1, .int .i64 now), (5, .slice p.1.2.1 p.1.1.1.length p.1.2.2)])
  (fun p => pt p.1.2.1 (Row 3 1 p.1.1.1.length p.1.2.2 (ints p.1.1.1)) :: pt (some ⟨b, 0, none⟩) (RLimboO p.1.1.2) :: F) (fun p => p.1.1.2.cnt) ⟨(([], m), (none, 0)), by simp, by simp, rfl⟩ (sub.cons rfl (sub.cons rfl (sub.cons rfl sub.nil))) (Ent.refl _) ?_
 rintro ⟨⟨⟨out, m'⟩, ⟨ro, co⟩⟩, hsz, he1, he2⟩
 dsimp only at hsz he1 he2 ⊢
 refine go ?_
 refine Sx.ca rfl (refOpen (b := b) (m := m') hnow) ?_
 rintro v L' ⟨rfl, rfl⟩
 refine go ?_
 have hall : ∀ o, 2 ≤ now → leastUp now m' 3 = o → readyAll now m' = match o with
    | none => ([], m')
    | some j => (m'.items j ++ (readyAll now (m'.put j 0 [])).1, (readyAll now (m'.put j 0 [])).2) := by
   intro o h2 ho
   unfold readyAll
   simp only [if_pos h2]
   cases o with
   | none =>
     cases hc : m'.cnt with
     | zero => rfl
     | succ c => simp [readyM, ho]
   | some j =>
     rw [cnt_put (leastUp_lt ho).1 (open_ne (leastUp_lt ho).2)]
     simp [readyM, ho]
 refine Cx.cd rfl (fun hop => ?_) (fun hop => ?_)
 ·have h2 : 2 ≤ now := (of_decide_eq_true hop).1
  rw [← anyOpen_least h2] at hop
  have hl := of_decide_eq_true hop
  refine go ?_
  refine Sx.ca rfl (refLeast (b := b) (m := m') h2 hnow) ?_
  rintro v L' ⟨rfl, rfl⟩
  rcases hlu : leastUp now m' 3 with _ | j
  ·rw [hlu] at hl; exact absurd hl (by decide)
  have hra := hall _ h2 hlu
  have hj := (leastUp_lt hlu).1
  have hne := open_ne (leastUp_lt hlu).2
  have hsp := size_put (m := m') hj
  have hcp := cnt_put hj hne
  have hm1 : out.length + (m'.x0.length + m'.x1.length + m'.x2.length) = m.size := hsz
  dsimp only at hra
  rw [hra, ← List.append_assoc] at he1
  rw [hra] at he2
  simp only [leastI]
  refine Sx.openp (a := some ⟨b, 0, none⟩) rfl ?_
  rintro ⟨⟨⟨r0, c0⟩, ⟨r1, c1⟩, ⟨r2, c2⟩⟩, ⟨u0, u1, u2, l⟩⟩
  simp only [refL, List.cons_append, List.nil_append]
  refine Sx.liftp fun hT => ?_
  rcases (show j = 0 ∨ j = 1 ∨ j = 2 by omega) with rfl | rfl | rfl
  ·refine gg ?_
   refine Sx.rowkey (a := r0) fun hxj hnj _ hkj => ?_
   refine Sx.ap (ra := ro) rfl rfl (Rd.any (a := r0) hxj (hkj.imp (fun h => h.2.1) id)) (ones_ints _) (by simp [maxLen]; omega) (by omega) fun ra ca hc => ?_
   refine gg ?_
   refine Klp.nm ⟨((out ++ m'.items 0, m'.put 0 0 []), (ra, ca)), by dsimp only; rw [List.length_append]; omega, he1, he2⟩ (sub.cons rfl (sub.cons rfl (sub.cons ?_ sub.nil))) ?_ (by dsimp only; omega)
   ·show _ = some (Value.slice ra (out ++ m'.items 0).length ca)
    rw [show (out ++ m'.items 0).length = out.length + m'.x0.length by simp [Lm.items]]
    rfl
   ·dsimp only
    rw [ints_append, List.length_append]
    refine Ent.take1 (t := inferInstance) ?_
    refine Ent.trans (Ent.rownil 3 1) ?_
    refine Ent.trans (RLimboO.close (a := some ⟨b, 0, none⟩) (r0 := none) (r1 := r1) (r2 := r2) (m'.put 0 0 []) hT.put0 rfl rfl rfl rfl rfl rfl rfl rfl rfl rfl) ?_
    exact ent
  ·refine gg ?_
   refine Sx.rowkey (a := r1) fun hxj hnj _ hkj => ?_
   refine Sx.ap (ra := ro) rfl rfl (Rd.any (a := r1) hxj (hkj.imp (fun h => h.2.1) id)) (ones_ints _) (by simp [maxLen]; omega) (by omega) fun ra ca hc => ?_
   refine gg ?_
   refine Klp.nm ⟨((out ++ m'.items 1, m'.put 1 0 []), (ra, ca)), by dsimp only; rw [List.length_append]; omega, he1, he2⟩ (sub.cons rfl (sub.cons rfl (sub.cons ?_ sub.nil))) ?_ (by dsimp only; omega)
   ·show _ = some (Value.slice ra (out ++ m'.items 1).length ca)
    rw [show (out ++ m'.items 1).length = out.length + m'.x1.length by simp [Lm.items]]
    rfl
   ·dsimp only
    rw [ints_append, List.length_append]
    refine Ent.take1 (t := inferInstance) ?_
    refine Ent.trans (Ent.rownil 3 1) ?_
    refine Ent.trans (RLimboO.close (a := some ⟨b, 0, none⟩) (r0 := r0) (r1 := none) (r2 := r2) (m'.put 1 0 []) hT.put1 rfl rfl rfl rfl rfl rfl rfl rfl rfl rfl) ?_
    exact ent
  ·refine gg ?_
   refine Sx.rowkey (a := r2) fun hxj hnj _ hkj => ?_
   refine Sx.ap (ra := ro) rfl rfl (Rd.any (a := r2) hxj (hkj.imp (fun h => h.2.1) id)) (ones_ints _) (by simp [maxLen]; omega) (by omega) fun ra ca hc => ?_
   refine gg ?_
   refine Klp.nm ⟨((out ++ m'.items 2, m'.put 2 0 []), (ra, ca)), by dsimp only; rw [List.length_append]; omega, he1, he2⟩ (sub.cons rfl (sub.cons rfl (sub.cons ?_ sub.nil))) ?_ (by dsimp only; omega)
   ·show _ = some (Value.slice ra (out ++ m'.items 2).length ca)
    rw [show (out ++ m'.items 2).length = out.length + m'.x2.length by simp [Lm.items]]
    rfl
   ·dsimp only
    rw [ints_append, List.length_append]
    refine Ent.take1 (t := inferInstance) ?_
    refine Ent.trans (Ent.rownil 3 1) ?_
    refine Ent.trans (RLimboO.close (a := some ⟨b, 0, none⟩) (r0 := r0) (r1 := r1) (r2 := none) (m'.put 2 0 []) hT.put2 rfl rfl rfl rfl rfl rfl rfl rfl rfl rfl) ?_
    exact ent
 ·refine go ?_
  have hra : readyAll now m' = ([], m') := by
   by_cases h2 : 2 ≤ now
   ·rw [← anyOpen_least h2] at hop
    have hl := of_decide_eq_false hop
    rcases hlu : leastUp now m' 3 with _ | j
    ·exact hall _ h2 hlu
    ·rw [hlu] at hl; exact absurd (show (0 : Int) ≤ leastI (some j) by simp [leastI]) hl
   ·unfold readyAll; rw [if_neg h2]
  rw [hra] at he1 he2
  simp only [List.append_nil] at he1
  subst he1; subst he2
  exact Kr.one (.inr rfl) rfl (Ent.refl _) ⟨ro, co, rfl, rfl⟩
end
end Go.Proofs.YtflalhdofhobmaaGreat


namespace Go.Proofs.YtflalhdofhobmaaGreat
open Go
attribute [local irreducible] Sx Cx Rx Fx Krg Ksq Kbl Klp Kr
section
variable {L F : St}
end
end Go.Proofs.YtflalhdofhobmaaGreat


namespace Go.Proofs.YtflalhdofhobmaaGreat
open Go
attribute [local irreducible] Sx Cx Rx Fx Krg Ksq Kbl Klp Kr
section
variable {L F G : St}
abbrev tkB (b u : Nat) (nx n1 n2 n3 : Value) (cnt : Int) (pp : Value) (chunk seen : Int) (is_ : Bool) : As :=
 pt (some ⟨b, 0, none⟩) (Blk 274 [nx, n1, n2, n3, .int .i64 cnt, .pointer (some ⟨u, 0, none⟩), pp, .int .i64 chunk, .int .i64 seen, .bool is_])
def takeDL (T : TypeId) (u : Nat) (t : TakeS) (a : Option Addr) (y : Value × Value × Value × Value × Int) : St :=
 [pt a (Blk T [.nilFunc, y.1, y.2.1, y.2.2.1, .int .i64 y.2.2.2.2, .pointer (some ⟨u, 0, none⟩), y.2.2.2.1, .int .i64 t.chunk, .int .i64 t.seen, .bool t.is_])]
def takeLL (T : TypeId) (u : Nat) (t : TakeS) (a : Option Addr) (y : Value × Value × Value × Value × Int) : St :=
 [pt a (Blk T [.func (.func 218) #[.pointer a] #[], y.1, y.2.1, y.2.2.1, .int .i64 y.2.2.2.2, .pointer (some ⟨u, 0, none⟩), y.2.2.2.1, .int .i64 t.chunk, .int .i64 t.seen, .bool t.is_])]
def takePL (T : TypeId) (u pb : Nat) (k : Sk) (t : TakeS) (a : Option Addr) (y : Nat × Int) : St :=
 [pt a (Blk T [.func (.func 232) #[.pointer a] #[], mth 163 y.1, mth 164 y.1, .func (.func 249) #[.pointer a] #[], .int .i64 y.2, .pointer (some ⟨u, 0, none⟩), .pointer (some ⟨y.1, 0, none⟩), .int .i64 t.chunk, .int .i64 t.seen, .bool t.is_]),
  pt (some ⟨y.1, 0, none⟩) (PopO pb k t.q)]
def TakeT (T : TypeId) (u pb : Nat) (k : Sk) (t : TakeS) (a : Option Addr) : As := bif t.done then exs (takeDL T u t a) else bif Nat.beq t.at_ 0 then exs (takeLL T u t a) else exs (takePL T u pb k t a)
abbrev TakeO := TakeT 274
theorem TakeO.d {T : TypeId} {u pb : Nat} {k : Sk} {t : TakeS} {a : Option Addr} (h : t.done = true) : TakeT T u pb k t a = exs (takeDL T u t a) := by unfold TakeT; rw [h]; rfl
theorem TakeO.l {T : TypeId} {u pb : Nat} {k : Sk} {t : TakeS} {a : Option Addr} (h : t.done = false) (h0 : t.at_ = 0) : TakeT T u pb k t a = exs (takeLL T u t a) := by unfold TakeT; rw [h, h0]; rfl
theorem TakeO.p {T : TypeId} {u pb : Nat} {k : Sk} {t : TakeS} {a : Option Addr} (h : t.done = false) (h0 : t.at_ ≠ 0) : TakeT T u pb k t a = exs (takePL T u pb k t a) := by
 unfold TakeT
 have : Nat.beq t.at_ 0 = false := by
  cases hb : Nat.beq t.at_ 0 with
  | false => rfl
  | true => exact absurd (Nat.eq_of_beq_eq_true hb) h0
 rw [h, this]; rfl
theorem TakeO.closeD {b u pb : Nat} {k : Sk} (t : TakeS) (h : t.done = true) {n1 n2 n3 pp : Value} {cnt chunk seen : Int} {is_ : Bool} (hc : chunk = t.chunk) (hs : seen = t.seen) (hi : is_ = t.is_) : Ent (tkB b u .nilFunc n1 n2 n3 cnt pp chunk seen is_ :: G) (pt (some ⟨b, 0, none⟩) (TakeO u pb k t) :: G) := by
 subst hc; subst hs; subst hi
 exact Ent.close (f := takeDL 274 u t (some ⟨b, 0, none⟩)) (TakeO.d h) (n1, n2, n3, pp, cnt)
theorem TakeO.closeL {b u pb : Nat} {k : Sk} (t : TakeS) (h : t.done = false) (h0 : t.at_ = 0) {n1 n2 n3 pp : Value} {cnt chunk seen : Int} {is_ : Bool} (hc : chunk = t.chunk) (hs : seen = t.seen) (hi : is_ = t.is_) :
  Ent (tkB b u (mth 218 b) n1 n2 n3 cnt pp chunk seen is_ :: G) (pt (some ⟨b, 0, none⟩) (TakeO u pb k t) :: G) := by
 subst hc; subst hs; subst hi
 exact Ent.close (f := takeLL 274 u t (some ⟨b, 0, none⟩)) (TakeO.l h h0) (n1, n2, n3, pp, cnt)
theorem TakeO.closeP {b u pb p : Nat} {k : Sk} (t : TakeS) (h : t.done = false) (h0 : t.at_ ≠ 0) {cnt chunk seen : Int} {is_ : Bool} {q : PopS} (hc : chunk = t.chunk) (hs : seen = t.seen) (hi : is_ = t.is_) (hq : q = t.q) :
  Ent (tkB b u (mth 232 b) (mth 163 p) (mth 164 p) (mth 249 b) cnt (.pointer (some ⟨p, 0, none⟩)) chunk seen is_ :: pt (some ⟨p, 0, none⟩) (PopO pb k q) :: G) (pt (some ⟨b, 0, none⟩) (TakeO u pb k t) :: G) := by
 subst hc; subst hs; subst hi; subst hq
 exact Ent.close (f := takePL 274 u pb k t (some ⟨b, 0, none⟩)) (TakeO.p h h0) (p, cnt)
abbrev tkV (u : Nat) (nx n1 n2 n3 : Value) (cnt : Int) (pp : Value) (chunk seen : Int) (is_ : Bool) : Option Addr → As :=
 Blk 274 [nx, n1, n2, n3, .int .i64 cnt, .pointer (some ⟨u, 0, none⟩), pp, .int .i64 chunk, .int .i64 seen, .bool is_]
theorem takeKept {b u mp pb : Nat} {x : Cn} {s : SupS} {nx n1 n2 n3 pp : Value} {cnt chunk seen : Int} {is_ : Bool} {F1 : St} (hb : s.xs.length ≤ 1000000000) [t1 : Take L (some ⟨b, 0, none⟩) (tkV u nx n1 n2 n3 cnt pp chunk seen is_) F1] [t2 : Take F1 (some ⟨u, 0, none⟩) (SupO mp pb x s) G] :
  Fx Tryz.prog 216 [.pointer (some ⟨b, 0, none⟩)] L
   (fun v L' => v = .bool (decide (s.xs ≠ [])) ∧ L' = tkB b u nx n1 n2 n3 cnt pp (lastI s.xs) seen (decide (s.xs ≠ [])) :: pt (some ⟨u, 0, none⟩) (SupO mp pb x s.kept) :: G) := by
 refine Fx.mk Tryz.func216 k216 nb_ ?_
 dsimp only [c216, kG, kS, kH, kM, kN, kF, kL, envOf, Nat.reduceAdd]
 refine Cx.ent (Ent.trans (Ent.of t1.out) (Ent.cons (Ent.of t2.out))) ?_
 refine Cx.openp (a := some ⟨u, 0, none⟩) rfl ?_
 rintro ⟨sh, lm⟩
 simp only [supL, List.cons_append, List.nil_append]
 refine go ?_
 refine Sx.ca rfl (stashTakeI (b := sh) s.xs hb) ?_
 rintro v L' ⟨rfl, rfl⟩
 refine go ?_
 refine Kr.one (.inr rfl) rfl ?_ ⟨rfl, rfl⟩
 refine Ent.cons ?_
 exact SupO.close (a := some ⟨u, 0, none⟩) (sh := sh) (lm := lm) (mp := mp) (pb := pb) (x := x) s.kept rfl rfl rfl
theorem takeAsk {b u mp pb : Nat} {x : Cn} {s : SupS} {n1 n2 n3 pp : Value} {cnt chunk seen : Int} {is_ : Bool} {F1 : St} (hx : x.ok) [t1 : Take L (some ⟨b, 0, none⟩) (tkV u .nilFunc n1 n2 n3 cnt pp chunk seen is_) F1] [t2 : Take F1 (some ⟨u, 0, none⟩) (SupO mp pb x s) G] :
  Fx Tryz.prog 219 [.pointer (some ⟨b, 0, none⟩)] L
   (fun v L' => L' = pt (some ⟨b, 0, none⟩) (TakeO u pb x.pool ⟨1, chunk, is_, seen, PopS.init x.ba, false⟩) :: pt (some ⟨u, 0, none⟩) (SupO mp pb x s) :: G) := by
 refine Fx.mk Tryz.func219 k219 nb_ ?_
 dsimp only [c219, kG, kS, kH, kM, kN, kF, kL, envOf, Nat.reduceAdd]
 refine Cx.ent (Ent.trans (Ent.of t1.out) (Ent.cons (Ent.of t2.out))) ?_
 refine Cx.openp (a := some ⟨u, 0, none⟩) rfl ?_
 rintro ⟨sh, lm⟩
 simp only [supL, List.cons_append, List.nil_append]
 refine go ?_
 refine Cx.ordc rfl kr_ ?_
 refine ge ?_
 refine Ev.caH kr_ rfl rfl (stackPop (sb := pb) (k := x.pool) (x.ba : Int) (by have := hx.2.1; show 1 ≤ x.c; omega)) (Pres.deps kr_) ?_
 rintro v L' ⟨p, rfl, rfl⟩
 refine ge ?_
 refine Ev.stbH (b := b) kr_ rfl rfl rfl rfl rfl (by rfl) rfl (Pres.deps kr_) ?_
 refine ge ?_
 refine Cx.orde rfl kr_ ?_
 refine ge ?_
 refine Ev.caH kr_ rfl rfl (machThrough (b := b) (machOnNo (b := b) kr_ (popDoneC (b := p) (sb := pb) (k := x.pool) (q := PopS.init x.ba)))) (Pres.deps kr_) ?_
 rintro v L' ⟨rfl, w, rfl, rfl⟩
 refine ge ?_
 refine Kr.none (.inl rfl) ?_ rfl
 refine Ent.trans (Ent.cons ?_) (TakeO.closeP (p := p) ⟨1, chunk, is_, seen, PopS.init x.ba, false⟩ rfl (by simp) rfl rfl rfl rfl)
 refine Ent.cons ?_
 exact SupO.close (a := some ⟨u, 0, none⟩) (sh := sh) (lm := lm) (mp := mp) (pb := pb) (x := x) s rfl rfl rfl
theorem epochCut (w : Nat) (hw : w < 18446744073709551616) : Fx Tryz.prog 233 [wd w] L (fun v L' => v = .int .i64 (cutE w) ∧ L = L') := by
 refine Fx.mk Tryz.func233 k233 nb_ ?_
 dsimp only [c233, kG, kS, kH, kM, kN, kF, kL, envOf, Nat.reduceAdd]
 refine go ?_
 refine Kr.one (.inr rfl) rfl (Ent.refl _) ⟨congrArg (Value.int .i64) ?_, rfl⟩
 rw [cond_false]
 unfold cutE
 refine Eq.trans (congrArg IntKind.i64.wrap (show _ = min (w : Int) 4611686018427387903 by split <;> omega)) ?_
 exact w64 (by omega) (by omega)
theorem takeLook {b u mp pb : Nat} {x : Cn} {s : SupS} {m : Mm} {t : TakeS} {n1 n2 n3 pp : Value} {cnt : Int} {F1 F2 : St} (hx : x.ok) (hm : m.ok) (hl : 2 < m.ws.length) (hd : t.done = false) (h0 : t.at_ = 0) (hi : t.chunk = 0 ∧ t.is_ = false)
  (hb : s.xs.length + s.lm.size ≤ 1000000) [t1 : Take L (some ⟨b, 0, none⟩) (tkV u .nilFunc n1 n2 n3 cnt pp t.chunk t.seen t.is_) F1] [t2 : Take F1 (some ⟨u, 0, none⟩) (SupO mp pb x s) F2] [t3 : Take F2 (some ⟨mp, 0, none⟩) (MemO m) G] :
  Fx Tryz.prog 218 [.pointer (some ⟨b, 0, none⟩)] L
   (fun v L' => L' = pt (some ⟨b, 0, none⟩) (TakeO u pb x.pool (takeStep x.pool x.ba m s t).2.2) :: pt (some ⟨u, 0, none⟩) (SupO mp pb x (takeStep x.pool x.ba m s t).2.1) :: pt (some ⟨mp, 0, none⟩) (MemO (takeStep x.pool x.ba m s t).1) :: G) := by
 have hlt := Mm.at_lt hm 2
 have hz := size_ready (cutE (m.at_ 2)) s.lm
 have hcut : cutE (m.at_ 2) ≤ 9223372036854775807 := by unfold cutE; omega
 refine Fx.mk Tryz.func218 k218 nb_ ?_
 dsimp only [c218, kG, kS, kH, kM, kN, kF, kL, envOf, Nat.reduceAdd]
 refine Cx.ent (Ent.trans (Ent.of t1.out) (Ent.cons (Ent.trans (Ent.of t2.out) (Ent.cons (Ent.of t3.out))))) ?_
 refine Cx.openp (a := some ⟨u, 0, none⟩) rfl ?_
 rintro ⟨sh, lm⟩
 simp only [supL, List.cons_append, List.nil_append]
 refine go ?_
 refine Sx.ca rfl (cellsLoad (b := mp) (m := m) 2 hl) ?_
 rintro v L' ⟨rfl, rfl⟩
 refine go ?_
 refine Sx.ca rfl (epochCut (m.at_ 2) hlt) ?_
 rintro v L' ⟨rfl, rfl⟩
 refine go ?_
 refine Cx.ent (SupO.close (a := some ⟨u, 0, none⟩) (sh := sh) (lm := lm) (mp := mp) (pb := pb) (x := x) s rfl rfl rfl) ?_
 refine Cx.ordc rfl kr_ ?_
 refine ge ?_
 refine Ev.caH kr_ rfl rfl (supReady (u := u) (mp := mp) (pb := pb) (x := x) (s := s) (now := cutE (m.at_ 2)) (by omega) (by omega) hcut) (Pres.deps kr_) ?_
 rintro v L' ⟨rfl, rfl⟩
 refine ge ?_
 refine go ?_
 have hrl : (s.ready (cutE (m.at_ 2))).xs.length ≤ 1000000000 := by simp only [SupS.ready, List.length_append]; omega
 refine Sx.ca rfl (takeKept (b := b) (u := u) (mp := mp) (pb := pb) (x := x) (s := s.ready (cutE (m.at_ 2))) hrl) ?_
 rintro v L' ⟨rfl, rfl⟩
 by_cases hxs : (s.ready (cutE (m.at_ 2))).xs = []
 ·have e : takeStep x.pool x.ba m s t = (m.tick, s.ready (cutE (m.at_ 2)), ⟨1, 0, false, cutE (m.at_ 2), PopS.init x.ba, false⟩) := by
   unfold takeStep
   rw [hd, h0]
   simp only [Bool.false_eq_true, if_false, keepT, if_pos hxs, hi.1, hi.2]
  have hk : (s.ready (cutE (m.at_ 2))).kept = s.ready (cutE (m.at_ 2)) := by unfold SupS.kept; rw [hxs]; simp only [List.dropLast_nil]; rw [← hxs]
  rw [e, decide_eq_false (fun h : (s.ready (cutE (m.at_ 2))).xs ≠ [] => h hxs), hk, hxs]
  refine go ?_
  refine Sx.ca rfl (takeAsk (b := b) (u := u) (mp := mp) (pb := pb) (x := x) (s := s.ready (cutE (m.at_ 2))) hx) ?_
  rintro v L' rfl
  refine go ?_
  exact Kr.none (.inl rfl) (Ent.refl _) rfl
 ·have e : takeStep x.pool x.ba m s t = (m.tick, (s.ready (cutE (m.at_ 2))).kept, ⟨0, lastI (s.ready (cutE (m.at_ 2))).xs, true, cutE (m.at_ 2), t.q, true⟩) := by
   unfold takeStep
   rw [hd, h0]
   simp only [Bool.false_eq_true, if_false, keepT, if_neg hxs]
  rw [e, decide_eq_true (show (s.ready (cutE (m.at_ 2))).xs ≠ [] from hxs)]
  refine go ?_
  exact Kr.none (.inl rfl) (TakeO.closeD _ rfl rfl rfl rfl) rfl
theorem takePopped {b u mp pb p : Nat} {x : Cn} {s : SupS} {t : TakeS} {n1 n2 n3 : Value} {cnt : Int} {F1 F2 : St} {k : Sk} (hq : t.q.done = true) (hi : t.is_ = false) (hb : s.xs.length ≤ 1000000)
  [t1 : Take L (some ⟨b, 0, none⟩) (tkV u .nilFunc n1 n2 n3 cnt (.pointer (some ⟨p, 0, none⟩)) t.chunk t.seen t.is_) F1] [t2 : Take F1 (some ⟨u, 0, none⟩) (SupO mp pb x s) F2] [t3 : Take F2 (some ⟨p, 0, none⟩) (PopO pb k t.q) G] :
  Fx Tryz.prog 249 [.pointer (some ⟨b, 0, none⟩)] L
   (fun v L' => L' = pt (some ⟨b, 0, none⟩) (TakeO u pb k (popped s t).2) :: pt (some ⟨u, 0, none⟩) (SupO mp pb x (popped s t).1) :: G) := by
 refine Fx.mk Tryz.func249 k249 nb_ ?_
 dsimp only [c249, kG, kS, kH, kM, kN, kF, kL, envOf, Nat.reduceAdd]
 refine Cx.ent (Ent.trans (Ent.of t1.out) (Ent.cons (Ent.trans (Ent.of t2.out) (Ent.cons (Ent.of t3.out))))) ?_
 have hlen : ∀ h, holds (tkB b u .nilFunc n1 n2 n3 cnt (.pointer (some ⟨p, 0, none⟩)) t.chunk t.seen t.is_ :: pt (some ⟨u, 0, none⟩) (SupO mp pb x s) :: pt (some ⟨p, 0, none⟩) (PopO pb k t.q) :: G) h → t.q.got.length ≤ 8 := by
  intro h hh
  have h1 := (inferInstance : Take (tkB b u .nilFunc n1 n2 n3 cnt (.pointer (some ⟨p, 0, none⟩)) t.chunk t.seen t.is_ :: pt (some ⟨u, 0, none⟩) (SupO mp pb x s) :: pt (some ⟨p, 0, none⟩) (PopO pb k t.q) :: G) (some ⟨p, 0, none⟩) (PopO pb k t.q) _).out h hh
  obtain ⟨y, hy⟩ := holds_ex.1 h1
  exact (holds_lift.1 hy).1.len
 refine Cx.pure hlen fun h8 => ?_
 refine go ?_
 refine Sx.ca rfl (popGot (b := p) (sb := pb) (k := k) (q := t.q) hq) ?_
 rintro v L' ⟨ro, co, rfl, rfl⟩
 refine go ?_
 cases hg : t.q.got with
 | nil =>
   have e : popped s t = (s, { t with done := true }) := by unfold popped; rw [hg]
   rw [e]
   refine go ?_
   refine Kr.none (.inl rfl) ?_ rfl
   refine Ent.trans ?_ (TakeO.closeD (n1 := n1) (n2 := n2) (n3 := n3) (cnt := cnt) (pp := .pointer (some ⟨p, 0, none⟩)) { t with done := true } rfl rfl rfl rfl)
   exact ent
 | cons y l =>
   have e : popped s t = (s.give l, { t with chunk := y, is_ := true, done := true }) := by unfold popped; rw [hg]
   rw [e]
   rw [hg] at h8
   simp only [List.length_cons] at h8 ⊢
   refine Cx.cyes rfl (decide_eq_true (by omega)) ?_
   refine Cx.rowkey (a := ro) fun hx0 hn0 hc0 hk0 => ?_
   obtain ⟨rg, rfl⟩ : ∃ g, ro = some ⟨g, 0, none⟩ := by
    rcases hk0 with h | h
    ·omega
    ·exact h
   refine go ?_
   refine Sx.pv rfl ⟨by omega, by omega⟩ ?_
   refine Sx.ldr (b := rg) rfl (v := .int .i64 y) rfl ?_
   refine go ?_
   refine Cx.orde rfl kr_ ?_
   refine ge ?_
   refine Ev.caH kr_ rfl rfl (supPut (u := u) (mp := mp) (pb := pb) (x := x) (s := s) (ys := l) (Rd.suffix_ (g := rg) (i := 1) hx0 hn0 (by omega)) (by omega)) (Pres.deps kr_) ?_
   rintro v L' ⟨rfl, rfl⟩
   refine ge ?_
   refine Kr.none (.inl rfl) ?_ rfl
   refine Ent.trans ?_ (TakeO.closeD (n1 := n1) (n2 := n2) (n3 := n3) (cnt := cnt) (pp := .pointer (some ⟨p, 0, none⟩)) { t with chunk := y, is_ := true, done := true } rfl rfl rfl rfl)
   exact ent
structure TakeS.ok (t : TakeS) : Prop where
 a : t.at_ ≤ 1
 i : t.done = false → t.chunk = 0 ∧ t.is_ = false
theorem takeStepC {b u mp pb : Nat} {x : Cn} {s : SupS} {m : Mm} {t : TakeS} {F1 F2 F3 : St} (hx : x.ok) (hl : x.len ≤ m.ws.length) (ht : t.ok) (hb : s.xs.length + s.lm.size ≤ 1000000)
  [t1 : Take L (some ⟨b, 0, none⟩) (TakeO u pb x.pool t) F1] [t2 : Take F1 (some ⟨u, 0, none⟩) (SupO mp pb x s) F2] [t3 : Take F2 (some ⟨mp, 0, none⟩) (MemO m) F3] [t4 : Take F3 (some ⟨pb, 0, none⟩) (SkO mp x.pool) G] :
  Fx Tryz.prog 159 [.pointer (some ⟨b, 0, none⟩)] L
   (fun v L' => v = .bool (!t.done) ∧ L' = pt (some ⟨b, 0, none⟩) (TakeO u pb x.pool (takeStep x.pool x.ba m s t).2.2) :: pt (some ⟨u, 0, none⟩) (SupO mp pb x (takeStep x.pool x.ba m s t).2.1) :: pt (some ⟨mp, 0, none⟩) (MemO (takeStep x.pool x.ba m s t).1) :: F3) := by
 have hl3 : 3 ≤ x.len := by unfold Cn.len; omega
 refine Fx.mk Tryz.func159 k159 nb_ ?_
 dsimp only [c159, kG, kS, kH, kM, kN, kF, kL, envOf, Nat.reduceAdd]
 refine Cx.ent (Ent.trans (Ent.of t1.out) (Ent.cons (Ent.trans (Ent.of t2.out) (Ent.cons (Ent.trans (Ent.of t3.out) (Ent.cons (Ent.of t4.out))))))) ?_
 refine Cx.pure (memKey (b := mp) (m := m)) fun hm => ?_
 cases hd : t.done with
 | true =>
   have e : takeStep x.pool x.ba m s t = (m, s, t) := by unfold takeStep; rw [hd]; rfl
   rw [e]
   refine Cx.openp (a := some ⟨b, 0, none⟩) (TakeO.d hd) ?_
   rintro ⟨n1, n2, n3, pp, cnt⟩
   simp only [takeDL, List.cons_append, List.nil_append]
   refine go ?_
   refine Sx.ca rfl (machStepDone (b := b)) ?_
   rintro v L' ⟨rfl, rfl⟩
   refine go ?_
   exact Kr.one (.inr rfl) rfl (Ent.trans (TakeO.closeD t hd rfl rfl rfl) (Ent.cons (Ent.cons (Ent.cons (Ent.of t4.back))))) ⟨rfl, rfl⟩
 | false =>
   have ha := ht.a
   rcases (show t.at_ = 0 ∨ t.at_ = 1 by omega) with h0 | h0
   ·refine Cx.openp (a := some ⟨b, 0, none⟩) (TakeO.l hd h0) ?_
    rintro ⟨n1, n2, n3, pp, cnt⟩
    simp only [takeLL, List.cons_append, List.nil_append]
    refine go ?_
    refine Sx.ca rfl (machStep (b := b) kr_ (takeLook (b := b) (u := u) (mp := mp) (pb := pb) (x := x) (s := s) (m := m) (t := t) hx hm.1 (by omega) hd h0 (ht.i hd) hb)) ?_
    rintro v L' ⟨rfl, w, rfl⟩
    refine go ?_
    exact Kr.one (.inr rfl) rfl (Ent.cons (Ent.cons (Ent.cons (Ent.of t4.back)))) ⟨rfl, rfl⟩
   ·refine Cx.openp (a := some ⟨b, 0, none⟩) (TakeO.p hd (by omega)) ?_
    rintro ⟨p, cnt⟩
    simp only [takePL, List.cons_append, List.nil_append]
    have hk := hx.pool (n := m.ws.length) hl hm.2
    cases hq : (popStep x.pool m t.q).1.done with
    | true =>
      have e : takeStep x.pool x.ba m s t = ((popStep x.pool m t.q).2, popped s { t with q := (popStep x.pool m t.q).1 }) := by
       unfold takeStep
       rw [hd, h0]
       simp only [Bool.false_eq_true, if_false, hq, if_true]
      rw [e]
      refine go ?_
      refine Sx.ca rfl (machStep (b := b) kr_ (machGoes (b := b) kr_ (popStepC (b := p) (mp := mp) (sb := pb) (k := x.pool) (m := m) (q := t.q) hk) (R2 := fun v L' => v = .tuple #[] ∧ ∃ w : Value, L' = pt (some ⟨b, 0, none⟩) (TakeO u pb x.pool (popped s { t with q := (popStep x.pool m t.q).1 }).2) :: pt (some ⟨u, 0, none⟩) (SupO mp pb x (popped s { t with q := (popStep x.pool m t.q).1 }).1) :: pt (some ⟨mp, 0, none⟩) (MemO (popStep x.pool m t.q).2) :: pt (some ⟨pb, 0, none⟩) (SkO mp x.pool) :: G) ?_)) ?_
      ·rintro v L1 ⟨rfl, rfl⟩
       have hon := machOnYes (b := b) kr_ (fd := 164) (ft := 249) (w := .pointer (some ⟨p, 0, none⟩)) (u := .pointer (some ⟨b, 0, none⟩)) (L := pt (some ⟨p, 0, none⟩) (PopO pb x.pool (popStep x.pool m t.q).1) :: pt (some ⟨mp, 0, none⟩) (MemO (popStep x.pool m t.q).2) :: tkB b u .nilFunc (mth 163 p) (mth 164 p) (mth 249 b) (IntKind.i64.wrap (cnt + 1)) (.pointer (some ⟨p, 0, none⟩)) t.chunk t.seen t.is_ :: pt (some ⟨u, 0, none⟩) (SupO mp pb x s) :: pt (some ⟨pb, 0, none⟩) (SkO mp x.pool) :: G)
        ((popDoneC (b := p) (sb := pb) (k := x.pool) (q := (popStep x.pool m t.q).1)).mono (by rintro v L' ⟨rfl, rfl⟩; exact ⟨by rw [hq], rfl⟩)) kr_
        (takePopped (b := b) (u := u) (mp := mp) (pb := pb) (p := p) (x := x) (s := s) (t := { t with q := (popStep x.pool m t.q).1 }) (k := x.pool) hq (ht.i hd).2 (by omega))
       refine hon.mono ?_
       rintro v L' ⟨rfl, w, rfl⟩
       exact ⟨rfl, w, rfl⟩
      ·rintro v L' ⟨rfl, w, _, w2, _, w3, rfl⟩
       refine go ?_
       exact Kr.one (.inr rfl) rfl (Ent.cons (Ent.cons (Ent.cons (Ent.of t4.back)))) ⟨rfl, rfl⟩
    | false =>
      have e : takeStep x.pool x.ba m s t = ((popStep x.pool m t.q).2, s, { t with q := (popStep x.pool m t.q).1 }) := by
       unfold takeStep
       rw [hd, h0]
       simp only [Bool.false_eq_true, if_false, hq]
      rw [e]
      refine go ?_
      refine Sx.ca rfl (machStep (b := b) kr_ (machGoes (b := b) kr_ (popStepC (b := p) (mp := mp) (sb := pb) (k := x.pool) (m := m) (q := t.q) hk) (R2 := fun v L' => v = .tuple #[] ∧ L' = tkB b u (mth 232 b) (mth 163 p) (mth 164 p) (mth 249 b) (IntKind.i64.wrap (cnt + 1)) (.pointer (some ⟨p, 0, none⟩)) t.chunk t.seen t.is_ ::
       pt (some ⟨p, 0, none⟩) (PopO pb x.pool (popStep x.pool m t.q).1) :: pt (some ⟨mp, 0, none⟩) (MemO (popStep x.pool m t.q).2) :: pt (some ⟨u, 0, none⟩) (SupO mp pb x s) :: pt (some ⟨pb, 0, none⟩) (SkO mp x.pool) :: G) ?_)) ?_
      ·rintro v L1 ⟨rfl, rfl⟩
       have hon := machOnNo (b := b) kr_ (fd := 164) (w := .pointer (some ⟨p, 0, none⟩)) (L := pt (some ⟨p, 0, none⟩) (PopO pb x.pool (popStep x.pool m t.q).1) :: pt (some ⟨mp, 0, none⟩) (MemO (popStep x.pool m t.q).2) :: tkB b u .nilFunc (mth 163 p) (mth 164 p) (mth 249 b) (IntKind.i64.wrap (cnt + 1)) (.pointer (some ⟨p, 0, none⟩)) t.chunk t.seen t.is_ :: pt (some ⟨u, 0, none⟩) (SupO mp pb x s) :: pt (some ⟨pb, 0, none⟩) (SkO mp x.pool) :: G)
        ((popDoneC (b := p) (sb := pb) (k := x.pool) (q := (popStep x.pool m t.q).1)).mono (by rintro v L' ⟨rfl, rfl⟩; exact ⟨by rw [hq], rfl⟩))
       refine hon.mono ?_
       rintro v L' ⟨rfl, rfl⟩
       exact ⟨rfl, rfl⟩
      ·rintro v L' ⟨rfl, w, _, w2, _, rfl⟩
       refine go ?_
       refine Kr.one (.inr rfl) rfl ?_ ⟨rfl, rfl⟩
       refine Ent.trans (TakeO.closeP (p := p) { t with q := (popStep x.pool m t.q).1 } hd (by dsimp only; omega) rfl rfl rfl rfl) ?_
       refine Ent.cons ?_
       refine Ent.trans ?_ (Ent.cons (Ent.cons (Ent.of t4.back)))
       exact ent
theorem takeStep_ok {k : Sk} {ba : Int} {m : Mm} {s : SupS} {t : TakeS} (h : t.ok) : (takeStep k ba m s t).2.2.ok := by
 unfold takeStep
 split
 ·exact h
 ·rename_i hd
  have hd' : t.done = false := by simpa using hd
  have hi := h.i hd'
  split
  ·unfold keepT
   dsimp only
   split
   ·rename_i hr
    split at hr
    ·cases hr
    ·cases hr; exact ⟨by show t.at_ ≤ 1; exact h.a, fun h => by cases h⟩
   ·exact ⟨by simp, fun _ => ⟨hi.1, hi.2⟩⟩
  ·dsimp only
   split
   ·unfold popped
    split
    ·exact ⟨h.a, fun h => by cases h⟩
    ·exact ⟨h.a, fun h => by cases h⟩
   ·exact ⟨h.a, fun _ => hi⟩
theorem takeInit_ok {ba : Int} {s : SupS} : (takeInit ba s).2.ok := by
 unfold takeInit keepT
 split
 ·rename_i r hr
  split at hr
  ·cases hr
  ·cases hr; exact ⟨by simp [TakeS.none_], fun h => by cases h⟩
 ·split
  ·exact ⟨by simp [TakeS.none_], fun _ => ⟨rfl, rfl⟩⟩
  ·exact ⟨by simp, fun _ => ⟨rfl, rfl⟩⟩
theorem takeDone {b u pb : Nat} {k : Sk} {t : TakeS} {F1 : St} (ht : t.ok) [t1 : Take L (some ⟨b, 0, none⟩) (TakeO u pb k t) F1] : Fx Tryz.prog 160 [.pointer (some ⟨b, 0, none⟩)] L (fun v L' => v = .bool t.done ∧ L = L') := by
 refine Fx.kept (t := t1) ?_
 refine Fx.mk Tryz.func160 k160 nb_ ?_
 dsimp only [c160, kG, kS, kH, kM, kN, kF, kL, envOf, Nat.reduceAdd]
 refine Cx.ent (Ent.of t1.out) ?_
 cases hd : t.done with
 | true =>
   refine Cx.openp (a := some ⟨b, 0, none⟩) (TakeO.d hd) ?_
   rintro ⟨n1, n2, n3, pp, cnt⟩
   simp only [takeDL, List.cons_append, List.nil_append]
   refine go ?_
   refine Sx.ca rfl (machDoneYes (b := b)) ?_
   rintro v L' ⟨rfl, rfl⟩
   refine go ?_
   exact Kr.one (.inr rfl) rfl (TakeO.closeD t hd rfl rfl rfl) ⟨rfl, rfl⟩
 | false =>
   have ha := ht.a
   rcases (show t.at_ = 0 ∨ t.at_ = 1 by omega) with h0 | h0
   ·refine Cx.openp (a := some ⟨b, 0, none⟩) (TakeO.l hd h0) ?_
    rintro ⟨n1, n2, n3, pp, cnt⟩
    simp only [takeLL, List.cons_append, List.nil_append]
    refine go ?_
    refine Sx.ca rfl (machDoneNo (b := b)) ?_
    rintro v L' ⟨rfl, rfl⟩
    refine go ?_
    exact Kr.one (.inr rfl) rfl (TakeO.closeL t hd h0 rfl rfl rfl) ⟨rfl, rfl⟩
   ·refine Cx.openp (a := some ⟨b, 0, none⟩) (TakeO.p hd (by omega)) ?_
    rintro ⟨p, cnt⟩
    simp only [takePL, List.cons_append, List.nil_append]
    refine go ?_
    refine Sx.ca rfl (machDoneNo (b := b)) ?_
    rintro v L' ⟨rfl, rfl⟩
    refine go ?_
    exact Kr.one (.inr rfl) rfl (TakeO.closeP (p := p) t hd (by omega) rfl rfl rfl rfl) ⟨rfl, rfl⟩
theorem takeChunk {b u pb : Nat} {k : Sk} {t : TakeS} {F1 : St} (ht : t.ok) [t1 : Take L (some ⟨b, 0, none⟩) (TakeO u pb k t) F1] : Fx Tryz.prog 220 [.pointer (some ⟨b, 0, none⟩)] L (fun v L' => v = .tuple #[.int .i64 t.chunk, .bool t.is_] ∧ L = L') := by
 refine Fx.kept (t := t1) ?_
 refine Fx.mk Tryz.func220 k220 nb_ ?_
 dsimp only [c220, kG, kS, kH, kM, kN, kF, kL, envOf, Nat.reduceAdd]
 refine Cx.ent (Ent.of t1.out) ?_
 refine go ?_
 refine Sx.ca rfl (takeDone (b := b) (u := u) (pb := pb) (k := k) (t := t) ht) ?_
 rintro v L' ⟨rfl, rfl⟩
 cases hd : t.done with
 | false =>
   refine go ?_
   exact Kr.two (.inr rfl) rfl rfl (Ent.refl _) ⟨by rw [(ht.i hd).1, (ht.i hd).2], rfl⟩
 | true =>
   refine go ?_
   refine Cx.openp (a := some ⟨b, 0, none⟩) (TakeO.d hd) ?_
   rintro ⟨n1, n2, n3, pp, cnt⟩
   simp only [takeDL, List.cons_append, List.nil_append]
   refine Cx.ordc rfl kr_ ?_
   refine ge ?_
   refine go ?_
   exact Kr.two (.inr rfl) rfl rfl (TakeO.closeD t hd rfl rfl rfl) ⟨rfl, rfl⟩
end
end Go.Proofs.YtflalhdofhobmaaGreat


namespace Go.Proofs.YtflalhdofhobmaaGreat
open Go
attribute [local irreducible] Sx Cx Rx Fx Krg Ksq Kbl Klp Kr
section
variable {L F G : St}
theorem refTakeI {b : Nat} {most : Int} (xs : List Int) {F : St} [t : Take L (some ⟨b, 0, none⟩) (RefO most xs) F] (hb : xs.length ≤ 100000000) :
  Fx Tryz.prog 231 [.pointer (some ⟨b, 0, none⟩)] L (fun v L' => v = .tuple #[.int .i64 (lastI xs), .bool (decide (xs ≠ []))] ∧ L' = pt (some ⟨b, 0, none⟩) (RefO most xs.dropLast) :: F) := by
 rcases List.eq_nil_or_concat xs with rfl | ⟨ys, x, rfl⟩
 ·exact refTakeNone
 ·rw [List.concat_eq_append] at t hb ⊢
  refine (refTakeSome (t := t) (by simp at hb; omega)).mono ?_
  rintro v L' ⟨rfl, rfl⟩
  simp [lastI]
def rsupL (T : TypeId) (w : Nat) (S : SupS) (a : Option Addr) (y : Nat × Nat) : St :=
 [pt a (Blk T [.pointer (some ⟨w, 0, none⟩), .pointer (some ⟨y.1, 0, none⟩), .pointer (some ⟨y.2, 0, none⟩)]), pt (some ⟨y.1, 0, none⟩) (RefO S.most S.xs), pt (some ⟨y.2, 0, none⟩) (RLimboO S.lm)]
def RSupT (T : TypeId) (w : Nat) (S : SupS) (a : Option Addr) : As := exs (rsupL T w S a)
abbrev RSupO := RSupT 183
theorem RSupO.close {T : TypeId} {w st lm : Nat} {a : Option Addr} {m : Int} {xs : List Int} {l : Lm} {F0 F1 G : St} (S : SupS)
  [t : Take L a (Blk T [.pointer (some ⟨w, 0, none⟩), .pointer (some ⟨st, 0, none⟩), .pointer (some ⟨lm, 0, none⟩)]) F0] [u : Take F0 (some ⟨st, 0, none⟩) (RefO m xs) F1] [q : Take F1 (some ⟨lm, 0, none⟩) (RLimboO l) G]
  (hm : m = S.most) (hx : xs = S.xs) (hl : l = S.lm) : Ent L (pt a (RSupT T w S) :: G) := by
 subst hm; subst hx; subst hl
 refine Ent.trans (Ent.take1 (t := t) (Ent.trans (Ent.of u.out) (Ent.cons (Ent.of q.out)))) ?_
 exact Ent.close (f := rsupL T w S a) rfl (st, lm)
theorem refSupReady {s w : Nat} {S : SupS} {F : St} [t : Take L (some ⟨s, 0, none⟩) (RSupO w S) F] {now : Int} (hb : S.lm.size ≤ 100000000) (hx : S.xs.length ≤ 100000000) (hn : now ≤ 9223372036854775807) :
  Fx Tryz.prog 181 [.pointer (some ⟨s, 0, none⟩), .int .i64 now] L (fun v L' => v = .int .i64 (readyAll now S.lm).1.length ∧ L' = pt (some ⟨s, 0, none⟩) (RSupO w (S.ready now)) :: F) := by
 have hz := size_ready now S.lm
 refine Fx.mk Tryz.func181 k181 nb_ ?_
 dsimp only [c181, kG, kS, kH, kM, kN, kF, kL, envOf, Nat.reduceAdd]
 refine Cx.openp (t := t) rfl ?_
 rintro ⟨st, lm⟩
 simp only [rsupL, List.cons_append, List.nil_append]
 refine go ?_
 refine Sx.ca rfl (refReady (b := lm) (m := S.lm) (now := now) hb hn) ?_
 rintro v L' ⟨ro, co, rfl, rfl⟩
 refine Sx.rowkey (a := ro) fun hx0 hn0 _ hk0 => ?_
 refine go ?_
 refine Sx.ca rfl (refGive (b := st) (Rd.any (a := ro) hx0 (hk0.imp (fun h => h.2.1) id)) (by omega)) ?_
 rintro v L' ⟨rfl, rfl⟩
 refine go ?_
 refine Kr.one (.inr rfl) rfl (Ent.trans (RSupO.close (a := some ⟨s, 0, none⟩) (st := st) (lm := lm) (w := w) (S.ready now) rfl rfl rfl) ?_) ⟨rfl, rfl⟩
 exact ent
def TakeS.ch (t : TakeS) : Int := if t.is_ then t.chunk else -1
abbrev rtkB (b s : Nat) (at_ : Nat) (ch seen : Int) (pp : Value) (d : Bool) : As := pt (some ⟨b, 0, none⟩) (Blk 186 [.pointer (some ⟨s, 0, none⟩), .int .i64 (at_ : Nat), .int .i64 ch, .int .i64 seen, pp, .bool d])
def rtakeDL (T : TypeId) (s : Nat) (t : TakeS) (a : Option Addr) (y : Nat × Value) : St := [pt a (Blk T [.pointer (some ⟨s, 0, none⟩), .int .i64 (y.1 : Nat), .int .i64 t.ch, .int .i64 t.seen, y.2, .bool true])]
def rtakeLL (T : TypeId) (s : Nat) (t : TakeS) (a : Option Addr) (y : Value) : St := [pt a (Blk T [.pointer (some ⟨s, 0, none⟩), .int .i64 0, .int .i64 (-1), .int .i64 t.seen, y, .bool false])]
def rtakePL (T : TypeId) (s rp : Nat) (t : TakeS) (a : Option Addr) (y : Nat) : St := [pt a (Blk T [.pointer (some ⟨s, 0, none⟩), .int .i64 1, .int .i64 (-1), .int .i64 t.seen, .pointer (some ⟨y, 0, none⟩), .bool false]), pt (some ⟨y, 0, none⟩) (RPopO rp t.q)]
def RTakeT (T : TypeId) (s rp : Nat) (t : TakeS) (a : Option Addr) : As := bif t.done then exs (rtakeDL T s t a) else bif Nat.beq t.at_ 0 then exs (rtakeLL T s t a) else exs (rtakePL T s rp t a)
abbrev RTakeO := RTakeT 186
theorem RTakeO.d {T : TypeId} {s rp : Nat} {t : TakeS} {a : Option Addr} (h : t.done = true) : RTakeT T s rp t a = exs (rtakeDL T s t a) := by unfold RTakeT; rw [h]; rfl
theorem RTakeO.l {T : TypeId} {s rp : Nat} {t : TakeS} {a : Option Addr} (h : t.done = false) (h0 : t.at_ = 0) : RTakeT T s rp t a = exs (rtakeLL T s t a) := by unfold RTakeT; rw [h, h0]; rfl
theorem RTakeO.p {T : TypeId} {s rp : Nat} {t : TakeS} {a : Option Addr} (h : t.done = false) (h0 : t.at_ ≠ 0) : RTakeT T s rp t a = exs (rtakePL T s rp t a) := by
 unfold RTakeT
 have : Nat.beq t.at_ 0 = false := by
  cases hb : Nat.beq t.at_ 0 with
  | false => rfl
  | true => exact absurd (Nat.eq_of_beq_eq_true hb) h0
 rw [h, this]; rfl
theorem RTakeO.closeD {b s rp n : Nat} {ch seen : Int} {pp : Value} (t : TakeS) (h : t.done = true) (hc : ch = t.ch) (hs : seen = t.seen) : Ent (rtkB b s n ch seen pp true :: G) (pt (some ⟨b, 0, none⟩) (RTakeO s rp t) :: G) := by
 subst hc; subst hs
 exact Ent.close (f := rtakeDL 186 s t (some ⟨b, 0, none⟩)) (RTakeO.d h) (n, pp)
theorem RTakeO.closeL {b s rp : Nat} {seen : Int} {pp : Value} (t : TakeS) (h : t.done = false) (h0 : t.at_ = 0) (hs : seen = t.seen) : Ent (rtkB b s 0 (-1) seen pp false :: G) (pt (some ⟨b, 0, none⟩) (RTakeO s rp t) :: G) := by
 subst hs
 exact Ent.close (f := rtakeLL 186 s t (some ⟨b, 0, none⟩)) (RTakeO.l h h0) pp
theorem RTakeO.closeP {b s rp p : Nat} {seen : Int} {q : PopS} (t : TakeS) (h : t.done = false) (h0 : t.at_ ≠ 0) (hs : seen = t.seen) (hq : q = t.q) : Ent (rtkB b s 1 (-1) seen (.pointer (some ⟨p, 0, none⟩)) false :: pt (some ⟨p, 0, none⟩) (RPopO rp q) :: G) (pt (some ⟨b, 0, none⟩) (RTakeO s rp t) :: G) := by
 subst hs; subst hq
 exact Ent.close (f := rtakePL 186 s rp t (some ⟨b, 0, none⟩)) (RTakeO.p h h0) p
abbrev rtkV (s : Nat) (at_ : Nat) (ch seen : Int) (pp : Value) (d : Bool) : Option Addr → As := Blk 186 [.pointer (some ⟨s, 0, none⟩), .int .i64 (at_ : Nat), .int .i64 ch, .int .i64 seen, pp, .bool d]
theorem refKept {b s w n : Nat} {S : SupS} {seen : Int} {pp : Value} {F1 : St} (hb : S.xs.length ≤ 100000000) [t1 : Take L (some ⟨b, 0, none⟩) (rtkV s n (-1) seen pp false) F1] [t2 : Take F1 (some ⟨s, 0, none⟩) (RSupO w S) G] :
  Fx Tryz.prog 182 [.pointer (some ⟨b, 0, none⟩)] L
   (fun v L' => v = .tuple #[] ∧ L' = rtkB b s n (if S.xs = [] then -1 else lastI S.xs) seen pp (decide (S.xs ≠ [])) :: pt (some ⟨s, 0, none⟩) (RSupO w S.kept) :: G) := by
 refine Fx.mk Tryz.func182 k182 nb_ ?_
 dsimp only [c182, kG, kS, kH, kM, kN, kF, kL, envOf, Nat.reduceAdd]
 refine Cx.ent (Ent.trans (Ent.of t1.out) (Ent.cons (Ent.of t2.out))) ?_
 refine Cx.openp (a := some ⟨s, 0, none⟩) rfl ?_
 rintro ⟨st, lm⟩
 simp only [rsupL, List.cons_append, List.nil_append]
 refine go ?_
 refine Sx.ca rfl (refTakeI (b := st) S.xs hb) ?_
 rintro v L' ⟨rfl, rfl⟩
 by_cases hx : S.xs = []
 ·rw [decide_eq_false (fun h => h hx), if_pos hx]
  refine go ?_
  refine Kr.none (.inl rfl) ?_ ⟨rfl, rfl⟩
  refine Ent.trans ?_ Ent.swap
  refine Ent.trans (RSupO.close (a := some ⟨s, 0, none⟩) (st := st) (lm := lm) (w := w) S.kept rfl rfl rfl) (Ent.cons ?_)
  exact ent
 ·rw [decide_eq_true hx, if_neg hx]
  refine go ?_
  refine Kr.none (.inl rfl) ?_ ⟨rfl, rfl⟩
  refine Ent.trans ?_ Ent.swap
  refine Ent.trans (RSupO.close (a := some ⟨s, 0, none⟩) (st := st) (lm := lm) (w := w) S.kept rfl rfl rfl) (Ent.cons ?_)
  exact ent
theorem refTakePop {b s w rm rp rs re n : Nat} {x : Cn} {S : SupS} {ch seen : Int} {pp : Value} {F1 F2 F3 : St} (hb : x.ba ≤ 8) [t1 : Take L (some ⟨b, 0, none⟩) (rtkV s n ch seen pp false) F1] [t2 : Take F1 (some ⟨s, 0, none⟩) (RSupO w S) F2] [t3 : Take F2 (some ⟨w, 0, none⟩) (RWO x rm rp rs re) F3] [t4 : Take F3 (some ⟨rp, 0, none⟩) (RSkO rm x.pool) G] :
  Fx Tryz.prog 183 [.pointer (some ⟨b, 0, none⟩)] L
   (fun v L' => ∃ p, v = .tuple #[] ∧ L' = rtkB b s 1 ch seen (.pointer (some ⟨p, 0, none⟩)) false :: pt (some ⟨p, 0, none⟩) (RPopO rp (PopS.init x.ba)) :: pt (some ⟨s, 0, none⟩) (RSupO w S) :: F2) := by
 refine Fx.mk Tryz.func183 k183 nb_ ?_
 dsimp only [c183, kG, kS, kH, kM, kN, kF, kL, envOf, Nat.reduceAdd]
 refine Cx.ent (Ent.trans (Ent.of t1.out) (Ent.cons (Ent.trans (Ent.of t2.out) (Ent.cons (Ent.trans (Ent.of t3.out) (Ent.cons (Ent.of t4.out))))))) ?_
 refine Cx.openp (a := some ⟨s, 0, none⟩) rfl ?_
 rintro ⟨st, lm⟩
 simp only [rsupL, List.cons_append, List.nil_append]
 refine Cx.orde rfl kr_ ?_
 refine ge ?_
 refine Ev.caH kr_ rfl rfl (refPopNew (sb := rp) (rm := rm) (k := x.pool) (x.ba : Int)) (Pres.deps kr_) ?_
 rintro v L' ⟨p, rfl, rfl⟩
 refine ge ?_
 refine Ev.stbH (b := b) kr_ rfl rfl rfl rfl rfl (by rfl) rfl (Pres.deps kr_) ?_
 refine ge ?_
 refine Ev.stbH (b := b) kr_ rfl rfl rfl rfl rfl (by rfl) rfl (Pres.deps kr_) ?_
 refine ge ?_
 refine Kr.none (.inl rfl) ?_ ⟨p, rfl, rfl⟩
 refine Ent.trans (Ent.take (a := some ⟨b, 0, none⟩)) (Ent.cons ?_)
 refine Ent.trans (Ent.take (a := some ⟨p, 0, none⟩)) (Ent.cons ?_)
 refine Ent.trans (RSupO.close (a := some ⟨s, 0, none⟩) (st := st) (lm := lm) (w := w) S rfl rfl rfl) (Ent.cons ?_)
 refine Ent.trans ?_ (Ent.of t3.back)
 refine Ent.trans ?_ (Ent.cons (Ent.of t4.back))
 exact ent
end
end Go.Proofs.YtflalhdofhobmaaGreat


namespace Go.Proofs.YtflalhdofhobmaaGreat
open Go
attribute [local irreducible] Sx Cx Rx Fx Krg Ksq Kbl Klp Kr
theorem holds_perm {L M : St} (p : L.Perm M) : ∀ {h : Hp}, holds L h → holds M h := by
 induction p with
 | nil => exact fun H => H
 | cons x _ ih => exact fun H => holds_cons (fun _ => ih) H
 | swap x y l => exact fun H => holds_swap H
 | trans _ _ ih1 ih2 => exact fun H => ih2 (ih1 H)
theorem Ent.perm {L M : St} (p : L.Perm M) : Ent L M := .of fun _ => holds_perm p
def many (n : Nat) (f : Nat → St) : St := (List.range n).flatMap f
def updS (f : Nat → St) (i : Nat) (s : St) : Nat → St := fun j => if j = i then s else f j
theorem Ent.deep {M N G : St} : Ent (N ++ (M ++ G)) (M ++ (N ++ G)) := by
 rw [← List.append_assoc, ← List.append_assoc]; exact .perm (List.perm_append_comm.append_right _)
theorem many_zero (f : Nat → St) : many 0 f = [] := rfl
theorem many_succ (n : Nat) (f : Nat → St) : many (n + 1) f = many n f ++ f n := by simp [many, List.range_succ]
theorem many_congr {n : Nat} {f g : Nat → St} (h : ∀ i, i < n → f i = g i) : many n f = many n g := by
 induction n with
 | zero => rfl
 | succ n ih => rw [many_succ, many_succ, ih fun i hi => h i (by omega), h n (by omega)]
theorem updS_same (f : Nat → St) (i : Nat) (s : St) : updS f i s i = s := if_pos rfl
theorem updS_ne (f : Nat → St) {i j : Nat} (s : St) (h : j ≠ i) : updS f i s j = f j := if_neg h
theorem updS_updS (f : Nat → St) (i : Nat) (s t : St) : updS (updS f i s) i t = updS f i t := by
 funext j; unfold updS; split <;> rfl
theorem many_perm {n : Nat} {f : Nat → St} : ∀ {i : Nat}, i < n → (many n f).Perm (f i ++ many n (updS f i [])) := by
 induction n with
 | zero => intro i h; omega
 | succ n ih =>
   intro i h
   rw [many_succ, many_succ]
   by_cases e : i = n
   ·subst e
    rw [updS_same, List.append_nil, many_congr (g := f) fun j hj => updS_ne f [] (by omega)]
    exact List.perm_append_comm
   ·rw [updS_ne f [] (show n ≠ i by omega), ← List.append_assoc]
    exact (ih (by omega)).append_right _
theorem Ent.one {n i : Nat} {f : Nat → St} {G : St} (h : i < n) : Ent (many n f ++ G) (f i ++ (many n (updS f i []) ++ G)) := by
 rw [← List.append_assoc]; exact .perm ((many_perm h).append_right _)
theorem Ent.oneBack {n i : Nat} {f : Nat → St} {s : St} {G : St} (h : i < n) : Ent (s ++ (many n (updS f i []) ++ G)) (many n (updS f i s) ++ G) := by
 have := (many_perm (f := updS f i s) h).append_right G
 rw [updS_same, updS_updS, List.append_assoc] at this
 exact .perm this.symm
theorem Ent.app {A B X : St} (h : Ent A B) : Ent (X ++ A) (X ++ B) := by
 induction X with
 | nil => exact h
 | cons P X ih => exact Ent.cons ih
theorem Ent.dropA {A B : St} : Ent (A ++ B) B := by
 induction A with
 | nil => exact Ent.refl _
 | cons P X ih => exact Ent.trans Ent.drop ih
class Many (L : St) (n : outParam Nat) (f : outParam (Nat → St)) (N G : outParam St) : Prop where
 eq : L = N ++ (many n f ++ G)
instance (priority := high) Many.here (n : Nat) (f : Nat → St) (G : St) : Many (many n f ++ G) n f [] G := ⟨rfl⟩
instance Many.there (P : As) (L : St) (n : Nat) (f : Nat → St) (N G : St) [t : Many L n f N G] : Many (P :: L) n f (P :: N) G := ⟨by rw [t.eq]; rfl⟩
theorem Ent.ith {L : St} {n : Nat} {f : Nat → St} {N G : St} [t : Many L n f N G] (i : Nat) (h : i < n) : Ent L (f i ++ (N ++ (many n (updS f i []) ++ G))) := by
 rw [t.eq]
 exact Ent.trans Ent.deep (Ent.trans (Ent.one h) (Ent.app Ent.deep))
theorem entm {L M : St} (h : Ent L M := by repeat (first | exact Ent.refl _ | (refine Ent.take1 ?_) | (refine Ent.trans Ent.drop ?_) | (refine Ent.trans Ent.dropA ?_))) : Ent L M := h
theorem updS_id (f : Nat → St) (i : Nat) : updS f i (f i) = f := by
 funext j; unfold updS; split
 ·rename_i h; rw [h]
 ·rfl
def ptrs (n : Nat) (U : Nat → Nat) : List Value := (List.range n).map fun i => .pointer (some ⟨U i, 0, none⟩)
theorem ptrs_succ (n : Nat) (U : Nat → Nat) : ptrs (n + 1) U = ptrs n U ++ [.pointer (some ⟨U n, 0, none⟩)] := by simp [ptrs, List.range_succ]
theorem ptrs_get {n i : Nat} {U : Nat → Nat} (h : i < n) : (ptrs n U)[i]? = some (.pointer (some ⟨U i, 0, none⟩)) := by simp [ptrs, h]
theorem ptrs_congr {n : Nat} {U V : Nat → Nat} (h : ∀ i, i < n → U i = V i) : ptrs n U = ptrs n V := by
 unfold ptrs
 refine List.map_congr_left fun i hi => ?_
 rw [h i (List.mem_range.1 hi)]
structure Who where
 u : Nat
 pb : Nat
 s : Nat
section
variable {L F G : St}
def whoL (mp w : Nat) (x : Cn) (q : Who) (S S2 : SupS) : St :=
 [pt (some ⟨q.u, 0, none⟩) (SupO mp q.pb x S), pt (some ⟨q.pb, 0, none⟩) (SkO mp x.pool), pt (some ⟨q.s, 0, none⟩) (RSupO w S2)]
end
end Go.Proofs.YtflalhdofhobmaaGreat


namespace Go.Proofs.YtflalhdofhobmaaGreat
structure Rt where
 gen : Nat
 mrk : Nat
 cl : Nat
 off : Nat
def rtOf (w : Nat) : Rt := ⟨w / 4294967296, w / 65536 % 65536, w / 4096 % 16, w % 4096⟩
def Rt.w (r : Rt) : Nat := r.gen * 4294967296 + r.mrk * 65536 + r.cl * 4096 + r.off
structure Rt.ok (r : Rt) : Prop where
 g : r.gen < 4294967296
 m : r.mrk ≤ 4097
 c : r.cl ≤ 3
 o : r.off ≤ 1024
theorem rtOf_w {r : Rt} (h : r.ok) : rtOf r.w = r := by
 obtain ⟨g, m, c, o⟩ := r
 obtain ⟨h1, h2, h3, h4⟩ := h
 dsimp only at h1 h2 h3 h4
 unfold rtOf Rt.w
 dsimp only
 rw [show (g * 4294967296 + m * 65536 + c * 4096 + o) / 4294967296 = g by omega, show (g * 4294967296 + m * 65536 + c * 4096 + o) / 65536 % 65536 = m by omega,
  show (g * 4294967296 + m * 65536 + c * 4096 + o) / 4096 % 16 = c by omega, show (g * 4294967296 + m * 65536 + c * 4096 + o) % 4096 = o by omega]
theorem Rt.w_lt {r : Rt} (h : r.ok) : r.w < 18446744073709551616 := by
 obtain ⟨h1, h2, h3, h4⟩ := h
 unfold Rt.w; omega
theorem rtOf_gen {w : Nat} (h : w < 18446744073709551616) : (rtOf w).gen < 4294967296 := by show w / 4294967296 < _; omega
theorem rtOf_mrk (w : Nat) : (rtOf w).mrk < 65536 := by show w / 65536 % 65536 < _; omega
theorem rtOf_cl (w : Nat) : (rtOf w).cl < 16 := by show w / 4096 % 16 < _; omega
theorem rtOf_off (w : Nat) : (rtOf w).off < 4096 := by show w % 4096 < _; omega
theorem rt_zero_ok : (rtOf 0).ok := ⟨by decide, by decide, by decide, by decide⟩
def Rt.live (r : Rt) (gen : Int) : Prop := 1 ≤ r.mrk ∧ (r.gen : Int) = gen
instance (r : Rt) (gen : Int) : Decidable (r.live gen) := by unfold Rt.live; infer_instance
def Rt.chunk (r : Rt) : Int := if r.mrk < 2 then -1 else (r.mrk : Int) - 2
def roundS (cl n : Nat) : Nat := (n + 2 ^ cl - 1) / 2 ^ cl * 2 ^ cl
def fitsS (wd off need : Nat) : Prop := 2 * need ≤ wd ∧ off + need ≤ wd
instance (wd off need : Nat) : Decidable (fitsS wd off need) := by unfold fitsS; infer_instance
def afterS (wd need : Nat) : Nat := if wd < 2 * need then wd else need
theorem roundS_cases {cl n : Nat} (h : cl ≤ 3) : (cl = 0 ∧ roundS cl n = n) ∨ (cl = 1 ∧ roundS cl n = (n + 1) / 2 * 2) ∨ (cl = 2 ∧ roundS cl n = (n + 3) / 4 * 4) ∨ (cl = 3 ∧ roundS cl n = (n + 7) / 8 * 8) := by
 rcases (show cl = 0 ∨ cl = 1 ∨ cl = 2 ∨ cl = 3 by omega) with rfl | rfl | rfl | rfl
 ·exact .inl ⟨rfl, by unfold roundS; omega⟩
 ·exact .inr (.inl ⟨rfl, by unfold roundS; omega⟩)
 ·exact .inr (.inr (.inl ⟨rfl, by unfold roundS; omega⟩))
 ·exact .inr (.inr (.inr ⟨rfl, by unfold roundS; omega⟩))
theorem roundS_le {cl n wd : Nat} (h : cl ≤ 3) (hn : n ≤ wd) (hw : wd % 8 = 0) : roundS cl n ≤ wd := by
 rcases roundS_cases (n := n) h with h | h | h | h <;> omega
theorem roundS_ge {cl n : Nat} (h : cl ≤ 3) : n ≤ roundS cl n := by
 rcases roundS_cases (n := n) h with h | h | h | h <;> omega
theorem roundS_lt {cl n : Nat} (h : cl ≤ 3) : roundS cl n < n + 8 := by
 rcases roundS_cases (n := n) h with h | h | h | h <;> omega
theorem afterS_le {wd need : Nat} (h : need ≤ wd) : afterS wd need ≤ wd := by unfold afterS; split <;> omega
structure CreS where
 at_ : Nat
 cnt : Nat
 slot : Int
 point : Nat
 was : Nat
 code : Nat
 q : PopS
 done : Bool
def CreS.init : CreS := ⟨0, 0, -1, 0, 0, 0, PopS.init 1, false⟩
def nextRt (cl w : Nat) : Rt := ⟨laterT (rtOf w).gen, 1, cl, 0⟩
theorem nextRt_ok {cl w : Nat} (h : w < 18446744073709551616) (hc : cl ≤ 3) : (nextRt cl w).ok := ⟨laterT_lt (rtOf_gen h), by show 1 ≤ 4097; omega, hc, by show 0 ≤ 1024; omega⟩
def crPopped (c : CreS) : CreS :=
 match c.q.got with
 | [] => { c with point := c.cnt, code := 7, done := true }
 | s :: _ => { c with point := c.cnt, slot := s, at_ := 1 }
def crStep (k : Sk) (ro cl : Nat) (m : Mm) (c : CreS) : CreS × Mm :=
 if c.done then (c, m) else
 match c.at_ with
 | 0 => if (popStep k m c.q).1.done then (crPopped { c with cnt := c.cnt + 1, q := (popStep k m c.q).1 }, (popStep k m c.q).2) else ({ c with cnt := c.cnt + 1, q := (popStep k m c.q).1 }, (popStep k m c.q).2)
 | 1 => ({ c with cnt := c.cnt + 1, was := m.at_ (ro + c.slot.toNat), at_ := 2 }, m.tick)
 | _ => ({ c with cnt := c.cnt + 1, done := true }, m.put (ro + c.slot.toNat) (nextRt cl c.was).w)
structure CreS.ok (k : Sk) (c : CreS) : Prop where
 a : c.at_ ≤ 2
 q : c.q.ok k
 w : c.was < 18446744073709551616
 s : c.at_ ≠ 0 → 0 ≤ c.slot ∧ c.slot < k.n
 n : c.cnt ≤ 1000000
def crIt (k : Sk) (ro cl : Nat) : Nat → CreS × Mm → CreS × Mm
 | 0, r => r
 | j + 1, r => crStep k ro cl (crIt k ro cl j r).2 (crIt k ro cl j r).1
structure EndS where
 at_ : Nat
 cnt : Nat
 was : Nat
 code : Nat
 chunk : Int
 point : Nat
 done : Bool
def EndS.init : EndS := ⟨0, 0, 0, 0, -1, 0, false⟩
def endStep (a : Nat) (gen : Int) (m : Mm) (e : EndS) : EndS × Mm :=
 if e.done then (e, m) else
 match e.at_ with
 | 0 => (if (rtOf (m.at_ a)).live gen then { e with cnt := e.cnt + 1, was := m.at_ a, at_ := 1 } else { e with cnt := e.cnt + 1, was := m.at_ a, code := 3, point := e.cnt + 1, done := true }, m.tick)
 | _ => (if m.at_ a = e.was then { e with cnt := e.cnt + 1, chunk := (rtOf e.was).chunk, point := e.cnt + 1, done := true } else { e with cnt := e.cnt + 1, at_ := 0 }, m.cas a e.was (Rt.w ⟨(rtOf e.was).gen, 0, 0, 0⟩))
structure Hd where
 slot : Int
 gen : Int
 chunk : Int
 off : Int
 len : Int
def Hd.zero : Hd := ⟨0, 0, 0, 0, 0⟩
structure AlV where
 cnt : Nat
 hand : Int
 zat : Nat
 asked : Bool
 ends : Bool
 need : Nat
 point : Nat
 was : Nat
 code : Nat
 obj : Hd
structure AlS where
 at_ : Nat
 v : AlV
 t : TakeS
 g : PushS
 done : Bool
def AlV.init : AlV := ⟨0, -1, 0, false, false, 0, 0, 0, 0, Hd.zero⟩
end Go.Proofs.YtflalhdofhobmaaGreat


namespace Go.Proofs.YtflalhdofhobmaaGreat
open Go
attribute [local irreducible] Sx Cx Rx Fx Krg Ksq Kbl Klp Kr
section
variable {L F G : St}
abbrev rtL (r : Rt) : List Value := [.int .i64 (r.gen : Nat), .int .i64 (r.mrk : Nat), .int .i64 (r.cl : Nat), .int .i64 (r.off : Nat)]
abbrev rtV (r : Rt) : Value := .agg #[.int .i64 (r.gen : Nat), .int .i64 (r.mrk : Nat), .int .i64 (r.cl : Nat), .int .i64 (r.off : Nat)]
theorem getRoot (w : Nat) (hw : w < 18446744073709551616) : Fx Tryz.prog 93 [wd w] L (fun v L' => v = rtV (rtOf w) ∧ L = L') := by
 refine Fx.mk Tryz.func93 k93 nb_ ?_
 dsimp only [c93, kG, kS, kH, kM, kN, kF, kL, envOf, Nat.reduceAdd]
 refine Cx.sq ?_
 refine Cx.rg ?_
 refine Sx.al fun g => ?_
 refine go ?_
 refine Sx.ca rfl (bitsGet w 32 32 hw (by omega) (by omega)) ?_
 rintro v L' ⟨rfl, rfl⟩
 refine go ?_
 refine Sx.ca rfl (bitsGet w 16 16 hw (by omega) (by omega)) ?_
 rintro v L' ⟨rfl, rfl⟩
 refine go ?_
 refine Sx.ca rfl (bitsGet w 12 4 hw (by omega) (by omega)) ?_
 rintro v L' ⟨rfl, rfl⟩
 refine go ?_
 refine Sx.ca rfl (bitsGet w 0 12 hw (by omega) (by omega)) ?_
 rintro v L' ⟨rfl, rfl⟩
 refine go ?_
 have e1 : w / 2 ^ 32 % 2 ^ 32 = (rtOf w).gen := by show _ = w / 4294967296; omega
 have e2 : w / 2 ^ 16 % 2 ^ 16 = (rtOf w).mrk := rfl
 have e3 : w / 2 ^ 12 % 2 ^ 4 = (rtOf w).cl := rfl
 have e4 : w / 2 ^ 0 % 2 ^ 12 = (rtOf w).off := by show _ = w % 4096; omega
 have h1 := rtOf_gen hw
 have h2 := rtOf_mrk w
 have h3 := rtOf_cl w
 have h4 := rtOf_off w
 rw [e1, e2, e3, e4, w64 (n := ((rtOf w).gen : Int)) (by omega) (by omega), w64 (n := ((rtOf w).mrk : Int)) (by omega) (by omega), w64 (n := ((rtOf w).cl : Int)) (by omega) (by omega), w64 (n := ((rtOf w).off : Int)) (by omega) (by omega)]
 refine Sx.st (b := g) rfl rfl rfl rfl rfl rfl ?_
 dsimp only [lay]
 refine go ?_
 exact Kr_cell (b := g) (.inr rfl) rfl rfl (L' := L) Ent.drop ⟨rfl, rfl⟩
set_option maxHeartbeats 1000000 in
theorem putRoot (r : Rt) (h : r.ok) : Fx Tryz.prog 227 [rtV r] L (fun v L' => v = .tuple #[wd r.w, .bool true] ∧ L = L') := by
 obtain ⟨h1, h2, h3, h4⟩ := h
 refine Fx.mk Tryz.func227 k227 nb_ ?_
 dsimp only [c227, kG, kS, kH, kM, kN, kF, kL, envOf, Nat.reduceAdd]
 refine Cx.sq ?_
 refine Cx.rg ?_
 refine Sx.bx rfl rfl fun g => ?_
 refine go ?_
 iterate 4
  refine Sx.ca rfl (wordWithin _ _ _ (by omega) (by omega)) ?_
  rintro v L' ⟨rfl, rfl⟩
  refine go ?_
 rw [wrap64 (n := r.off) (by omega)]
 refine Sx.ca rfl (bitsPut 0 0 12 r.off (by omega) (by omega) (by omega) (by omega)) ?_
 rintro v L' ⟨rfl, rfl⟩
 refine go ?_
 rw [wrap64 (n := r.cl) (by omega)]
 refine Sx.ca rfl (bitsPut (r.off * 2 ^ 0 + 0) 12 4 r.cl (by omega) (by omega) (by omega) (by omega)) ?_
 rintro v L' ⟨rfl, rfl⟩
 refine go ?_
 rw [wrap64 (n := r.mrk) (by omega)]
 refine Sx.ca rfl (bitsPut (r.cl * 2 ^ 12 + (r.off * 2 ^ 0 + 0)) 16 16 r.mrk (by omega) (by omega) (by omega) (by omega)) ?_
 rintro v L' ⟨rfl, rfl⟩
 refine go ?_
 rw [wrap64 (n := r.gen) (by omega)]
 refine Sx.ca rfl (bitsPut (r.mrk * 2 ^ 16 + (r.cl * 2 ^ 12 + (r.off * 2 ^ 0 + 0))) 32 32 r.gen (by omega) (by omega) (by omega) (by omega)) ?_
 rintro v L' ⟨rfl, rfl⟩
 refine go ?_
 refine Kr.two (.inr rfl) rfl rfl Ent.drop ⟨?_, rfl⟩
 rw [show r.gen * 2 ^ 32 + (r.mrk * 2 ^ 16 + (r.cl * 2 ^ 12 + (r.off * 2 ^ 0 + 0))) = r.w by unfold Rt.w; omega]
theorem wordLive (r : Rt) (gen : Int) : Fx Tryz.prog 152 [rtV r, .int .i64 gen] L (fun v L' => v = .bool (decide (r.live gen)) ∧ L = L') := by
 refine Fx.mk Tryz.func152 k152 nb_ ?_
 dsimp only [c152, kG, kS, kH, kM, kN, kF, kL, envOf, Nat.reduceAdd]
 refine Cx.sq ?_
 refine Cx.rg ?_
 refine Sx.bx rfl rfl fun g => ?_
 refine go ?_
 refine Sx.ifp rfl (fun h => ?_) (fun h => ?_)
 ·refine go ?_
  refine Kr.one (.inr rfl) rfl Ent.drop ⟨congrArg Value.bool (decide_eq_decide.2 ?_), rfl⟩
  unfold Rt.live
  omega
 ·refine go ?_
  refine Kr.one (.inr rfl) rfl Ent.drop ⟨congrArg Value.bool (decide_eq_false (fun hh => h ?_)).symm, rfl⟩
  have := hh.1
  omega
theorem wordChunk (r : Rt) (h : r.mrk < 65536) : Fx Tryz.prog 213 [rtV r] L (fun v L' => v = .int .i64 r.chunk ∧ L = L') := by
 refine Fx.mk Tryz.func213 k213 nb_ ?_
 dsimp only [c213, kG, kS, kH, kM, kN, kF, kL, envOf, Nat.reduceAdd]
 refine Cx.sq ?_
 refine Cx.rg ?_
 refine Sx.bx rfl rfl fun g => ?_
 refine go ?_
 refine Cx.ifp rfl (fun h => ?_) (fun h => ?_)
 ·refine go ?_
  refine Kr.one (.inr rfl) rfl Ent.drop ⟨congrArg (Value.int .i64) ?_, rfl⟩
  unfold Rt.chunk
  rw [if_pos (by omega)]
 ·refine go ?_
  rw [w64 (n := (r.mrk : Int) - 2) (by omega) (by omega)]
  refine Kr.one (.inr rfl) rfl Ent.drop ⟨congrArg (Value.int .i64) ?_, rfl⟩
  unfold Rt.chunk
  rw [if_neg (by omega)]
theorem sizeRound (cl n : Nat) (hc : cl ≤ 3) (hn : 1 ≤ n) (hn2 : n ≤ 1024) : Fx Tryz.prog 154 [.int .i64 cl, .int .i64 n] L (fun v L' => v = .int .i64 (roundS cl n : Nat) ∧ L = L') := by
 refine Fx.mk Tryz.func154 k154 nb_ ?_
 dsimp only [c154, kG, kS, kH, kM, kN, kF, kL, envOf, Nat.reduceAdd]
 have hr := roundS_cases (n := n) hc
 refine go ?_
 refine Sx.gyes rfl (decide_eq_false (by omega)) ?_
 refine go ?_
 refine Cx.cno rfl (decide_eq_false (by omega)) ?_
 refine go ?_
 have e1 : (bif true then (if (cl : Int) < 0 then (0 : Int) else (cl : Int)) else (if (0 : Int) < (cl : Int) then (0 : Int) else (cl : Int))) = cl := by
  rw [cond_true, if_neg (by omega)]
 have e2 : (bif false then (if (cl : Int) < 3 then (3 : Int) else (cl : Int)) else (if (3 : Int) < (cl : Int) then (3 : Int) else (cl : Int))) = cl := by
  rw [cond_false, if_neg (by omega)]
 rw [e1, e2]
 refine Sx.pv rfl (by omega) ?_
 have hp : 1 ≤ 2 ^ cl ∧ 2 ^ cl ≤ 8 := by rcases (show cl = 0 ∨ cl = 1 ∨ cl = 2 ∨ cl = 3 by omega) with rfl | rfl | rfl | rfl <;> decide
 have e3 : min (cl : Int).toNat IntKind.i64.bits = cl := by rw [Int.toNat_natCast]; exact Nat.min_eq_left (by show cl ≤ 64; omega)
 obtain ⟨P, hP⟩ : ∃ P, P = 2 ^ cl := ⟨_, rfl⟩
 rw [← hP] at hp
 rw [e3, show (1 : Int) * 2 ^ cl = ((2 ^ cl : Nat) : Int) by push_cast; omega, ← hP, w64 (n := (P : Int)) (by omega) (by omega)]
 refine go ?_
 rw [w64 (n := (n : Int) + P) (by omega) (by omega), w64 (n := (n : Int) + P - 1) (by omega) (by omega)]
 refine Sx.pv rfl (by omega) ?_
 have e4 : Int.tdiv ((n : Int) + P - 1) P = (((n + P - 1) / P : Nat) : Int) := by
  rw [show (n : Int) + P - 1 = ((n + P - 1 : Nat) : Int) by omega]; rfl
 have e5 : (n + P - 1) / P * P ≤ n + P - 1 := Nat.div_mul_le_self _ _
 have e6 : (n + P - 1) / P ≤ n + P - 1 := Nat.div_le_self _ _
 have e7 : roundS cl n = (n + P - 1) / P * P := by unfold roundS; rw [hP]
 have e8 : (((n + P - 1) / P : Nat) : Int) * (P : Int) = (((n + P - 1) / P * P : Nat) : Int) := by push_cast; rfl
 obtain ⟨D, hD⟩ : ∃ D, (n + P - 1) / P = D := ⟨_, rfl⟩
 rw [hD] at e4 e5 e6 e7 e8
 obtain ⟨E, hE⟩ : ∃ E, D * P = E := ⟨_, rfl⟩
 rw [hE] at e5 e7 e8
 rw [e4, w64 (n := (D : Int)) (by omega) (by omega)]
 refine go ?_
 rw [e8, w64 (n := (E : Int)) (by omega) (by omega), ← e7]
 exact Kr.one (.inr rfl) rfl (Ent.refl _) ⟨rfl, rfl⟩
theorem sizeRight (wd need : Nat) (hw : 1 ≤ wd) (hw2 : wd ≤ 1024) (hn : 1 ≤ need) (hn2 : need ≤ wd) : Fx Tryz.prog 210 [.int .i64 wd, .int .i64 need] L (fun v L' => v = .bool true ∧ L = L') := by
 refine Fx.mk Tryz.func210 k210 nb_ ?_
 dsimp only [c210, kG, kS, kH, kM, kN, kF, kL, envOf, Nat.reduceAdd]
 refine go ?_
 iterate 3 (refine Sx.gyes rfl (decide_eq_true (by omega)) ?_; refine go ?_)
 refine Kr.one (.inr rfl) rfl (Ent.refl _) ⟨congrArg Value.bool (decide_eq_true (by omega)), rfl⟩
theorem sizeAlone (wd need : Nat) (hw : 1 ≤ wd) (hw2 : wd ≤ 1024) (hn : 1 ≤ need) (hn2 : need ≤ wd) : Fx Tryz.prog 211 [.int .i64 wd, .int .i64 need] L (fun v L' => v = .bool (decide (wd < 2 * need)) ∧ L = L') := by
 refine Fx.mk Tryz.func211 k211 nb_ ?_
 dsimp only [c211, kG, kS, kH, kM, kN, kF, kL, envOf, Nat.reduceAdd]
 refine go ?_
 refine Sx.ca rfl (sizeRight wd need hw hw2 hn hn2) ?_
 rintro v L' ⟨rfl, rfl⟩
 refine go ?_
 rw [w64 (n := 2 * (need : Int)) (by omega) (by omega)]
 refine Kr.one (.inr rfl) rfl (Ent.refl _) ⟨congrArg Value.bool (decide_eq_decide.2 (by omega)), rfl⟩
theorem sizeFits (wd off need : Nat) (hw : 1 ≤ wd) (hw2 : wd ≤ 1024) (hn : 1 ≤ need) (hn2 : need ≤ wd) : Fx Tryz.prog 155 [.int .i64 wd, .int .i64 off, .int .i64 need] L (fun v L' => v = .bool (decide (fitsS wd off need)) ∧ L = L') := by
 refine Fx.mk Tryz.func155 k155 nb_ ?_
 dsimp only [c155, kG, kS, kH, kM, kN, kF, kL, envOf, Nat.reduceAdd]
 refine go ?_
 refine Sx.ca rfl (sizeRight wd need hw hw2 hn hn2) ?_
 rintro v L' ⟨rfl, rfl⟩
 refine go ?_
 refine Sx.ca rfl (sizeAlone wd need hw hw2 hn hn2) ?_
 rintro v L' ⟨rfl, rfl⟩
 by_cases h : wd < 2 * need
 ·rw [decide_eq_true h]
  refine go ?_
  refine Kr.one (.inr rfl) rfl (Ent.refl _) ⟨congrArg Value.bool (decide_eq_false (fun hh => ?_)).symm, rfl⟩
  have := hh.1; omega
 ·rw [decide_eq_false h]
  refine go ?_
  rw [w64 (n := (wd : Int) - need) (by omega) (by omega)]
  refine Kr.one (.inr rfl) rfl (Ent.refl _) ⟨congrArg Value.bool (decide_eq_decide.2 ?_), rfl⟩
  unfold fitsS; omega
theorem sizeAfter (wd need : Nat) (hw : 1 ≤ wd) (hw2 : wd ≤ 1024) (hn : 1 ≤ need) (hn2 : need ≤ wd) : Fx Tryz.prog 247 [.int .i64 wd, .int .i64 need] L (fun v L' => v = .int .i64 (afterS wd need : Nat) ∧ L = L') := by
 refine Fx.mk Tryz.func247 k247 nb_ ?_
 dsimp only [c247, kG, kS, kH, kM, kN, kF, kL, envOf, Nat.reduceAdd]
 refine go ?_
 refine Sx.ca rfl (sizeRight wd need hw hw2 hn hn2) ?_
 rintro v L' ⟨rfl, rfl⟩
 refine go ?_
 refine Sx.ca rfl (sizeAlone wd need hw hw2 hn hn2) ?_
 rintro v L' ⟨rfl, rfl⟩
 by_cases h : wd < 2 * need
 ·rw [decide_eq_true h]
  refine go ?_
  refine Kr.one (.inr rfl) rfl (Ent.refl _) ⟨by unfold afterS; rw [if_pos h], rfl⟩
 ·rw [decide_eq_false h]
  refine go ?_
  refine Kr.one (.inr rfl) rfl (Ent.refl _) ⟨by unfold afterS; rw [if_neg h], rfl⟩
def Cn.root (x : Cn) : Nat := 3 + x.w
def Cn.word (x : Cn) : Nat := 3 + x.w + x.sl + x.sl + x.c
theorem layRootN {x : Cn} (h : x.ok) (n : Nat) (hn : n < x.sl) : Fx Tryz.prog 94 [x.v, .int .i64 n] L (fun v L' => v = .int .i64 ((x.root + n : Nat) : Int) ∧ L = L') := by
 refine (layRoot _ _ _ _ _ _ h (n : Int)).mono ?_
 rintro v L' ⟨rfl, rfl⟩
 refine ⟨congrArg (Value.int .i64) ?_, rfl⟩
 unfold cellC
 rw [if_pos ⟨by omega, by simp only [manyC]; omega⟩]
 simp only [startC, Cn.root]
 push_cast; rfl
theorem laySlotN {x : Cn} (h : x.ok) (n : Nat) (hn : n < x.sl) : Fx Tryz.prog 140 [x.v, .int .i64 n] L (fun v L' => v = .int .i64 ((x.slot + n : Nat) : Int) ∧ L = L') := by
 refine (laySlot _ _ _ _ _ _ h (n : Int)).mono ?_
 rintro v L' ⟨rfl, rfl⟩
 refine ⟨congrArg (Value.int .i64) ?_, rfl⟩
 unfold cellC
 rw [if_pos ⟨by omega, by simp only [manyC]; omega⟩]
 simp only [startC, Cn.slot]
 push_cast; rfl
theorem layWordN {x : Cn} (h : x.ok) (k j : Nat) (hk : k < x.c) (hj : j < x.wd) : Fx Tryz.prog 24 [x.v, .int .i64 k, .int .i64 j] L (fun v L' => v = .int .i64 ((x.word + k * x.wd + j : Nat) : Int) ∧ L = L') := by
 have hmay : MayC (x.w : Int) x.c x.wd x.sl x.ca x.ba := h
 have hm := MayC.mul hmay
 have hlt : k * x.wd + j < x.c * x.wd := by
  have h1 : (k + 1) * x.wd ≤ x.c * x.wd := Nat.mul_le_mul_right _ hk
  rw [Nat.succ_mul] at h1
  omega
 have hcast : ((x.c * x.wd : Nat) : Int) = (x.c : Int) * x.wd := by push_cast; rfl
 have hcast2 : ((k * x.wd : Nat) : Int) = (k : Int) * x.wd := by push_cast; rfl
 refine Fx.mk Tryz.func24 k24 nb_ ?_
 dsimp only [c24, kG, kS, kH, kM, kN, kF, kL, envOf, Nat.reduceAdd]
 refine Cx.sq ?_
 refine Cx.rg ?_
 refine Sx.bx rfl rfl fun g => ?_
 refine go ?_
 obtain ⟨b1, b2, b3, b4, b5, b6, b7⟩ := hmay
 rw [w64 (n := (x.c : Int) - 1) (by omega) (by omega)]
 refine Sx.ca rfl (within_ (k : Int) 0 ((x.c : Int) - 1)) ?_
 rintro v L' ⟨rfl, rfl⟩
 rw [decide_eq_true (show (0 : Int) ≤ k ∧ (k : Int) ≤ (x.c : Int) - 1 by omega)]
 refine go ?_
 rw [w64 (n := (x.wd : Int) - 1) (by omega) (by omega)]
 refine Sx.ca rfl (within_ (j : Int) 0 ((x.wd : Int) - 1)) ?_
 rintro v L' ⟨rfl, rfl⟩
 rw [decide_eq_true (show (0 : Int) ≤ j ∧ (j : Int) ≤ (x.wd : Int) - 1 by omega)]
 refine go ?_
 refine Sx.ca rfl (may_ (x.w : Int) x.c x.wd x.sl x.ca x.ba) ?_
 rintro v L' ⟨rfl, rfl⟩
 rw [decide_eq_true (show MayC (x.w : Int) x.c x.wd x.sl x.ca x.ba from h)]
 refine go ?_
 rw [w64 (n := (k : Int) * x.wd) (by omega) (by omega), w64 (n := (k : Int) * x.wd + j) (by omega) (by omega)]
 refine Sx.ca rfl (layCell _ _ _ _ _ _ h 4 (by omega) ((k : Int) * x.wd + j) _ (by omega)) ?_
 rintro v L' ⟨rfl, rfl⟩
 refine go ?_
 refine Kr.one (.inr rfl) rfl Ent.drop ⟨congrArg (Value.int .i64) ?_, rfl⟩
 unfold cellC
 rw [if_pos ⟨by omega, by simp only [manyC]; omega⟩]
 simp only [startC, Cn.word]
 push_cast; omega
end
end Go.Proofs.YtflalhdofhobmaaGreat


namespace Go.Proofs.YtflalhdofhobmaaGreat
open Go
section
variable {P : Program} {N : Nat} {e : En} {L F : St}
theorem cRs_tc {rs : List ResultVar} {t u n : Nat} {g : Bool} (h : cRs P rs = some [.t t, .c u n g]) : ∃ ty, rs = [.tmp t, .cell u ty] ∧ szT P ty = some n ∧ isAggT P ty = some g := by
 match rs with
 | [] => simp [cRs] at h
 | r :: l =>
   simp only [cRs] at h
   split at h
   ·rename_i r' hr
    split at h
    ·rename_i l' hl
     simp only [Option.some.injEq, List.cons.injEq] at h
     obtain ⟨rfl, rfl⟩ := h
     obtain ⟨ty, rfl, h1, h2⟩ := cRs_cell hl
     cases r with
     | tmp t' => simp [cR] at hr; exact ⟨ty, by rw [hr], h1, h2⟩
     | cell a t' => simp only [cR] at hr; split at hr <;> cases hr
    ·cases h
   ·cases h
theorem Rv_tc {t u n b off : Nat} {x : Value} {vs : List Value} (hx : e.get t = some x) (h : e.get u = some (.pointer (some ⟨b, off, none⟩))) (hh : Has L b off vs) (hn : Nat.beq vs.length n = true) : Rv P N [.t t, .c u n true] e L (.tuple #[x, .agg vs.toArray]) := by
 intro fn a w0 w hr ok s
 obtain ⟨ty, hres, hs, hg⟩ := cRs_tc hr
 have hr2 : fn.results = #[.tmp t, .cell u ty] := by apply Array.ext'; simpa using hres
 have ht := ok.get _ _ h
 have ht2 := ok.get _ _ hx
 have hc := hh w0 w s
 have hn := Nat.eq_of_beq_eq_true hn
 have hl := run_loadCells_list (P := P) w ⟨b, off, none⟩ vs (fun j v hj => by rw [partPlace]; exact hc j v hj)
 rw [hn] at hl
 simp [results, hr2, ht, ht2, loadVar, isAggT_eq hg, szT_eq hs, hl, asAddr]
theorem Kr_tc {R : Value → St → Prop} {t u n b : Nat} {v : Value} {T : TypeId} {cs : List Value} {x : Ex} [i : Take L (some ⟨b, 0, none⟩) (Blk T cs) F] (hx : x = .nm ∨ x = .rt) (hv : e.get t = some v) (h : e.get u = some (.pointer (some ⟨b, 0, none⟩))) (hn : Nat.beq cs.length n = true)
  {L' : St} (hL : Ent L L') (hR : R (.tuple #[v, .agg cs.toArray]) L') : Kr P N [.t t, .c u n true] R x e L := by
 have hn' := Nat.eq_of_beq_eq_true hn
 have e1 : (cs.drop 0).take n = cs := by simp [← hn']
 have hb : Has L b 0 cs := by
  have := Has.blk (T := T) (cs := cs) (n := n) (off := 0) (L := L) (b := b)
  rw [e1] at this; exact this
 exact ⟨hx, _, L', Rv_tc hv h hb hn, hL, hR⟩
end
section
variable {P : Program} {N : Nat} {Kf : En → St → Prop} {r : List It} {ms : List (Nat × (St → Prop))} {e : En} {L F : St} {i ds : Nat} {rs : List Nat} {d : Option Nat} {g : Option (Nat × Bool)}
theorem Ev.stnH {x v : X} {b off n : Nat} {T : TypeId} {cs vs : List Value} (ds' : List Value) {u : Value} [t : Take L (some ⟨b, 0, none⟩) (Blk T cs) F] (hd : lastly i r = true) (hg : gon (e.only rs) g = true)
  (hx : x.get (e.only rs) = some (.pointer (some ⟨b, off, none⟩))) (hv : v.get (e.only rs) = some u) (hu : cellsOf u = some vs) (hn : vs.length = n) (h1 : ones vs = true) (hl : Nat.ble (off + n) cs.length = true) (hds : lay cs off vs = ds')
  (hp : Pres ds (fun v L' => v = undef ∧ L' = pt (some ⟨b, 0, none⟩) (Blk T ds') :: F) ms)
  (k : Ev P N Kf r ms (e.put d undef) (pt (some ⟨b, 0, none⟩) (Blk T ds') :: F)) : Ev P N Kf (⟨i, ds, rs, ⟨d, g, .st x v n⟩⟩ :: r) ms e L := by
 subst hds
 exact .genH hd hp hg (fun e' hs K kk => Sx.st (t := t) (X.get_sub hx hs) (X.get_sub hv hs) hu hn h1 hl (Sx.nil (kk _ _ ⟨rfl, rfl⟩)))
  (fun v L' ⟨e1, e2⟩ => by subst e1; subst e2; exact k)
end
end Go.Proofs.YtflalhdofhobmaaGreat


namespace Go.Proofs.YtflalhdofhobmaaGreat
open Go
attribute [local irreducible] Sx Cx Rx Fx Krg Ksq Kbl Klp Kr
section
variable {L F G : St}
theorem machCount {b : Nat} {T : TypeId} {nx z1 z2 z3 : Value} {cnt : Int} {rest : List Value} [t : Take L (some ⟨b, 0, none⟩) (Blk T (nx :: z1 :: z2 :: z3 :: .int .i64 cnt :: rest)) F] : Fx Tryz.prog 175 [.pointer (some ⟨b, 0, none⟩)] L (fun v L' => v = .int .i64 cnt ∧ L = L') := by
 refine Fx.mk Tryz.func175 k175 nb_ ?_
 dsimp only [c175, kG, kS, kH, kM, kN, kF, kL, envOf, Nat.reduceAdd]
 refine go ?_
 exact Kr.one (.inr rfl) rfl (Ent.refl _) ⟨rfl, rfl⟩
abbrev RoO (mp sb : Nat) (x : Cn) : Option Addr → As := Blk 167 (.pointer (some ⟨mp, 0, none⟩) :: x.l ++ [.pointer (some ⟨sb, 0, none⟩)])
set_option maxHeartbeats 1000000 in
theorem rootsNew {mp : Nat} {m : Mm} {x : Cn} (hx : x.ok) (hl : x.len ≤ m.ws.length) [t : Take L (some ⟨mp, 0, none⟩) (MemO m) F] :
  Fx Tryz.prog 70 [.pointer (some ⟨mp, 0, none⟩), x.v] L (fun v L' => ∃ g sb, v = .tuple #[.pointer (some ⟨g, 0, none⟩), .int .i64 0] ∧ L' = pt (some ⟨g, 0, none⟩) (RoO mp sb x) :: pt (some ⟨sb, 0, none⟩) (SkO mp x.spare) :: L) := by
 refine Fx.mk Tryz.func70 k70 nb_ ?_
 dsimp only [c70, kG, kS, kH, kM, kN, kF, kL, envOf, Nat.reduceAdd]
 refine Cx.pure (memKey (b := mp) (m := m)) fun hm => ?_
 refine Cx.sq ?_
 refine Cx.rg ?_
 refine Sx.bx rfl rfl fun g => ?_
 refine go ?_
 refine Cx.ordc rfl kr_ ?_
 refine ge ?_
 refine Ev.cakH kr_ rfl rfl (may_ (x.w : Int) x.c x.wd x.sl x.ca x.ba) ?_
 rw [decide_eq_true (show MayC (x.w : Int) x.c x.wd x.sl x.ca x.ba from hx)]
 refine ge ?_
 refine Ev.cakH kr_ rfl rfl (cellsLen (b := mp) (m := m)) ?_
 refine ge ?_
 refine Ev.cakH kr_ rfl rfl (layLen (x.w : Int) x.c x.wd x.sl x.ca x.ba hx) ?_
 rw [x.lenC]
 refine ge ?_
 refine Cx.cno rfl (decide_eq_false (by omega)) ?_
 refine go ?_
 refine Cx.ordc rfl kr_ ?_
 refine ge ?_
 refine Ev.cakH kr_ rfl rfl (laySlotN hx 0 (by have := hx.2.2.2.2.1; omega)) ?_
 refine ge ?_
 refine Ev.caH kr_ rfl rfl (stackNew (mp := mp) (m := m) (k := x.spare) (hx.spare hl hm.2)) (Pres.deps kr_) ?_
 rintro v L' ⟨sb, rfl, rfl⟩
 refine ge ?_
 refine go ?_
 refine Sx.bx rfl rfl fun q => ?_
 refine go ?_
 exact Kr.two (.inr rfl) rfl rfl (Ent.cons (Ent.cons Ent.drop)) ⟨q, sb, rfl, rfl⟩
def zeroRt (x : Cn) (m : Mm) : Nat → Mm
 | 0 => m
 | i + 1 => (zeroRt x m i).lay (x.root + i) 0
theorem zeroRt_len (x : Cn) (m : Mm) : ∀ i, (zeroRt x m i).ws.length = m.ws.length
 | 0 => rfl
 | i + 1 => by simp only [zeroRt, Mm.len_lay]; exact zeroRt_len x m i
theorem lay_same {m : Mm} {i v : Nat} (h : i < m.ws.length) (e : m.at_ i = v) : m.lay i v = m := by
 have hg := Mm.get h
 unfold Mm.lay
 rw [← e]
 congr 1
 rw [List.getElem?_eq_getElem h] at hg
 have e2 : m.at_ i = m.ws[i] := by simpa using hg.symm
 rw [e2]
 exact List.set_getElem_self h
theorem zeroRt_same {x : Cn} {m : Mm} (hl : x.root + x.sl ≤ m.ws.length) (h : ∀ i, i < x.sl → m.at_ (x.root + i) = 0) : ∀ i, i ≤ x.sl → zeroRt x m i = m
 | 0, _ => rfl
 | i + 1, hi => by
   simp only [zeroRt]
   rw [zeroRt_same hl h i (by omega)]
   exact lay_same (by omega) (h i (by omega))
set_option maxHeartbeats 1000000 in
theorem rootsFill {g mp sb : Nat} {x : Cn} {m : Mm} {F G H : St} (hx : x.ok) (hl : x.len ≤ m.ws.length) [t : Take L (some ⟨mp, 0, none⟩) (MemO m) F] [s : Take F (some ⟨sb, 0, none⟩) (SkO mp x.spare) G] [c : Take G (some ⟨g, 0, none⟩) (RoO mp sb x) H] :
  Fx Tryz.prog 73 [.pointer (some ⟨g, 0, none⟩)] L (fun v L' => L' = pt (some ⟨mp, 0, none⟩) (MemO (zeroRt x (fillM x.spare m) x.sl)) :: F) := by
 obtain ⟨b1, b2, b3, b4, b5, b6, b7⟩ := show MayC (x.w : Int) x.c x.wd x.sl x.ca x.ba from hx
 have hsz : x.root + x.sl ≤ x.len := by unfold Cn.root Cn.len; omega
 refine Fx.mk Tryz.func73 k73 nb_ ?_
 dsimp only [c73, kG, kS, kH, kM, kN, kF, kL, envOf, Nat.reduceAdd]
 refine Cx.ent (Ent.trans (Ent.of t.out) (Ent.cons (Ent.trans (Ent.of s.out) (Ent.cons (Ent.of c.out))))) ?_
 refine Cx.pure (memKey (b := mp) (m := m)) fun hm => ?_
 refine go ?_
 refine Sx.ca rfl (stackFill (sb := sb) (mp := mp) (k := x.spare) (m := m) (hx.spare hl hm.2)) ?_
 rintro v L' rfl
 refine go ?_
 refine Cx.lp (α := {i : Nat // i ≤ x.sl}) (fun i => [(0, .pointer (some ⟨g, 0, none⟩)), (12, .int .i64 (x.sl : Nat)), (13, .int .i64 i.1)])
  (fun i => pt (some ⟨mp, 0, none⟩) (MemO (zeroRt x (fillM x.spare m) i.1)) :: pt (some ⟨sb, 0, none⟩) (SkO mp x.spare) :: pt (some ⟨g, 0, none⟩) (RoO mp sb x) :: H) (fun i => x.sl - i.1) ⟨0, by omega⟩ (sub.cons rfl (sub.cons rfl (sub.cons rfl sub.nil))) (Ent.refl _) ?_
 rintro ⟨i, hi⟩
 have hzl := zeroRt_len x (fillM x.spare m) i
 rw [fillM_len] at hzl
 dsimp only
 refine go ?_
 refine Cx.ifp rfl (fun h => ?_) (fun h => ?_)
 ·refine go ?_
  refine Cx.orde rfl kr_ ?_
  refine ge ?_
  refine Ev.cakH kr_ rfl rfl (layRootN hx i (by omega)) ?_
  refine ge ?_
  refine Ev.caH kr_ rfl rfl (cellsLay (b := mp) (m := zeroRt x (fillM x.spare m) i) (x.root + i) 0 (by omega) (by omega)) (Pres.deps kr_) ?_
  rintro v L' ⟨rfl, rfl⟩
  refine ge ?_
  refine go ?_
  rw [w64 (n := (i : Int) + 1) (by omega) (by omega)]
  exact Klp.nm ⟨i + 1, by omega⟩ (sub.cons rfl (sub.cons rfl (sub.cons rfl sub.nil))) (Ent.refl _) (by dsimp only; omega)
 ·obtain rfl : i = x.sl := by omega
  refine go ?_
  exact Kr.none (.inl rfl) (Ent.cons (Ent.trans (Ent.cons (Ent.of c.back)) (Ent.of s.back))) rfl
abbrev GrO (mp : Nat) (x : Cn) : Option Addr → As := Blk 146 (.pointer (some ⟨mp, 0, none⟩) :: x.l)
theorem grantNew {mp : Nat} {m : Mm} {x : Cn} (hx : x.ok) (hl : x.len ≤ m.ws.length) [t : Take L (some ⟨mp, 0, none⟩) (MemO m) F] :
  Fx Tryz.prog 18 [.pointer (some ⟨mp, 0, none⟩), x.v] L (fun v L' => ∃ g, v = .tuple #[.pointer (some ⟨g, 0, none⟩), .int .i64 0] ∧ L' = pt (some ⟨g, 0, none⟩) (GrO mp x) :: L) := by
 refine Fx.mk Tryz.func18 k18 nb_ ?_
 dsimp only [c18, kG, kS, kH, kM, kN, kF, kL, envOf, Nat.reduceAdd]
 refine Cx.sq ?_
 refine Cx.rg ?_
 refine Sx.bx rfl rfl fun g => ?_
 refine go ?_
 refine Sx.ca rfl (rootsNew (mp := mp) (m := m) hx hl) ?_
 rintro v L' ⟨r, sb, rfl, rfl⟩
 refine go ?_
 refine Sx.bx rfl rfl fun q => ?_
 refine go ?_
 exact Kr.two (.inr rfl) rfl rfl (Ent.cons (Ent.trans Ent.drop (Ent.trans Ent.drop Ent.drop))) ⟨q, rfl, rfl⟩
end
end Go.Proofs.YtflalhdofhobmaaGreat


namespace Go.Proofs.YtflalhdofhobmaaGreat
open Go
attribute [local irreducible] Sx Cx Rx Fx Krg Ksq Kbl Klp Kr
section
variable {L F G : St}
theorem Sx.re {P : Program} {N : Nat} {l : List Go.Proofs.YtflalhdofhobmaaGreat.G} {e : En} {K : En → St → Prop} {b : Option Addr} {T : TypeId} {vs : List Value} {L : St} (vs' : List Value) (h : vs = vs') (k : Sx P N l e K (pt b (Blk T vs') :: L)) : Sx P N l e K (pt b (Blk T vs) :: L) := h ▸ k
theorem cntW {n : Nat} (h : n ≤ 1000000) : IntKind.i64.wrap ((n : Int) + 1) = ((n + 1 : Nat) : Int) := by rw [w64 (by omega) (by omega)]; push_cast; rfl
theorem rootsLoad {g mp sb : Nat} {x : Cn} {m : Mm} {F1 : St} (n : Nat) (hn : n < x.sl) (hx : x.ok) (hm : m.ok) (hl : x.len ≤ m.ws.length) [t : Take L (some ⟨mp, 0, none⟩) (MemO m) F1] [c : Take F1 (some ⟨g, 0, none⟩) (RoO mp sb x) G] :
  Fx Tryz.prog 174 [.pointer (some ⟨g, 0, none⟩), .int .i64 n] L (fun v L' => v = .tuple #[wd (m.at_ (x.root + n)), rtV (rtOf (m.at_ (x.root + n)))] ∧ L' = pt (some ⟨mp, 0, none⟩) (MemO m.tick) :: F1) := by
 have hsz : x.root + x.sl ≤ x.len := by unfold Cn.root Cn.len; omega
 refine Fx.mk Tryz.func174 k174 nb_ ?_
 dsimp only [c174, kG, kS, kH, kM, kN, kF, kL, envOf, Nat.reduceAdd]
 refine Cx.ent (Ent.trans (Ent.of t.out) (Ent.cons (Ent.of c.out))) ?_
 refine go ?_
 refine Sx.al fun q => ?_
 refine go ?_
 refine Cx.ordc rfl kr_ ?_
 refine ge ?_
 refine Ev.cakH kr_ rfl rfl (layRootN hx n hn) ?_
 refine ge ?_
 refine Ev.caH kr_ rfl rfl (cellsLoad (b := mp) (m := m) (x.root + n) (by omega)) (Pres.deps kr_) ?_
 rintro v L' ⟨rfl, rfl⟩
 refine ge ?_
 refine go ?_
 refine Sx.ca rfl (getRoot (m.at_ (x.root + n)) (Mm.at_lt hm _)) ?_
 rintro v L' ⟨rfl, rfl⟩
 refine go ?_
 refine Sx.st (b := q) rfl rfl rfl rfl rfl rfl ?_
 dsimp only [lay]
 refine go ?_
 refine Kr_tc (b := q) (.inr rfl) rfl rfl rfl ?_ ⟨rfl, rfl⟩
 exact Ent.trans Ent.drop (Ent.cons (Ent.of c.back))
def CreS.rt (cl : Nat) (c : CreS) : Rt := if c.at_ = 2 then nextRt cl c.was else ⟨0, 0, 0, 0⟩
abbrev crB (b r : Nat) (nx n1 n2 n3 pp : Value) (cl : Nat) (cnt slot : Int) (point : Nat) (rt : Rt) (code : Nat) : As :=
 pt (some ⟨b, 0, none⟩) (Blk 232 [nx, n1, n2, n3, .int .i64 cnt, .pointer (some ⟨r, 0, none⟩), .int .i64 cl, pp, .int .i64 slot, .int .i64 (point : Nat), .int .i64 (rt.gen : Nat), .int .i64 (rt.mrk : Nat), .int .i64 (rt.cl : Nat), .int .i64 (rt.off : Nat), .int .i64 (code : Nat)])
def crPL (T : TypeId) (r sp : Nat) (k : Sk) (cl : Nat) (c : CreS) (a : Option Addr) (y : Nat) : St :=
 [pt a (Blk T [.func (.func 232) #[.pointer a] #[], mth 163 y, mth 164 y, .func (.func 165) #[.pointer a] #[], .int .i64 (c.cnt : Nat), .pointer (some ⟨r, 0, none⟩), .int .i64 cl, .pointer (some ⟨y, 0, none⟩), .int .i64 c.slot, .int .i64 (c.point : Nat), .int .i64 ((c.rt cl).gen : Nat), .int .i64 ((c.rt cl).mrk : Nat), .int .i64 ((c.rt cl).cl : Nat), .int .i64 ((c.rt cl).off : Nat), .int .i64 (c.code : Nat)]),
  pt (some ⟨y, 0, none⟩) (PopO sp k c.q)]
def crSL (nx : Value) (T : TypeId) (r : Nat) (cl : Nat) (c : CreS) (a : Option Addr) (y : Value × Value × Value × Value) : St :=
 [pt a (Blk T [nx, y.1, y.2.1, y.2.2.1, .int .i64 (c.cnt : Nat), .pointer (some ⟨r, 0, none⟩), .int .i64 cl, y.2.2.2, .int .i64 c.slot, .int .i64 (c.point : Nat), .int .i64 ((c.rt cl).gen : Nat), .int .i64 ((c.rt cl).mrk : Nat), .int .i64 ((c.rt cl).cl : Nat), .int .i64 ((c.rt cl).off : Nat), .int .i64 (c.code : Nat)])]
def CreT (T : TypeId) (r sp : Nat) (k : Sk) (cl : Nat) (c : CreS) (a : Option Addr) : As := bif c.done then exs (crSL .nilFunc T r cl c a) else match c.at_ with
 | 0 => exs (crPL T r sp k cl c a) | 1 => exs (crSL (.func (.func 224) #[.pointer a] #[]) T r cl c a) | _ => exs (crSL (.func (.func 252) #[.pointer a] #[]) T r cl c a)
abbrev CreO := CreT 232
theorem CreO.p {T : TypeId} {r sp : Nat} {k : Sk} {cl : Nat} {c : CreS} {a : Option Addr} (h : c.done = false) (h0 : c.at_ = 0) : CreT T r sp k cl c a = exs (crPL T r sp k cl c a) := by unfold CreT; rw [h, h0]; rfl
theorem CreO.l {T : TypeId} {r sp : Nat} {k : Sk} {cl : Nat} {c : CreS} {a : Option Addr} (h : c.done = false) (h0 : c.at_ = 1) : CreT T r sp k cl c a = exs (crSL (.func (.func 224) #[.pointer a] #[]) T r cl c a) := by unfold CreT; rw [h, h0]; rfl
theorem CreO.s {T : TypeId} {r sp : Nat} {k : Sk} {cl : Nat} {c : CreS} {a : Option Addr} (h : c.done = false) (h0 : c.at_ = 2) : CreT T r sp k cl c a = exs (crSL (.func (.func 252) #[.pointer a] #[]) T r cl c a) := by unfold CreT; rw [h, h0]; rfl
theorem CreO.d {T : TypeId} {r sp : Nat} {k : Sk} {cl : Nat} {c : CreS} {a : Option Addr} (h : c.done = true) : CreT T r sp k cl c a = exs (crSL .nilFunc T r cl c a) := by unfold CreT; rw [h]; rfl
theorem CreO.closeP {b r sp p : Nat} {k : Sk} {cl : Nat} (c : CreS) (h : c.done = false) (h0 : c.at_ = 0) {cnt slot : Int} {point code : Nat} {rt : Rt} {q : PopS} (e1 : cnt = (c.cnt : Nat)) (e2 : slot = c.slot) (e3 : point = c.point) (e4 : rt = c.rt cl) (e5 : code = c.code) (e6 : q = c.q) :
  Ent (crB b r (mth 232 b) (mth 163 p) (mth 164 p) (mth 165 b) (.pointer (some ⟨p, 0, none⟩)) cl cnt slot point rt code :: pt (some ⟨p, 0, none⟩) (PopO sp k q) :: G) (pt (some ⟨b, 0, none⟩) (CreO r sp k cl c) :: G) := by
 subst e1 e2 e3 e4 e5 e6
 exact Ent.close (f := crPL 232 r sp k cl c (some ⟨b, 0, none⟩)) (CreO.p h h0) p
theorem CreO.closeL {b r sp : Nat} {k : Sk} {cl : Nat} {n1 n2 n3 pp : Value} (c : CreS) (h : c.done = false) (h0 : c.at_ = 1) {cnt slot : Int} {point code : Nat} {rt : Rt} (e1 : cnt = (c.cnt : Nat)) (e2 : slot = c.slot) (e3 : point = c.point) (e4 : rt = c.rt cl) (e5 : code = c.code) :
  Ent (crB b r (mth 224 b) n1 n2 n3 pp cl cnt slot point rt code :: G) (pt (some ⟨b, 0, none⟩) (CreO r sp k cl c) :: G) := by
 subst e1 e2 e3 e4 e5
 exact Ent.close (f := crSL (mth 224 b) 232 r cl c (some ⟨b, 0, none⟩)) (CreO.l h h0) (n1, n2, n3, pp)
theorem CreO.closeS {b r sp : Nat} {k : Sk} {cl : Nat} {n1 n2 n3 pp : Value} (c : CreS) (h : c.done = false) (h0 : c.at_ = 2) {cnt slot : Int} {point code : Nat} {rt : Rt} (e1 : cnt = (c.cnt : Nat)) (e2 : slot = c.slot) (e3 : point = c.point) (e4 : rt = c.rt cl) (e5 : code = c.code) :
  Ent (crB b r (mth 252 b) n1 n2 n3 pp cl cnt slot point rt code :: G) (pt (some ⟨b, 0, none⟩) (CreO r sp k cl c) :: G) := by
 subst e1 e2 e3 e4 e5
 exact Ent.close (f := crSL (mth 252 b) 232 r cl c (some ⟨b, 0, none⟩)) (CreO.s h h0) (n1, n2, n3, pp)
theorem CreO.closeD {b r sp : Nat} {k : Sk} {cl : Nat} {n1 n2 n3 pp : Value} (c : CreS) (h : c.done = true) {cnt slot : Int} {point code : Nat} {rt : Rt} (e1 : cnt = (c.cnt : Nat)) (e2 : slot = c.slot) (e3 : point = c.point) (e4 : rt = c.rt cl) (e5 : code = c.code) :
  Ent (crB b r .nilFunc n1 n2 n3 pp cl cnt slot point rt code :: G) (pt (some ⟨b, 0, none⟩) (CreO r sp k cl c) :: G) := by
 subst e1 e2 e3 e4 e5
 exact Ent.close (f := crSL .nilFunc 232 r cl c (some ⟨b, 0, none⟩)) (CreO.d h) (n1, n2, n3, pp)
set_option maxHeartbeats 2000000 in
theorem rootsCreate {g mp sb : Nat} {x : Cn} (cl : Nat) (hcl : cl ≤ 3) (hx : x.ok) [c : Take L (some ⟨g, 0, none⟩) (RoO mp sb x) F] {F2 : St} [s : Take F (some ⟨sb, 0, none⟩) (SkO mp x.spare) F2] :
  Fx Tryz.prog 84 [.pointer (some ⟨g, 0, none⟩), .int .i64 cl] L (fun v L' => ∃ b, v = .pointer (some ⟨b, 0, none⟩) ∧ L' = pt (some ⟨b, 0, none⟩) (CreO g sb x.spare cl CreS.init) :: L) := by
 obtain ⟨b1, b2, b3, b4, b5, b6, b7⟩ := show MayC (x.w : Int) x.c x.wd x.sl x.ca x.ba from hx
 refine Fx.mk Tryz.func84 k84 nb_ ?_
 dsimp only [c84, kG, kS, kH, kM, kN, kF, kL, envOf, Nat.reduceAdd]
 refine Cx.ent (Ent.trans (Ent.of c.out) (Ent.cons (Ent.of s.out))) ?_
 refine go ?_
 have e1 : (bif true then (if (cl : Int) < 0 then (0 : Int) else (cl : Int)) else (if (0 : Int) < (cl : Int) then (0 : Int) else (cl : Int))) = cl := by
  rw [cond_true, if_neg (by omega)]
 have e2 : (bif false then (if (cl : Int) < 3 then (3 : Int) else (cl : Int)) else (if (3 : Int) < (cl : Int) then (3 : Int) else (cl : Int))) = cl := by
  rw [cond_false, if_neg (by omega)]
 rw [e1, e2]
 refine Sx.ca rfl (stackPop (sb := sb) (k := x.spare) 1 (by show 1 ≤ x.sl; omega)) ?_
 rintro v L' ⟨p, rfl, rfl⟩
 refine go ?_
 refine Sx.bx rfl rfl fun b => ?_
 refine Sx.re [.nilFunc, .nilFunc, .nilFunc, .nilFunc, .int .i64 0, .pointer (some ⟨g, 0, none⟩), .int .i64 cl, .pointer (some ⟨p, 0, none⟩), .int .i64 (-1), .int .i64 0, .int .i64 0, .int .i64 0, .int .i64 0, .int .i64 0, .int .i64 0] rfl ?_
 refine go ?_
 refine Cx.ordc rfl kr_ ?_
 refine ge ?_
 refine Ev.caH kr_ rfl rfl (machThrough (b := b) (machOnNo (b := b) kr_ (popDoneC (b := p) (sb := sb) (k := x.spare) (q := PopS.init 1)))) (Pres.deps kr_) ?_
 rintro v L' ⟨rfl, w, rfl, rfl⟩
 refine ge ?_
 refine go ?_
 refine Kr.one (.inr rfl) rfl ?_ ⟨b, rfl, rfl⟩
 refine Ent.trans (CreO.closeP (b := b) (r := g) (sp := sb) (p := p) (k := x.spare) (cl := cl) (rt := ⟨0, 0, 0, 0⟩) CreS.init rfl rfl rfl rfl rfl rfl rfl rfl) (Ent.cons ?_)
 exact Ent.trans (Ent.cons (Ent.of s.back)) (Ent.of c.back)
theorem crNext {b r : Nat} {nx n1 n2 n3 pp : Value} {cl : Nat} {cnt slot : Int} {point code : Nat} {rt : Rt} (w : Rt) (hg : w.gen < 4294967296) [tk : Take L (some ⟨b, 0, none⟩) (Blk 232 [nx, n1, n2, n3, .int .i64 cnt, .pointer (some ⟨r, 0, none⟩), .int .i64 cl, pp, .int .i64 slot, .int .i64 (point : Nat), .int .i64 (rt.gen : Nat), .int .i64 (rt.mrk : Nat), .int .i64 (rt.cl : Nat), .int .i64 (rt.off : Nat), .int .i64 (code : Nat)]) F] :
  Fx Tryz.prog 251 [.pointer (some ⟨b, 0, none⟩), rtV w] L (fun v L' => v = rtV ⟨laterT w.gen, 1, cl, 0⟩ ∧ L = L') := by
 obtain ⟨gn, mk_, cw, ow⟩ := w
 dsimp only at hg ⊢
 refine Fx.mk Tryz.func251 k251 nb_ ?_
 dsimp only [c251, kG, kS, kH, kM, kN, kF, kL, envOf, Nat.reduceAdd]
 refine Cx.sq ?_
 refine Cx.rg ?_
 refine Sx.bx rfl rfl fun q => ?_
 refine go ?_
 refine Sx.al fun o => ?_
 repeat' (first|refine Zo0 rfl ?_|refine Zo1 ?_|refine Zo2 ?_|refine Zo3 ?_|refine Zo4 ?_|refine Zo5 ?_|refine Zo6 ?_|refine Zo7 ?_|refine Zo8 rfl ?_|refine Zo9 rfl ?_|refine Zoa ?_|refine Zob ?_|refine Zoc ?_|refine Zod ?_|refine Zoe ?_|refine Zof ?_|refine Zog ?_|refine Zoh ?_|refine Zom rfl (by rfl) ?_|refine Zon rfl rfl ?_|refine Zoo rfl rfl rfl rfl (by rfl) (by rfl) ?_|refine Zop rfl trivial ?_|refine Zoq rfl rfl rfl ?_)
 refine Cx.ifp rfl (fun h => ?_) (fun h => ?_)
 ·refine go ?_
  rw [w64 (n := (gn : Int) + 1) (by omega) (by omega)]
  refine Sx.st (b := o) rfl rfl rfl rfl rfl rfl ?_
  dsimp only [lay]
  refine go ?_
  refine Kr_cell (b := o) (.inr rfl) rfl rfl (L' := L) (Ent.trans Ent.drop Ent.drop) ⟨?_, rfl⟩
  dsimp only at h
  unfold laterT
  rw [if_pos (show gn < 4294967295 by omega)]
  rfl
 ·refine go ?_
  refine Sx.st (b := o) rfl rfl rfl rfl rfl rfl ?_
  dsimp only [lay]
  refine go ?_
  refine Kr_cell (b := o) (.inr rfl) rfl rfl (L' := L) (Ent.trans Ent.drop Ent.drop) ⟨?_, rfl⟩
  dsimp only at h
  unfold laterT
  rw [if_neg (show ¬ gn < 4294967295 by omega)]
  rfl
end
end Go.Proofs.YtflalhdofhobmaaGreat


namespace Go.Proofs.YtflalhdofhobmaaGreat
open Go
attribute [local irreducible] Sx Cx Rx Fx Krg Ksq Kbl Klp Kr
section
variable {L F G : St}
theorem crPopped_ {b r sp p : Nat} {k : Sk} {cl : Nat} {c : CreS} {n1 n2 n3 : Value} {cnt : Int} (hcnt : cnt = ((c.cnt + 1 : Nat) : Int)) (h0 : c.at_ = 0) (hd : c.done = false) {q : PopS} (hq : q.done = true) (hl : q.got.length ≤ 8) :
  Fx Tryz.prog 165 [.pointer (some ⟨b, 0, none⟩)] (crB b r .nilFunc n1 n2 n3 (.pointer (some ⟨p, 0, none⟩)) cl cnt c.slot c.point (c.rt cl) c.code :: pt (some ⟨p, 0, none⟩) (PopO sp k q) :: G)
   (fun v L' => L' = pt (some ⟨b, 0, none⟩) (CreO r sp k cl (crPopped { c with cnt := c.cnt + 1, q := q })) :: G) := by
 subst hcnt
 refine Fx.mk Tryz.func165 k165 nb_ ?_
 dsimp only [c165, kG, kS, kH, kM, kN, kF, kL, envOf, Nat.reduceAdd]
 refine go ?_
 refine Sx.ca rfl (machCount (b := b)) ?_
 rintro v L' ⟨rfl, rfl⟩
 refine go ?_
 refine Sx.ca rfl (popGot (b := p) (sb := sp) (k := k) (q := q) hq) ?_
 rintro v L' ⟨ro, co, rfl, rfl⟩
 refine go ?_
 cases hg : q.got with
 | nil =>
   have e : crPopped { c with cnt := c.cnt + 1, q := q } = { c with cnt := c.cnt + 1, q := q, point := c.cnt + 1, code := 7, done := true } := by unfold crPopped; rw [hg]
   rw [e]
   refine go ?_
   refine Kr.none (.inr rfl) ?_ rfl
   refine Ent.trans (Ent.take (a := some ⟨b, 0, none⟩)) ?_
   refine Ent.trans (CreO.closeD (b := b) (r := r) (sp := sp) (k := k) (cl := cl) (rt := c.rt cl) { c with cnt := c.cnt + 1, q := q, point := c.cnt + 1, code := 7, done := true } rfl rfl rfl rfl rfl rfl) (Ent.cons ?_)
   exact ent
 | cons y l =>
   have e : crPopped { c with cnt := c.cnt + 1, q := q } = { c with cnt := c.cnt + 1, q := q, point := c.cnt + 1, slot := y, at_ := 1 } := by unfold crPopped; rw [hg]
   rw [e]
   rw [hg] at hl
   simp only [List.length_cons] at hl ⊢
   refine Cx.cno rfl (decide_eq_false (by omega)) ?_
   refine Cx.rowkey (a := ro) fun hx0 hn0 hc0 hk0 => ?_
   obtain ⟨rg, rfl⟩ : ∃ g, ro = some ⟨g, 0, none⟩ := by
    rcases hk0 with h | h
    ·omega
    ·exact h
   refine go ?_
   refine Sx.pv rfl ⟨by omega, by omega⟩ ?_
   refine Sx.ldr (b := rg) rfl (v := .int .i64 y) rfl ?_
   refine go ?_
   refine Sx.ca rfl (machGo (b := b)) ?_
   rintro v L' ⟨rfl, rfl⟩
   refine go ?_
   refine Kr.none (.inl rfl) ?_ rfl
   refine Ent.trans (Ent.take (a := some ⟨b, 0, none⟩)) ?_
   refine Ent.trans (CreO.closeL (b := b) (r := r) (sp := sp) (k := k) (cl := cl) (rt := c.rt cl) { c with cnt := c.cnt + 1, q := q, point := c.cnt + 1, slot := y, at_ := 1 } hd rfl rfl rfl rfl ?_ rfl) (Ent.cons ?_)
   ·unfold CreS.rt; dsimp only; rw [if_neg (by omega), if_neg (by omega)]
   ·exact ent
theorem crLoad_ {b r mp sp : Nat} {x : Cn} {m : Mm} {cl : Nat} {c : CreS} {n1 n2 n3 pp : Value} {cnt : Int} (hcnt : cnt = ((c.cnt + 1 : Nat) : Int)) (h1 : c.at_ = 1) (hd : c.done = false) (hx : x.ok) (hm : m.ok) (hl : x.len ≤ m.ws.length) (hs : 0 ≤ c.slot ∧ c.slot < x.sl) :
  Fx Tryz.prog 224 [.pointer (some ⟨b, 0, none⟩)] (crB b r .nilFunc n1 n2 n3 pp cl cnt c.slot c.point (c.rt cl) c.code :: pt (some ⟨r, 0, none⟩) (RoO mp sp x) :: pt (some ⟨mp, 0, none⟩) (MemO m) :: G)
   (fun v L' => L' = pt (some ⟨b, 0, none⟩) (CreO r sp x.spare cl { c with cnt := c.cnt + 1, was := m.at_ (x.root + c.slot.toNat), at_ := 2 }) :: pt (some ⟨mp, 0, none⟩) (MemO m.tick) :: pt (some ⟨r, 0, none⟩) (RoO mp sp x) :: G) := by
 subst hcnt
 obtain ⟨s, hs1⟩ : ∃ s : Nat, c.slot = s := ⟨c.slot.toNat, by omega⟩
 rw [hs1, Int.toNat_natCast]
 refine Fx.mk Tryz.func224 k224 nb_ ?_
 dsimp only [c224, kG, kS, kH, kM, kN, kF, kL, envOf, Nat.reduceAdd]
 refine Cx.sq ?_
 refine Cx.rd ?_
 refine Rx.pvs rfl ?_
 refine Rx.ldbK 0 rfl rfl rfl (by rfl) rfl rfl ?_
 refine Rx.pvs rfl ?_
 refine Rx.ldbK 0 rfl rfl rfl (by rfl) rfl rfl ?_
 refine Rx.pvs rfl ?_
 refine Rx.two rfl rfl rfl ?_ ?_
 ·refine Sx.ca rfl (rootsLoad (g := r) (mp := mp) (sb := sp) (x := x) (m := m) s (by omega) hx hm hl) ?_
  rintro v L' ⟨rfl, rfl⟩
  refine Sx.nil ⟨⟨⟨trivial, Has.cell rfl⟩, Has.cell rfl⟩, ?_⟩
  refine Rx.pvs rfl ?_
  refine Rx.one rfl rfl rfl ?_
  refine Sx.al fun q => ?_
  refine Sx.nil ⟨⟨⟨trivial, Has.cell rfl⟩, Has.cell rfl⟩, ?_⟩
  refine Rx.pvs rfl ?_
  refine Rx.one rfl rfl rfl ?_
  refine Sx.st (b := q) rfl rfl rfl rfl rfl rfl ?_
  refine Sx.re (rtL (rtOf (m.at_ (x.root + s)))) rfl ?_
  refine Sx.nil ⟨⟨⟨trivial, Has.cell rfl⟩, Has.cell rfl⟩, ?_⟩
  refine Rx.nil ?_
  refine go ?_
  refine Sx.ca rfl (crNext (b := b) (r := r) (cl := cl) (rtOf (m.at_ (x.root + s))) (rtOf_gen (Mm.at_lt hm _))) ?_
  rintro v L' ⟨rfl, rfl⟩
  refine go ?_
  refine Sx.st (b := b) rfl rfl rfl rfl rfl rfl ?_
  refine Sx.re [.nilFunc, n1, n2, n3, .int .i64 ((c.cnt + 1 : Nat) : Int), .pointer (some ⟨r, 0, none⟩), .int .i64 cl, pp, .int .i64 (s : Nat), .int .i64 (c.point : Nat), .int .i64 ((nextRt cl (m.at_ (x.root + s))).gen : Nat), .int .i64 ((nextRt cl (m.at_ (x.root + s))).mrk : Nat), .int .i64 ((nextRt cl (m.at_ (x.root + s))).cl : Nat), .int .i64 ((nextRt cl (m.at_ (x.root + s))).off : Nat), .int .i64 (c.code : Nat)] rfl ?_
  refine go ?_
  refine Sx.ca rfl (machGo (b := b)) ?_
  rintro v L' ⟨rfl, rfl⟩
  refine go ?_
  refine Kr.none (.inl rfl) ?_ rfl
  refine Ent.trans (Ent.take (a := some ⟨b, 0, none⟩)) ?_
  refine Ent.trans (CreO.closeS (b := b) (r := r) (sp := sp) (k := x.spare) (cl := cl) (rt := nextRt cl (m.at_ (x.root + s))) { c with cnt := c.cnt + 1, slot := (s : Int), was := m.at_ (x.root + s), at_ := 2 } hd rfl rfl rfl rfl ?_ rfl) (Ent.cons ?_)
  ·unfold CreS.rt; dsimp only; rw [if_pos rfl]
  ·exact ent
 ·refine Sx.al fun q => ?_
  refine Sx.nil ⟨⟨⟨trivial, Has.cell rfl⟩, Has.cell rfl⟩, ?_⟩
  refine Rx.pvs rfl ?_
  refine Rx.one rfl rfl rfl ?_
  refine Sx.ca rfl (rootsLoad (g := r) (mp := mp) (sb := sp) (x := x) (m := m) s (by omega) hx hm hl) ?_
  rintro v L' ⟨rfl, rfl⟩
  refine Sx.nil ⟨⟨⟨trivial, Has.cell rfl⟩, Has.cell rfl⟩, ?_⟩
  refine Rx.pvs rfl ?_
  refine Rx.one rfl rfl rfl ?_
  refine Sx.st (b := q) rfl rfl rfl rfl rfl rfl ?_
  refine Sx.re (rtL (rtOf (m.at_ (x.root + s)))) rfl ?_
  refine Sx.nil ⟨⟨⟨trivial, Has.cell rfl⟩, Has.cell rfl⟩, ?_⟩
  refine Rx.nil ?_
  refine go ?_
  refine Sx.ca rfl (crNext (b := b) (r := r) (cl := cl) (rtOf (m.at_ (x.root + s))) (rtOf_gen (Mm.at_lt hm _))) ?_
  rintro v L' ⟨rfl, rfl⟩
  refine go ?_
  refine Sx.st (b := b) rfl rfl rfl rfl rfl rfl ?_
  refine Sx.re [.nilFunc, n1, n2, n3, .int .i64 ((c.cnt + 1 : Nat) : Int), .pointer (some ⟨r, 0, none⟩), .int .i64 cl, pp, .int .i64 (s : Nat), .int .i64 (c.point : Nat), .int .i64 ((nextRt cl (m.at_ (x.root + s))).gen : Nat), .int .i64 ((nextRt cl (m.at_ (x.root + s))).mrk : Nat), .int .i64 ((nextRt cl (m.at_ (x.root + s))).cl : Nat), .int .i64 ((nextRt cl (m.at_ (x.root + s))).off : Nat), .int .i64 (c.code : Nat)] rfl ?_
  refine go ?_
  refine Sx.ca rfl (machGo (b := b)) ?_
  rintro v L' ⟨rfl, rfl⟩
  refine go ?_
  refine Kr.none (.inl rfl) ?_ rfl
  refine Ent.trans (Ent.take (a := some ⟨b, 0, none⟩)) ?_
  refine Ent.trans (CreO.closeS (b := b) (r := r) (sp := sp) (k := x.spare) (cl := cl) (rt := nextRt cl (m.at_ (x.root + s))) { c with cnt := c.cnt + 1, slot := (s : Int), was := m.at_ (x.root + s), at_ := 2 } hd rfl rfl rfl rfl ?_ rfl) (Ent.cons ?_)
  ·unfold CreS.rt; dsimp only; rw [if_pos rfl]
  ·exact ent
theorem crStore_ {b r mp sp : Nat} {x : Cn} {m : Mm} {cl : Nat} {c : CreS} {n1 n2 n3 pp : Value} {cnt : Int} (hcnt : cnt = ((c.cnt + 1 : Nat) : Int)) (h2 : c.at_ = 2) (hcl : cl ≤ 3) (hx : x.ok) (hw : c.was < 18446744073709551616) (hl : x.len ≤ m.ws.length) (hs : 0 ≤ c.slot ∧ c.slot < x.sl) :
  Fx Tryz.prog 252 [.pointer (some ⟨b, 0, none⟩)] (crB b r .nilFunc n1 n2 n3 pp cl cnt c.slot c.point (c.rt cl) c.code :: pt (some ⟨r, 0, none⟩) (RoO mp sp x) :: pt (some ⟨mp, 0, none⟩) (MemO m) :: G)
   (fun v L' => L' = pt (some ⟨b, 0, none⟩) (CreO r sp x.spare cl { c with cnt := c.cnt + 1, done := true }) :: pt (some ⟨mp, 0, none⟩) (MemO (m.put (x.root + c.slot.toNat) (nextRt cl c.was).w)) :: pt (some ⟨r, 0, none⟩) (RoO mp sp x) :: G) := by
 subst hcnt
 have hsz : x.root + x.sl ≤ x.len := by unfold Cn.root Cn.len; omega
 have hrt : c.rt cl = nextRt cl c.was := by unfold CreS.rt; rw [if_pos h2]
 have hnk := nextRt_ok hw hcl
 obtain ⟨s, hs1⟩ : ∃ s : Nat, c.slot = s := ⟨c.slot.toNat, by omega⟩
 rw [hs1, Int.toNat_natCast, hrt]
 obtain ⟨R, hR⟩ : ∃ R, nextRt cl c.was = R := ⟨_, rfl⟩
 rw [hR] at hnk ⊢
 refine Fx.mk Tryz.func252 k252 nb_ ?_
 dsimp only [c252, kG, kS, kH, kM, kN, kF, kL, envOf, Nat.reduceAdd]
 refine go ?_
 refine Sx.ca rfl (putRoot R hnk) ?_
 rintro v L' ⟨rfl, rfl⟩
 refine go ?_
 refine Cx.orde rfl kr_ ?_
 refine ge ?_
 refine Ev.cakH kr_ rfl rfl (layRootN hx s (by omega)) ?_
 refine ge ?_
 refine Ev.caH kr_ rfl rfl (cellsStore (b := mp) (m := m) (x.root + s) R.w (by omega) (Rt.w_lt hnk)) (Pres.deps kr_) ?_
 rintro v L' ⟨rfl, rfl⟩
 refine ge ?_
 refine Kr.none (.inl rfl) ?_ rfl
 refine Ent.trans (Ent.take (a := some ⟨b, 0, none⟩)) ?_
 refine Ent.trans (CreO.closeD (b := b) (r := r) (sp := sp) (k := x.spare) (cl := cl) (rt := R) { c with cnt := c.cnt + 1, slot := (s : Int), done := true } rfl rfl rfl rfl (by rw [← hR, ← hrt]; rfl) rfl) (Ent.cons ?_)
 exact ent
theorem cr_l {k : Sk} {m : Mm} {q : PopS} (h : q.ok k) {len : Nat} (hk : k.ok len) (hm : m.ok) : (popStep k m q).1.got.length ≤ 8 := (popStep_ok hk hm h).len
theorem crStepC {b r mp sp : Nat} {x : Cn} {m : Mm} {cl : Nat} {c : CreS} {F1 F2 F3 : St} (hx : x.ok) (hl : x.len ≤ m.ws.length) (hcl : cl ≤ 3) (hc : c.ok x.spare)
  [t1 : Take L (some ⟨b, 0, none⟩) (CreO r sp x.spare cl c) F1] [t2 : Take F1 (some ⟨mp, 0, none⟩) (MemO m) F2] [t3 : Take F2 (some ⟨r, 0, none⟩) (RoO mp sp x) F3] [t4 : Take F3 (some ⟨sp, 0, none⟩) (SkO mp x.spare) G] :
  Fx Tryz.prog 86 [.pointer (some ⟨b, 0, none⟩)] L
   (fun v L' => v = .bool (!c.done) ∧ L' = pt (some ⟨b, 0, none⟩) (CreO r sp x.spare cl (crStep x.spare x.root cl m c).1) :: pt (some ⟨mp, 0, none⟩) (MemO (crStep x.spare x.root cl m c).2) :: F2) := by
 have hback : Ent (pt (some ⟨r, 0, none⟩) (RoO mp sp x) :: pt (some ⟨sp, 0, none⟩) (SkO mp x.spare) :: G) F2 := Ent.trans (Ent.cons (Ent.of t4.back)) (Ent.of t3.back)
 obtain ⟨ha, hq0, hw, hs, hn⟩ := hc
 refine Fx.mk Tryz.func86 k86 nb_ ?_
 dsimp only [c86, kG, kS, kH, kM, kN, kF, kL, envOf, Nat.reduceAdd]
 refine Cx.ent (Ent.trans (Ent.of t1.out) (Ent.cons (Ent.trans (Ent.of t2.out) (Ent.cons (Ent.trans (Ent.of t3.out) (Ent.cons (Ent.of t4.out))))))) ?_
 refine Cx.pure (memKey (b := mp) (m := m)) fun hm => ?_
 have hk := hx.spare (n := m.ws.length) hl hm.2
 cases hd : c.done with
 | true =>
   have e1 : crStep x.spare x.root cl m c = (c, m) := by unfold crStep; rw [hd]; rfl
   rw [e1]
   refine Cx.openp (a := some ⟨b, 0, none⟩) (CreO.d hd) ?_
   rintro ⟨n1, n2, n3, pp⟩
   simp only [crSL, List.cons_append, List.nil_append]
   refine go ?_
   refine Sx.ca rfl (machStepDone (b := b)) ?_
   rintro v L' ⟨rfl, rfl⟩
   refine go ?_
   exact Kr.one (.inr rfl) rfl (Ent.trans (CreO.closeD c hd rfl rfl rfl rfl rfl) (Ent.cons (Ent.cons hback))) ⟨rfl, rfl⟩
 | false =>
   rcases (show c.at_ = 0 ∨ c.at_ = 1 ∨ c.at_ = 2 by omega) with h0 | h0 | h0
   ·refine Cx.openp (a := some ⟨b, 0, none⟩) (CreO.p hd h0) ?_
    intro p
    simp only [crPL, List.cons_append, List.nil_append]
    have hlen := cr_l (m := m) hq0 hk hm.1
    cases hq : (popStep x.spare m c.q).1.done with
    | true =>
      have e1 : crStep x.spare x.root cl m c = (crPopped { c with cnt := c.cnt + 1, q := (popStep x.spare m c.q).1 }, (popStep x.spare m c.q).2) := by unfold crStep; rw [hd, h0]; simp only [Bool.false_eq_true, if_false, hq, if_true]
      rw [e1]
      refine go ?_
      refine Sx.ca rfl (machStep (b := b) kr_ (machGoes (b := b) kr_ (popStepC (b := p) (mp := mp) (sb := sp) (k := x.spare) (m := m) (q := c.q) hk)
       (R2 := fun v L' => v = .tuple #[] ∧ ∃ w : Value, L' = pt (some ⟨b, 0, none⟩) (CreO r sp x.spare cl (crPopped { c with cnt := c.cnt + 1, q := (popStep x.spare m c.q).1 })) :: pt (some ⟨mp, 0, none⟩) (MemO (popStep x.spare m c.q).2) :: pt (some ⟨r, 0, none⟩) (RoO mp sp x) :: pt (some ⟨sp, 0, none⟩) (SkO mp x.spare) :: G) ?_)) ?_
      ·rintro v L1 ⟨rfl, rfl⟩
       have hon := machOnYes (b := b) kr_ (fd := 164) (ft := 165) (w := .pointer (some ⟨p, 0, none⟩)) (u := .pointer (some ⟨b, 0, none⟩))
        (L := pt (some ⟨p, 0, none⟩) (PopO sp x.spare (popStep x.spare m c.q).1) :: pt (some ⟨mp, 0, none⟩) (MemO (popStep x.spare m c.q).2) :: crB b r .nilFunc (mth 163 p) (mth 164 p) (mth 165 b) (.pointer (some ⟨p, 0, none⟩)) cl (IntKind.i64.wrap ((c.cnt : Int) + 1)) c.slot c.point (c.rt cl) c.code :: pt (some ⟨r, 0, none⟩) (RoO mp sp x) :: pt (some ⟨sp, 0, none⟩) (SkO mp x.spare) :: G)
        ((popDoneC (b := p) (sb := sp) (k := x.spare) (q := (popStep x.spare m c.q).1)).mono (by rintro v L' ⟨rfl, rfl⟩; exact ⟨by rw [hq], rfl⟩)) kr_
        (Fx.ent (M := crB b r .nilFunc (mth 163 p) (mth 164 p) (mth 165 b) (.pointer (some ⟨p, 0, none⟩)) cl (IntKind.i64.wrap ((c.cnt : Int) + 1)) c.slot c.point (c.rt cl) c.code :: pt (some ⟨p, 0, none⟩) (PopO sp x.spare (popStep x.spare m c.q).1) :: pt (some ⟨mp, 0, none⟩) (MemO (popStep x.spare m c.q).2) :: pt (some ⟨r, 0, none⟩) (RoO mp sp x) :: pt (some ⟨sp, 0, none⟩) (SkO mp x.spare) :: G) (by exact ent)
         (crPopped_ (b := b) (r := r) (sp := sp) (p := p) (k := x.spare) (cl := cl) (c := c) (cntW hn) h0 hd hq hlen))
       refine hon.mono ?_
       rintro v L' ⟨rfl, w, rfl⟩
       exact ⟨rfl, .tuple #[], rfl⟩
      ·rintro v L' ⟨rfl, w, _, w2, _, w3, rfl⟩
       refine go ?_
       exact Kr.one (.inr rfl) rfl (Ent.cons (Ent.cons hback)) ⟨rfl, rfl⟩
    | false =>
      have e1 : crStep x.spare x.root cl m c = ({ c with cnt := c.cnt + 1, q := (popStep x.spare m c.q).1 }, (popStep x.spare m c.q).2) := by unfold crStep; rw [hd, h0]; simp only [Bool.false_eq_true, if_false, hq]
      rw [e1]
      refine go ?_
      refine Sx.ca rfl (machStep (b := b) kr_ (machGoes (b := b) kr_ (popStepC (b := p) (mp := mp) (sb := sp) (k := x.spare) (m := m) (q := c.q) hk)
       (R2 := fun v L' => v = .tuple #[] ∧ L' = crB b r (mth 232 b) (mth 163 p) (mth 164 p) (mth 165 b) (.pointer (some ⟨p, 0, none⟩)) cl (IntKind.i64.wrap ((c.cnt : Int) + 1)) c.slot c.point (c.rt cl) c.code ::
        pt (some ⟨p, 0, none⟩) (PopO sp x.spare (popStep x.spare m c.q).1) :: pt (some ⟨mp, 0, none⟩) (MemO (popStep x.spare m c.q).2) :: pt (some ⟨r, 0, none⟩) (RoO mp sp x) :: pt (some ⟨sp, 0, none⟩) (SkO mp x.spare) :: G) ?_)) ?_
      ·rintro v L1 ⟨rfl, rfl⟩
       refine (machOnNo (b := b) kr_ ((popDoneC (b := p) (sb := sp) (k := x.spare) (q := (popStep x.spare m c.q).1)).mono (by rintro v L' ⟨rfl, rfl⟩; exact ⟨by rw [hq], rfl⟩))).mono ?_
       rintro v L' ⟨rfl, rfl⟩
       exact ⟨rfl, rfl⟩
      ·rintro v L' ⟨rfl, w, _, w2, _, rfl⟩
       refine go ?_
       refine Kr.one (.inr rfl) rfl ?_ ⟨rfl, rfl⟩
       refine Ent.trans (CreO.closeP (p := p) { c with cnt := c.cnt + 1, q := (popStep x.spare m c.q).1 } hd h0 (cntW hn) rfl rfl rfl rfl rfl) (Ent.cons ?_)
       exact Ent.cons hback
   ·refine Cx.openp (a := some ⟨b, 0, none⟩) (CreO.l hd h0) ?_
    rintro ⟨n1, n2, n3, pp⟩
    simp only [crSL, List.cons_append, List.nil_append]
    have e1 : crStep x.spare x.root cl m c = ({ c with cnt := c.cnt + 1, was := m.at_ (x.root + c.slot.toNat), at_ := 2 }, m.tick) := by unfold crStep; rw [hd, h0]; rfl
    rw [e1]
    refine Cx.ent (M := crB b r (mth 224 b) n1 n2 n3 pp cl c.cnt c.slot c.point (c.rt cl) c.code :: pt (some ⟨r, 0, none⟩) (RoO mp sp x) :: pt (some ⟨mp, 0, none⟩) (MemO m) :: pt (some ⟨sp, 0, none⟩) (SkO mp x.spare) :: G) (by exact ent) ?_
    refine go ?_
    refine Sx.ca rfl (machStep (b := b) kr_ (crLoad_ (b := b) (r := r) (mp := mp) (sp := sp) (x := x) (m := m) (cl := cl) (c := c) (cntW hn) h0 hd hx hm.1 hl (hs (by omega)))) ?_
    rintro v L' ⟨rfl, w, rfl⟩
    refine go ?_
    exact Kr.one (.inr rfl) rfl (Ent.cons (Ent.cons hback)) ⟨rfl, rfl⟩
   ·refine Cx.openp (a := some ⟨b, 0, none⟩) (CreO.s hd h0) ?_
    rintro ⟨n1, n2, n3, pp⟩
    simp only [crSL, List.cons_append, List.nil_append]
    have e1 : crStep x.spare x.root cl m c = ({ c with cnt := c.cnt + 1, done := true }, m.put (x.root + c.slot.toNat) (nextRt cl c.was).w) := by unfold crStep; rw [hd, h0]; rfl
    rw [e1]
    refine Cx.ent (M := crB b r (mth 252 b) n1 n2 n3 pp cl c.cnt c.slot c.point (c.rt cl) c.code :: pt (some ⟨r, 0, none⟩) (RoO mp sp x) :: pt (some ⟨mp, 0, none⟩) (MemO m) :: pt (some ⟨sp, 0, none⟩) (SkO mp x.spare) :: G) (by exact ent) ?_
    refine go ?_
    refine Sx.ca rfl (machStep (b := b) kr_ (crStore_ (b := b) (r := r) (mp := mp) (sp := sp) (x := x) (m := m) (cl := cl) (c := c) (cntW hn) h0 hcl hx hw hl (hs (by omega)))) ?_
    rintro v L' ⟨rfl, w, rfl⟩
    refine go ?_
    exact Kr.one (.inr rfl) rfl (Ent.cons (Ent.cons hback)) ⟨rfl, rfl⟩
theorem crDone {b r sp : Nat} {k : Sk} {cl : Nat} {c : CreS} {F1 : St} (hd : c.done = true) [t1 : Take L (some ⟨b, 0, none⟩) (CreO r sp k cl c) F1] : Fx Tryz.prog 89 [.pointer (some ⟨b, 0, none⟩)] L (fun v L' => v = .bool true ∧ L = L') := by
 refine Fx.kept (t := t1) ?_
 refine Fx.mk Tryz.func89 k89 nb_ ?_
 dsimp only [c89, kG, kS, kH, kM, kN, kF, kL, envOf, Nat.reduceAdd]
 refine Cx.ent (Ent.of t1.out) ?_
 refine Cx.openp (a := some ⟨b, 0, none⟩) (CreO.d hd) ?_
 rintro ⟨n1, n2, n3, pp⟩
 simp only [crSL, List.cons_append, List.nil_append]
 refine go ?_
 refine Sx.ca rfl (machDoneYes (b := b)) ?_
 rintro v L' ⟨rfl, rfl⟩
 refine go ?_
 exact Kr.one (.inr rfl) rfl (CreO.closeD c hd rfl rfl rfl rfl rfl) ⟨rfl, rfl⟩
theorem crCode {b r sp : Nat} {k : Sk} {cl : Nat} {c : CreS} {F1 : St} (hd : c.done = true) [t1 : Take L (some ⟨b, 0, none⟩) (CreO r sp k cl c) F1] : Fx Tryz.prog 90 [.pointer (some ⟨b, 0, none⟩)] L (fun v L' => v = .int .i64 (c.code : Nat) ∧ L = L') := by
 refine Fx.kept (t := t1) ?_
 refine Fx.mk Tryz.func90 k90 nb_ ?_
 dsimp only [c90, kG, kS, kH, kM, kN, kF, kL, envOf, Nat.reduceAdd]
 refine Cx.ent (Ent.of t1.out) ?_
 refine Cx.openp (a := some ⟨b, 0, none⟩) (CreO.d hd) ?_
 rintro ⟨n1, n2, n3, pp⟩
 simp only [crSL, List.cons_append, List.nil_append]
 refine go ?_
 exact Kr.one (.inr rfl) rfl (CreO.closeD c hd rfl rfl rfl rfl rfl) ⟨rfl, rfl⟩
theorem crRegion {b r sp : Nat} {k : Sk} {cl : Nat} {c : CreS} {F1 : St} (hd : c.done = true) (h2 : c.at_ = 2) (h0 : c.code = 0) [t1 : Take L (some ⟨b, 0, none⟩) (CreO r sp k cl c) F1] : Fx Tryz.prog 88 [.pointer (some ⟨b, 0, none⟩)] L
  (fun v L' => v = .tuple #[.int .i64 c.slot, .int .i64 (laterT (rtOf c.was).gen : Nat)] ∧ L = L') := by
 refine Fx.kept (t := t1) ?_
 have hrt : c.rt cl = nextRt cl c.was := by unfold CreS.rt; rw [if_pos h2]
 refine Fx.mk Tryz.func88 k88 nb_ ?_
 dsimp only [c88, kG, kS, kH, kM, kN, kF, kL, envOf, Nat.reduceAdd]
 refine Cx.ent (Ent.of t1.out) ?_
 refine go ?_
 refine Sx.ca rfl (crDone (b := b) (r := r) (sp := sp) (k := k) (cl := cl) (c := c) hd) ?_
 rintro v L' ⟨rfl, rfl⟩
 refine Sx.openp (a := some ⟨b, 0, none⟩) (CreO.d hd) ?_
 rintro ⟨n1, n2, n3, pp⟩
 simp only [crSL, List.cons_append, List.nil_append]
 rw [h0]
 refine go ?_
 refine Cx.ordc rfl kr_ ?_
 refine ge ?_
 refine go ?_
 refine Kr.two (.inr rfl) rfl rfl (CreO.closeD c hd rfl rfl rfl rfl h0.symm) ⟨?_, rfl⟩
 rw [hrt]; rfl
end
end Go.Proofs.YtflalhdofhobmaaGreat


namespace Go.Proofs.YtflalhdofhobmaaGreat
open Go
attribute [local irreducible] Sx Cx Rx Fx Krg Ksq Kbl Klp Kr
section
variable {L F G : St}
theorem refRootAt {x : Cn} (hx : x.ok) (i : Nat) (hi : i < x.sl) : Fx Tryz.prog 97 [x.v, .int .i64 i] L (fun v L' => v = .int .i64 ((x.root + i : Nat) : Int) ∧ L = L') := by
 obtain ⟨b1, b2, b3, b4, b5, b6, b7⟩ := hx.b
 refine Fx.mk Tryz.func97 k97 nb_ ?_
 dsimp only [c97, kG, kS, kH, kM, kN, kF, kL, envOf, Nat.reduceAdd]
 refine Cx.sq ?_
 refine Cx.rg ?_
 refine Sx.bx rfl rfl fun g => ?_
 refine go ?_
 rw [w64 (n := (3 : Int) + x.w) (by omega) (by omega)]
 refine Sx.ca rfl (refAt hx ((3 : Int) + x.w) x.sl i hi (by omega) (by omega)) ?_
 rintro v L' ⟨rfl, rfl⟩
 refine go ?_
 refine Kr.one (.inr rfl) rfl Ent.drop ⟨congrArg (Value.int .i64) ?_, rfl⟩
 unfold Cn.root; omega
theorem refGetRoot (w : Nat) (hw : w < 18446744073709551616) : Fx Tryz.prog 100 [wd w] L (fun v L' => v = rtV (rtOf w) ∧ L = L') := by
 refine Fx.mk Tryz.func100 k100 nb_ ?_
 dsimp only [c100, kG, kS, kH, kM, kN, kF, kL, envOf, Nat.reduceAdd]
 refine Cx.sq ?_
 refine Cx.rg ?_
 refine Sx.al fun g => ?_
 refine gg ?_
 have h1 := rtOf_gen hw
 have h2 := rtOf_mrk w
 have h3 := rtOf_cl w
 have h4 := rtOf_off w
 have d1 : (w : Int).tdiv 4294967296 = ((w / 4294967296 : Nat) : Int) := rfl
 have d2 : (w : Int).tdiv 65536 = ((w / 65536 : Nat) : Int) := rfl
 have d3 : (w : Int).tdiv 4096 = ((w / 4096 : Nat) : Int) := rfl
 have d4 : ((w / 65536 : Nat) : Int).tmod 65536 = ((w / 65536 % 65536 : Nat) : Int) := rfl
 have d5 : ((w / 4096 : Nat) : Int).tmod 16 = ((w / 4096 % 16 : Nat) : Int) := rfl
 have d6 : (w : Int).tmod 4096 = ((w % 4096 : Nat) : Int) := rfl
 rw [d1, d2, d3, d6, wrap64 (n := w / 4294967296) (by omega), wrap64 (n := w / 65536) (by omega), wrap64 (n := w / 4096) (by omega), d4, d5]
 rw [show w / 4294967296 = (rtOf w).gen from rfl, show w / 65536 % 65536 = (rtOf w).mrk from rfl, show w / 4096 % 16 = (rtOf w).cl from rfl, show w % 4096 = (rtOf w).off from rfl]
 rw [w64 (n := ((rtOf w).gen : Int)) (by omega) (by omega), w64 (n := ((rtOf w).mrk : Int)) (by omega) (by omega), w64 (n := ((rtOf w).cl : Int)) (by omega) (by omega), w64 (n := ((rtOf w).off : Int)) (by omega) (by omega)]
 refine Sx.st (b := g) rfl rfl rfl rfl rfl rfl ?_
 dsimp only [lay]
 refine go ?_
 exact Kr_cell (b := g) (.inr rfl) rfl rfl (L' := L) Ent.drop ⟨rfl, rfl⟩
theorem refLater (n : Nat) (h : n < 4294967296) : Fx Tryz.prog 169 [.int .i64 n] L (fun v L' => v = .int .i64 (laterT n : Nat) ∧ L = L') := by
 refine Fx.mk Tryz.func169 k169 nb_ ?_
 dsimp only [c169, kG, kS, kH, kM, kN, kF, kL, envOf, Nat.reduceAdd]
 repeat' (first|refine Zo0 rfl ?_|refine Zo1 ?_|refine Zo2 ?_|refine Zo3 ?_|refine Zo4 ?_|refine Zo5 ?_|refine Zo6 ?_|refine Zo7 ?_|refine Zo8 rfl ?_|refine Zo9 rfl ?_|refine Zoa ?_|refine Zob ?_|refine Zoc ?_|refine Zod ?_|refine Zoe ?_|refine Zof ?_|refine Zog ?_|refine Zoh ?_|refine Zom rfl (by rfl) ?_|refine Zon rfl rfl ?_|refine Zoo rfl rfl rfl rfl (by rfl) (by rfl) ?_|refine Zop rfl trivial ?_|refine Zoq rfl rfl rfl ?_)
 refine Cx.ifp rfl (fun h => ?_) (fun h => ?_)
 ·refine go ?_
  refine Kr.one (.inr rfl) rfl (Ent.refl _) ⟨by unfold laterT; rw [if_neg (by omega)]; rfl, rfl⟩
 ·refine go ?_
  rw [w64 (n := (n : Int) + 1) (by omega) (by omega)]
  refine Kr.one (.inr rfl) rfl (Ent.refl _) ⟨by unfold laterT; rw [if_pos (by omega)]; rfl, rfl⟩
set_option maxHeartbeats 1000000 in
theorem refPutRoot (r : Rt) (h : r.ok) : Fx Tryz.prog 101 [rtV r] L (fun v L' => v = .tuple #[wd r.w, .bool true] ∧ L = L') := by
 obtain ⟨h1, h2, h3, h4⟩ := h
 refine Fx.mk Tryz.func101 k101 nb_ ?_
 dsimp only [c101, kG, kS, kH, kM, kN, kF, kL, envOf, Nat.reduceAdd]
 refine Cx.sq ?_
 refine Cx.rg ?_
 refine Sx.bx rfl rfl fun g => ?_
 refine go ?_
 refine Sx.ca rfl (in_ (r.gen : Int) 0 4294967295) ?_
 rintro v L' ⟨rfl, rfl⟩
 rw [decide_eq_true (show (0 : Int) ≤ r.gen ∧ (r.gen : Int) ≤ 4294967295 by omega)]
 refine go ?_
 refine Sx.ca rfl (in_ (r.mrk : Int) 0 4097) ?_
 rintro v L' ⟨rfl, rfl⟩
 rw [decide_eq_true (show (0 : Int) ≤ r.mrk ∧ (r.mrk : Int) ≤ 4097 by omega)]
 refine go ?_
 refine Sx.ca rfl (in_ (r.cl : Int) 0 3) ?_
 rintro v L' ⟨rfl, rfl⟩
 rw [decide_eq_true (show (0 : Int) ≤ r.cl ∧ (r.cl : Int) ≤ 3 by omega)]
 refine go ?_
 refine Sx.ca rfl (in_ (r.off : Int) 0 1024) ?_
 rintro v L' ⟨rfl, rfl⟩
 rw [decide_eq_true (show (0 : Int) ≤ r.off ∧ (r.off : Int) ≤ 1024 by omega)]
 refine go ?_
 refine Kr.two (.inr rfl) rfl rfl Ent.drop ⟨?_, rfl⟩
 rw [wrap64 (n := r.gen) (by omega), wrap64 (n := r.mrk) (by omega), wrap64 (n := r.cl) (by omega), wrap64 (n := r.off) (by omega)]
 rw [wu64 (n := (r.gen : Int) * 4294967296) (by omega) (by omega), wu64 (n := (r.mrk : Int) * 65536) (by omega) (by omega), wu64 (n := (r.cl : Int) * 4096) (by omega) (by omega),
  wu64 (n := (r.gen : Int) * 4294967296 + r.mrk * 65536) (by omega) (by omega), wu64 (n := (r.gen : Int) * 4294967296 + r.mrk * 65536 + r.cl * 4096) (by omega) (by omega), wu64 (n := (r.gen : Int) * 4294967296 + r.mrk * 65536 + r.cl * 4096 + r.off) (by omega) (by omega)]
 rw [show (r.gen : Int) * 4294967296 + r.mrk * 65536 + r.cl * 4096 + r.off = ((r.w : Nat) : Int) by unfold Rt.w; omega]
def CreS.rslot (c : CreS) : Int := if c.at_ = 0 then 0 else c.slot
def CreS.rgen (c : CreS) : Nat := if c.done = true ∧ c.at_ = 2 then laterT (rtOf c.was).gen else 0
abbrev rcrV (w cl at_ : Nat) (cnt : Int) (point : Nat) (slot : Int) (gen p : Nat) (rt : Rt) (code : Nat) (d : Bool) : List Value :=
 [.pointer (some ⟨w, 0, none⟩), .int .i64 (cl : Nat), .int .i64 (at_ : Nat), .int .i64 cnt, .int .i64 (point : Nat), .int .i64 slot, .int .i64 (gen : Nat), .pointer (some ⟨p, 0, none⟩), .int .i64 (rt.gen : Nat), .int .i64 (rt.mrk : Nat), .int .i64 (rt.cl : Nat), .int .i64 (rt.off : Nat), .int .i64 (code : Nat), .bool d]
def rcrL (T : TypeId) (w rs cl : Nat) (c : CreS) (a : Option Addr) (p : Nat) : St :=
 [pt a (Blk T [.pointer (some ⟨w, 0, none⟩), .int .i64 (cl : Nat), .int .i64 (c.at_ : Nat), .int .i64 (c.cnt : Nat), .int .i64 (c.point : Nat), .int .i64 c.rslot, .int .i64 (c.rgen : Nat), .pointer (some ⟨p, 0, none⟩), .int .i64 ((rtOf c.was).gen : Nat), .int .i64 ((rtOf c.was).mrk : Nat), .int .i64 ((rtOf c.was).cl : Nat), .int .i64 ((rtOf c.was).off : Nat), .int .i64 (c.code : Nat), .bool c.done]), pt (some ⟨p, 0, none⟩) (RPopO rs c.q)]
def RCreT (T : TypeId) (w rs cl : Nat) (c : CreS) (a : Option Addr) : As := exs (rcrL T w rs cl c a)
abbrev RCreO := RCreT 164
theorem RCreO.close {b w rs cl p at_ point gen code : Nat} {cnt slot : Int} {rt : Rt} {d : Bool} {q : PopS} (c : CreS) (e1 : at_ = c.at_) (e2 : cnt = (c.cnt : Nat)) (e3 : point = c.point) (e4 : slot = c.rslot) (e5 : gen = c.rgen) (e6 : rt = rtOf c.was) (e7 : code = c.code) (e8 : d = c.done) (e9 : q = c.q) :
  Ent (pt (some ⟨b, 0, none⟩) (Blk 164 (rcrV w cl at_ cnt point slot gen p rt code d)) :: pt (some ⟨p, 0, none⟩) (RPopO rs q) :: G) (pt (some ⟨b, 0, none⟩) (RCreO w rs cl c) :: G) := by
 subst e1 e2 e3 e4 e5 e6 e7 e8 e9
 exact Ent.close (f := rcrL 164 w rs cl c (some ⟨b, 0, none⟩)) rfl p
theorem refCreate {w rm rp rs re : Nat} {x : Cn} (cl : Nat) (hcl : cl ≤ 3) [c : Take L (some ⟨w, 0, none⟩) (RWO x rm rp rs re) F] {F2 : St} [s : Take F (some ⟨rs, 0, none⟩) (RSkO rm x.spare) F2] :
  Fx Tryz.prog 85 [.pointer (some ⟨w, 0, none⟩), .int .i64 cl] L (fun v L' => ∃ b, v = .pointer (some ⟨b, 0, none⟩) ∧ L' = pt (some ⟨b, 0, none⟩) (RCreO w rs cl CreS.init) :: L) := by
 refine Fx.mk Tryz.func85 k85 nb_ ?_
 dsimp only [c85, kG, kS, kH, kM, kN, kF, kL, envOf, Nat.reduceAdd]
 refine Cx.ent (Ent.trans (Ent.of c.out) (Ent.cons (Ent.of s.out))) ?_
 refine go ?_
 have e1 : (bif true then (if (cl : Int) < 0 then (0 : Int) else (cl : Int)) else (if (0 : Int) < (cl : Int) then (0 : Int) else (cl : Int))) = cl := by
  rw [cond_true, if_neg (by omega)]
 have e2 : (bif false then (if (cl : Int) < 3 then (3 : Int) else (cl : Int)) else (if (3 : Int) < (cl : Int) then (3 : Int) else (cl : Int))) = cl := by
  rw [cond_false, if_neg (by omega)]
 rw [e1, e2]
 refine Sx.ca rfl (refPopNew (sb := rs) (rm := rm) (k := x.spare) 1) ?_
 rintro v L' ⟨p, rfl, rfl⟩
 refine go ?_
 refine Sx.bx rfl rfl fun b => ?_
 refine Sx.re (rcrV w cl 0 0 0 0 0 p ⟨0, 0, 0, 0⟩ 0 false) rfl ?_
 refine go ?_
 refine Kr.one (.inr rfl) rfl ?_ ⟨b, rfl, rfl⟩
 refine Ent.trans (RCreO.close (b := b) (w := w) (rs := rs) (cl := cl) (p := p) CreS.init rfl rfl rfl rfl rfl rfl rfl rfl rfl) (Ent.cons ?_)
 exact Ent.trans (Ent.cons (Ent.of s.back)) (Ent.of c.back)
set_option maxHeartbeats 2000000 in
theorem refCrStep {b w rm rp rs re : Nat} {x : Cn} {m : Mm} {cl : Nat} {c : CreS} {F1 F2 F3 : St} (hx : x.ok) (hl : x.len ≤ m.ws.length) (hcl : cl ≤ 3) (hc : c.ok x.spare)
  [t1 : Take L (some ⟨b, 0, none⟩) (RCreO w rs cl c) F1] [t2 : Take F1 (some ⟨rm, 0, none⟩) (RMemO m) F2] [t3 : Take F2 (some ⟨w, 0, none⟩) (RWO x rm rp rs re) F3] [t4 : Take F3 (some ⟨rs, 0, none⟩) (RSkO rm x.spare) G] :
  Fx Tryz.prog 87 [.pointer (some ⟨b, 0, none⟩)] L
   (fun v L' => v = .bool (!c.done) ∧ L' = pt (some ⟨b, 0, none⟩) (RCreO w rs cl (crStep x.spare x.root cl m c).1) :: pt (some ⟨rm, 0, none⟩) (RMemO (crStep x.spare x.root cl m c).2) :: F2) := by
 have hsz : x.root + x.sl ≤ x.len := by unfold Cn.root Cn.len; omega
 have hback : Ent (pt (some ⟨w, 0, none⟩) (RWO x rm rp rs re) :: pt (some ⟨rs, 0, none⟩) (RSkO rm x.spare) :: G) F2 := Ent.trans (Ent.cons (Ent.of t4.back)) (Ent.of t3.back)
 obtain ⟨ha, hq0, hw, hs, hn⟩ := hc
 refine Fx.mk Tryz.func87 k87 nb_ ?_
 dsimp only [c87, kG, kS, kH, kM, kN, kF, kL, envOf, Nat.reduceAdd]
 refine Cx.ent (Ent.trans (Ent.of t1.out) (Ent.cons (Ent.trans (Ent.of t2.out) (Ent.cons (Ent.trans (Ent.of t3.out) (Ent.cons (Ent.of t4.out))))))) ?_
 refine Cx.pure (rmemKey (rm := rm) (m := m)) fun hm => ?_
 have hk := hx.spare (n := m.ws.length) hl hm.2
 refine Cx.openp (a := some ⟨b, 0, none⟩) rfl ?_
 intro p
 simp only [rcrL, List.cons_append, List.nil_append]
 cases hd : c.done with
 | true =>
   have e1 : crStep x.spare x.root cl m c = (c, m) := by unfold crStep; rw [hd]; rfl
   rw [e1]
   refine go ?_
   refine Kr.one (.inr rfl) rfl (Ent.trans (RCreO.close (w := w) (rs := rs) (rt := rtOf c.was) (d := true) c rfl rfl rfl rfl rfl rfl rfl hd.symm rfl) (Ent.cons (Ent.cons hback))) ⟨rfl, rfl⟩
 | false =>
   refine go ?_
   rw [cntW hn]
   refine go ?_
   rcases (show c.at_ = 0 ∨ c.at_ = 1 ∨ c.at_ = 2 by omega) with h0 | h0 | h0
   ·rw [h0]
    refine go ?_
    have hlen := cr_l (m := m) hq0 hk hm.1
    refine Sx.ca rfl (refPopStep (b := p) (sb := rs) (rm := rm) (k := x.spare) (m := m) (q := c.q) hk hq0) ?_
    rintro v L' ⟨rfl, rfl⟩
    refine go ?_
    obtain ⟨Q, hQ⟩ : ∃ Q, Q = (popStep x.spare m c.q).1 := ⟨_, rfl⟩
    rw [← hQ] at hlen ⊢
    refine Sx.openp (a := some ⟨p, 0, none⟩) rfl ?_
    rintro ⟨ro, co⟩
    simp only [rpopL, List.cons_append, List.nil_append]
    cases hq : Q.done with
    | false =>
      have e1 : crStep x.spare x.root cl m c = ({ c with cnt := c.cnt + 1, q := Q }, (popStep x.spare m c.q).2) := by unfold crStep; rw [hd, h0, hQ]; rw [hQ] at hq; simp only [Bool.false_eq_true, if_false, hq]
      rw [e1]
      refine go ?_
      refine Kr.one (.inr rfl) rfl ?_ ⟨rfl, rfl⟩
      refine Ent.trans (RPopO.close (sb := rs) (a := some ⟨p, 0, none⟩) (r := ro) Q rfl rfl rfl rfl rfl rfl (by rw [hq]) rfl) ?_
      refine Ent.trans (Ent.take (a := some ⟨b, 0, none⟩)) ?_
      refine Ent.trans (RCreO.close (w := w) (rs := rs) (rt := rtOf c.was) (d := false) { c with cnt := c.cnt + 1, q := Q } h0.symm rfl rfl rfl ?_ rfl rfl hd.symm rfl) (Ent.cons (Ent.cons hback))
      rfl
    | true =>
      have e1 : crStep x.spare x.root cl m c = (crPopped { c with cnt := c.cnt + 1, q := Q }, (popStep x.spare m c.q).2) := by unfold crStep; rw [hd, h0, hQ]; rw [hQ] at hq; simp only [Bool.false_eq_true, if_false, hq, if_true]
      rw [e1]
      refine go ?_
      refine Sx.ent (Ent.trans (RPopO.close (sb := rs) (a := some ⟨p, 0, none⟩) (r := ro) Q rfl rfl rfl rfl rfl rfl (by rw [hq]) rfl) (Ent.refl _)) ?_
      refine Sx.ca rfl (refPopGot (b := p) (sb := rs) (rm := rm) (k := x.spare) (q := Q) hq hlen) ?_
      rintro v L' ⟨r1, c1, rfl, rfl⟩
      refine go ?_
      cases hg : Q.got with
      | nil =>
        have e2 : crPopped { c with cnt := c.cnt + 1, q := Q } = { c with cnt := c.cnt + 1, q := Q, point := c.cnt + 1, code := 7, done := true } := by unfold crPopped; rw [hg]
        rw [e2]
        refine go ?_
        refine Kr.one (.inr rfl) rfl ?_ ⟨rfl, rfl⟩
        refine Ent.trans (Ent.take (a := some ⟨b, 0, none⟩)) ?_
        refine Ent.trans (Ent.cons (Ent.take (a := some ⟨p, 0, none⟩))) ?_
        refine Ent.trans (RCreO.close (w := w) (rs := rs) (rt := rtOf c.was) (d := true) { c with cnt := c.cnt + 1, q := Q, point := c.cnt + 1, code := 7, done := true } h0.symm rfl rfl rfl ?_ rfl rfl rfl rfl) (Ent.cons ?_)
        ·unfold CreS.rgen
         dsimp only
         rw [if_neg (by simp [hd]), if_neg (by simp [h0])]
        ·refine Ent.trans (Ent.take (a := some ⟨rm, 0, none⟩)) (Ent.cons ?_)
         refine Ent.trans ?_ hback
         exact ent
      | cons y l =>
        have e2 : crPopped { c with cnt := c.cnt + 1, q := Q } = { c with cnt := c.cnt + 1, q := Q, point := c.cnt + 1, slot := y, at_ := 1 } := by unfold crPopped; rw [hg]
        rw [e2]
        rw [hg] at hlen
        simp only [List.length_cons] at hlen ⊢
        refine Cx.cno rfl (decide_eq_false (by omega)) ?_
        refine Cx.rowkey (a := r1) fun hx0 hn0 hc0 hk0 => ?_
        obtain ⟨rg, rfl⟩ : ∃ g, r1 = some ⟨g, 0, none⟩ := by
         rcases hk0 with h | h
         ·omega
         ·exact h
        refine go ?_
        refine Sx.pv rfl ⟨by omega, by omega⟩ ?_
        refine Sx.ldr (b := rg) rfl (v := .int .i64 y) rfl ?_
        refine go ?_
        refine Kr.one (.inr rfl) rfl ?_ ⟨rfl, rfl⟩
        refine Ent.trans (Ent.take (a := some ⟨b, 0, none⟩)) ?_
        refine Ent.trans (Ent.cons (Ent.take (a := some ⟨p, 0, none⟩))) ?_
        refine Ent.trans (RCreO.close (w := w) (rs := rs) (rt := rtOf c.was) (d := false) { c with cnt := c.cnt + 1, q := Q, point := c.cnt + 1, slot := y, at_ := 1 } rfl rfl rfl rfl ?_ rfl rfl hd.symm rfl) (Ent.cons ?_)
        ·unfold CreS.rgen
         dsimp only
         rw [if_neg (by simp [hd]), if_neg (by simp [hd])]
        ·refine Ent.trans ?_ (Ent.cons hback)
         exact ent
   ·have e1 : crStep x.spare x.root cl m c = ({ c with cnt := c.cnt + 1, was := m.at_ (x.root + c.slot.toNat), at_ := 2 }, m.tick) := by unfold crStep; rw [hd, h0]; rfl
    have hs' := hs (by omega)
    have hs2 : c.slot < x.sl := hs'.2
    obtain ⟨s, hs1⟩ : ∃ s : Nat, c.slot = s := ⟨c.slot.toNat, by omega⟩
    have er : c.rslot = s := by unfold CreS.rslot; rw [if_neg (by omega), hs1]
    rw [e1, h0, er, hs1, Int.toNat_natCast]
    refine go ?_
    refine Cx.ordc rfl kr_ ?_
    refine ge ?_
    refine Ev.cakH kr_ rfl rfl (refRootAt hx s (by omega)) ?_
    refine ge ?_
    refine Ev.caH kr_ rfl rfl (refLoad (rm := rm) (m := m) (x.root + s) (by omega)) (Pres.deps kr_) ?_
    rintro v L' ⟨rfl, rfl⟩
    refine ge ?_
    have hwl := Mm.at_lt hm.1 (x.root + s)
    refine Ev.cakH kr_ rfl rfl (refGetRoot (m.at_ (x.root + s)) hwl) ?_
    refine ge ?_
    refine Ev.stnH (b := b) (rcrV w cl 1 ((c.cnt + 1 : Nat) : Int) c.point s c.rgen p (rtOf (m.at_ (x.root + s))) c.code false) kr_ rfl rfl rfl rfl rfl rfl rfl rfl (Pres.deps kr_) ?_
    refine ge ?_
    refine go ?_
    refine Kr.one (.inr rfl) rfl ?_ ⟨rfl, rfl⟩
    refine Ent.trans (Ent.take (a := some ⟨b, 0, none⟩)) ?_
    refine Ent.trans (Ent.cons (Ent.take (a := some ⟨p, 0, none⟩))) ?_
    refine Ent.trans (RCreO.close (w := w) (rs := rs) (rt := rtOf (m.at_ (x.root + s))) (d := false) { c with cnt := c.cnt + 1, slot := (s : Int), was := m.at_ (x.root + s), at_ := 2 } rfl rfl rfl rfl ?_ rfl rfl hd.symm rfl) (Ent.cons ?_)
    ·unfold CreS.rgen
     dsimp only
     rw [if_neg (by simp [hd]), if_neg (by simp [hd])]
    ·refine Ent.trans ?_ (Ent.cons hback)
     exact ent
   ·have e1 : crStep x.spare x.root cl m c = ({ c with cnt := c.cnt + 1, done := true }, m.put (x.root + c.slot.toNat) (nextRt cl c.was).w) := by unfold crStep; rw [hd, h0]; rfl
    have hs' := hs (by omega)
    have hs2 : c.slot < x.sl := hs'.2
    obtain ⟨s, hs1⟩ : ∃ s : Nat, c.slot = s := ⟨c.slot.toNat, by omega⟩
    have er : c.rslot = s := by unfold CreS.rslot; rw [if_neg (by omega), hs1]
    have hnk := nextRt_ok (cl := cl) hw hcl
    rw [e1, h0, er, hs1, Int.toNat_natCast]
    refine go ?_
    refine Sx.ca rfl (refLater (rtOf c.was).gen (rtOf_gen hw)) ?_
    rintro v L' ⟨rfl, rfl⟩
    refine go ?_
    refine Cx.ordc rfl kr_ ?_
    refine ge ?_
    refine Ev.cakH kr_ rfl rfl (refPutRoot (nextRt cl c.was) hnk) ?_
    refine ge ?_
    refine go ?_
    refine Cx.ordc rfl kr_ ?_
    refine ge ?_
    refine Ev.cakH kr_ rfl rfl (refRootAt hx s (by omega)) ?_
    refine ge ?_
    refine Ev.caH kr_ rfl rfl (refStore (rm := rm) (m := m) (x.root + s) (nextRt cl c.was).w (by omega) (Rt.w_lt hnk)) (Pres.deps kr_) ?_
    rintro v L' ⟨rfl, rfl⟩
    refine ge ?_
    refine go ?_
    refine Kr.one (.inr rfl) rfl ?_ ⟨rfl, rfl⟩
    refine Ent.trans (Ent.take (a := some ⟨b, 0, none⟩)) ?_
    refine Ent.trans (Ent.cons (Ent.take (a := some ⟨p, 0, none⟩))) ?_
    refine Ent.trans (RCreO.close (w := w) (rs := rs) (rt := rtOf c.was) (d := true) { c with at_ := 2, cnt := c.cnt + 1, slot := (s : Int), done := true } rfl rfl rfl rfl ?_ rfl rfl rfl rfl) (Ent.cons ?_)
    ·unfold CreS.rgen
     dsimp only
     rw [if_pos ⟨rfl, rfl⟩]
    ·refine Ent.trans ?_ (Ent.cons hback)
     exact ent
end
end Go.Proofs.YtflalhdofhobmaaGreat


namespace Go.Proofs.YtflalhdofhobmaaGreat
open Go
attribute [local irreducible] Sx Cx Rx Fx Krg Ksq Kbl Klp Kr
theorem itI_some {l : List Int} {i : Nat} (h : i < l.length) : (ints l)[i]? = some (.int .i64 (itI l i)) := by simp [ints, itI, h]
section
variable {L F G : St}
theorem Rd.pre {a : Option Addr} {n m : Nat} {vs : List Value} (h : Rd L 1 a n vs) (hm : m ≤ n) : Rd L 1 a m (vs.take m) := by
 obtain ⟨h1, h2⟩ := h
 refine ⟨by rw [List.length_take]; omega, ?_⟩
 rcases h2 with h0 | ⟨b, o, rfl, hh⟩
 ·left; omega
 ·right
  have := hh.sub (i := 0) (n := m)
  exact ⟨b, o, rfl, by simpa using this⟩
theorem Rd.get1 {a : Option Addr} {n i : Nat} {vs : List Value} {v : Value} (h : Rd L 1 a n vs) (hv : vs[i]? = some v) : ∃ b o, a = some ⟨b, o, none⟩ ∧ Has L b (o + i) [v] := by
 have hlt := (List.getElem?_eq_some_iff.1 hv).1
 obtain ⟨h1, h0 | ⟨b, o, rfl, h2⟩⟩ := h
 ·omega
 ·exact ⟨b, o, rfl, (h2.sub (i := i) (n := 1)).one (take_one hv)⟩
theorem sliceIndex {a : Option Addr} {n c : Nat} {xs : List Int} (x : Int) (hr : Rd L 1 a n (ints xs)) (hn : n ≤ 1000000000) :
  Fx Tryz.prog 269 [.slice a n c, .int .i64 x] L (fun v L' => (∃ i : Int, v = .int .i64 i ∧ (0 ≤ i ↔ x ∈ xs)) ∧ L = L') := by
 have hl : xs.length = n := by have := hr.1; simpa [ints] using this
 refine Fx.mk Tryz.func269 k269 nb_ ?_
 dsimp only [c269, kG, kS, kH, kM, kN, kF, kL, envOf, Nat.reduceAdd]
 refine go ?_
 refine Cx.lp (α := {i : Nat // i ≤ n ∧ x ∉ xs.take i}) (fun i => [(0, .slice a n c), (1, .int .i64 x), (7, .int .i64 n), (8, .int .i64 i.1)]) (fun _ => L) (fun i => n - i.1) ⟨0, by omega, by simp⟩ (sub.cons rfl (sub.cons rfl (sub.cons rfl (sub.cons rfl sub.nil)))) (Ent.refl _) ?_
 rintro ⟨i, hi, hni⟩
 dsimp only
 refine go ?_
 refine Cx.ifp rfl (fun h => ?_) (fun h => ?_)
 ·have hv := itI_some (l := xs) (i := i) (by omega)
  obtain ⟨b, o, rfl, hh⟩ := hr.get1 hv
  refine go ?_
  refine Sx.pv rfl ⟨by omega, by omega⟩ ?_
  refine Sx.ld rfl (by simpa using hh) rfl ?_
  refine go ?_
  refine Cx.ifp rfl (fun e => ?_) (fun e => ?_)
  ·refine go ?_
   refine Kr.one (.inr rfl) rfl (Ent.refl _) ⟨⟨i, rfl, fun _ => ?_, fun _ => by omega⟩, rfl⟩
   rw [e]
   exact itI_mem (by omega)
  ·refine go ?_
   rw [w64 (by omega) (by omega)]
   refine Klp.nm ⟨i + 1, by omega, ?_⟩ (sub.cons rfl (sub.cons rfl (sub.cons rfl (sub.cons rfl sub.nil)))) (Ent.refl _) (by dsimp only; omega)
   rw [List.take_succ_eq_append_getElem (by omega), List.mem_append]
   rintro (h1 | h1)
   ·exact hni h1
   ·rw [List.mem_singleton] at h1
    exact e (h1.trans (by simp [itI, show i < xs.length by omega]))
 ·obtain rfl : i = n := by omega
  rw [← hl, List.take_length] at hni
  refine go ?_
  exact Kr.one (.inr rfl) rfl (Ent.refl _) ⟨⟨-1, rfl, by simp [hni]⟩, rfl⟩
theorem sliceContains {a : Option Addr} {n c : Nat} {xs : List Int} (x : Int) (hr : Rd L 1 a n (ints xs)) (hn : n ≤ 1000000000) :
  Fx Tryz.prog 265 [.slice a n c, .int .i64 x] L (fun v L' => v = .bool (decide (x ∈ xs)) ∧ L = L') := by
 refine Fx.mk Tryz.func265 k265 nb_ ?_
 dsimp only [c265, kG, kS, kH, kM, kN, kF, kL, envOf, Nat.reduceAdd]
 refine go ?_
 refine Sx.ca rfl (sliceIndex (a := a) (n := n) (c := c) (xs := xs) x hr hn) ?_
 rintro v L' ⟨⟨i, rfl, hi⟩, rfl⟩
 refine go ?_
 exact Kr.one (.inr rfl) rfl (Ent.refl _) ⟨congrArg Value.bool (decide_eq_decide.2 hi), rfl⟩
def pushI (p : PushS) : Nat := min p.at_ (p.l.length - 1)
def pushFn (p : PushS) : FuncId := if p.at_ + 1 < p.l.length then 267 else if p.at_ + 1 = p.l.length then 266 else if p.at_ = p.l.length then 270 else 272
def pushNx (a : Option Addr) (p : PushS) : Value := bif p.done then .nilFunc else .func (.func (pushFn p)) #[.pointer a] #[]
def pushL (T : TypeId) (sb : Nat) (k : Sk) (p : PushS) (a : Option Addr) (y : (Option Addr × Nat) × Int) : St :=
 [lift (p.ok k), pt a (Blk T [pushNx a p, .nilFunc, .nilFunc, .nilFunc, .int .i64 y.2, .pointer (some ⟨sb, 0, none⟩), .slice y.1.1 p.l.length y.1.2, .int .i64 (pushI p : Nat), wd p.was]), pt y.1.1 (Row 3 1 p.l.length y.1.2 (ints p.l))]
def PushT (T : TypeId) (sb : Nat) (k : Sk) (p : PushS) (a : Option Addr) : As := exs (pushL T sb k p a)
abbrev PushO := PushT 296
theorem PushO.close {T : TypeId} {sb : Nat} {k : Sk} {a r : Option Addr} {c n : Nat} {cnt : Int} {v0 v1 v2 : Value} {w : List Value} {F G : St} (p : PushS) (hp : p.ok k)
  [t : Take L a (Blk T [v0, .nilFunc, .nilFunc, .nilFunc, .int .i64 cnt, .pointer (some ⟨sb, 0, none⟩), .slice r n c, v1, v2]) F] [u : Take F r (Row 3 1 n c w) G]
  (h0 : v0 = pushNx a p) (h1 : v1 = .int .i64 (pushI p : Nat)) (h2 : v2 = wd p.was) (hn : n = p.l.length) (hw : w = ints p.l) : Ent L (pt a (PushT T sb k p) :: G) := by
 subst h0; subst h1; subst h2; subst hn; subst hw
 refine Ent.trans (Ent.take1 (t := t) (Ent.of u.out)) ?_
 refine Ent.trans (Ent.lift hp (Ent.refl _)) ?_
 exact Ent.close (f := pushL T sb k p a) rfl ((r, c), cnt)
set_option maxHeartbeats 2000000 in
theorem stackPush {sb mp : Nat} {k : Sk} {a : Option Addr} {n c : Nat} {l : List Int} (hr : Rd L 1 a n (ints l)) (hc : n ≤ c) (hn : n ≤ 1000000000) [s : Take L (some ⟨sb, 0, none⟩) (SkO mp k) F] :
  Fx Tryz.prog 258 [.pointer (some ⟨sb, 0, none⟩), .slice a n c] L (fun v L' =>
   (¬ (l.Nodup ∧ ∀ x ∈ l, 0 ≤ x ∧ x < k.n) ∧ v = .tuple #[.pointer none, .int .i64 1] ∧ L = L') ∨
   ((l.Nodup ∧ ∀ x ∈ l, 0 ≤ x ∧ x < k.n) ∧ ∃ g, v = .tuple #[.pointer (some ⟨g, 0, none⟩), .int .i64 0] ∧ L' = pt (some ⟨g, 0, none⟩) (PushO sb k (PushS.init l)) :: L)) := by
 have hl : l.length = n := by have := hr.1; simpa [ints] using this
 refine Fx.mk Tryz.func258 k258 nb_ ?_
 dsimp only [c258, kG, kS, kH, kM, kN, kF, kL, envOf, Nat.reduceAdd]
 refine go ?_
 refine Cx.lp (α := {i : Nat // i ≤ n ∧ (l.take i).Nodup ∧ ∀ x ∈ l.take i, 0 ≤ x ∧ x < k.n}) (fun i => [(0, .pointer (some ⟨sb, 0, none⟩)), (1, .slice a n c), (9, .slice a n c), (10, .int .i64 n), (11, .int .i64 i.1)]) (fun _ => L) (fun i => n - i.1)
  ⟨0, by omega, by simp, by simp⟩ (sub.cons rfl (sub.cons rfl (sub.cons rfl (sub.cons rfl (sub.cons rfl sub.nil))))) (Ent.refl _) ?_
 rintro ⟨i, hi, hnd, hrg⟩
 dsimp only
 refine go ?_
 refine Cx.ifp rfl (fun h => ?_) (fun h => ?_)
 ·have hv := itI_some (l := l) (i := i) (by omega)
  obtain ⟨b, o, rfl, hh⟩ := hr.get1 hv
  have hmem := itI_mem (l := l) (i := i) (by omega)
  have hbad : ∀ (hb : ¬ ((0 ≤ itI l i ∧ itI l i < k.n) ∧ itI l i ∉ l.take i)), ¬ (l.Nodup ∧ ∀ x ∈ l, 0 ≤ x ∧ x < k.n) := by
   rintro hb ⟨g1, g2⟩
   refine hb ⟨g2 _ hmem, fun hin => ?_⟩
   obtain ⟨j, hj, e⟩ := List.getElem_of_mem hin
   have hj' : j < i := by rw [List.length_take] at hj; omega
   rw [List.getElem_take] at e
   have e2 : itI l i = l[i]'(by omega) := by simp [itI, show i < l.length by omega]
   have := (List.getElem_inj g1).1 (e.trans e2)
   omega
  refine go ?_
  refine Sx.pv rfl ⟨by omega, by omega⟩ ?_
  refine Sx.ld rfl (by simpa using hh) rfl ?_
  refine go ?_
  refine Sx.ifp rfl (fun h1 => ?_) (fun h1 => ?_)
  ·refine go ?_
   exact Kr.two (.inr rfl) rfl rfl (Ent.refl _) (.inl ⟨hbad fun hg => by omega, rfl, rfl⟩)
  ·refine go ?_
   refine Sx.ifp rfl (fun h2 => ?_) (fun h2 => ?_)
   ·refine go ?_
    exact Kr.two (.inr rfl) rfl rfl (Ent.refl _) (.inl ⟨hbad fun hg => by omega, rfl, rfl⟩)
   ·refine go ?_
    refine Sx.pv rfl ⟨by omega, by omega⟩ ?_
    refine go ?_
    have hpre : Rd L 1 (some ⟨b, o, none⟩) (i : Int).toNat (ints (l.take i)) := by
     have := hr.pre (m := i) (by omega)
     rw [show (i : Int).toNat = i by omega]
     rwa [show (ints l).take i = ints (l.take i) by simp [ints]] at this
    refine Sx.ca rfl (sliceContains (xs := l.take i) (itI l i) hpre (by omega)) ?_
    rintro v L' ⟨rfl, rfl⟩
    refine go ?_
    refine Cx.ifp rfl (fun h3 => ?_) (fun h3 => ?_)
    ·refine go ?_
     exact Kr.two (.inr rfl) rfl rfl (Ent.refl _) (.inl ⟨hbad fun hg => hg.2 h3, rfl, rfl⟩)
    ·refine go ?_
     rw [w64 (by omega) (by omega)]
     have ht : l.take (i + 1) = l.take i ++ [itI l i] := by
      rw [List.take_succ_eq_append_getElem (by omega)]; simp [itI, show i < l.length by omega]
     refine Klp.nm ⟨i + 1, by omega, ?_, ?_⟩ (sub.cons rfl (sub.cons rfl (sub.cons rfl (sub.cons rfl (sub.cons rfl sub.nil))))) (Ent.refl _) (by dsimp only; omega)
     ·rw [ht, List.nodup_append]
      refine ⟨hnd, by simp, ?_⟩
      intro x hx y hy e
      rw [List.mem_singleton] at hy
      exact h3 (by rw [← hy, ← e]; exact hx)
     ·rw [ht]
      intro x hx
      rcases List.mem_append.1 hx with hx | hx
      ·exact hrg x hx
      ·rw [List.mem_singleton] at hx
       subst hx
       omega
 ·obtain rfl : i = n := by omega
  rw [← hl, List.take_length] at hnd hrg
  refine go ?_
  refine Sx.ca rfl (clone hr (ones_ints _) hn) ?_
  rintro v L' ⟨ra, ca, rfl, rfl⟩
  refine go ?_
  refine Sx.bx rfl rfl fun g => ?_
  refine go ?_
  have hok : (PushS.init l).ok k := PushS.ok_init hrg
  refine Cx.ifp rfl (fun h0 => ?_) (fun h0 => ?_)
  ·refine go ?_
   refine Kr.two (.inr rfl) rfl rfl ?_ (.inr ⟨⟨hnd, hrg⟩, g, rfl, rfl⟩)
   have hl0 : l = [] := List.length_eq_zero_iff.1 (by omega)
   refine Ent.trans (PushO.close (a := some ⟨g, 0, none⟩) (r := ra) (sb := sb) (k := k) (PushS.init l) hok ?_ ?_ rfl hl.symm rfl) ?_
   ·simp [pushNx, PushS.init, hl0]
   ·simp [pushI, PushS.init, hl0]
   ·exact ent
  ·refine go ?_
   refine Cx.ifp rfl (fun h1 => ?_) (fun h1 => ?_)
   ·refine go ?_
    refine Sx.ca rfl (machGo (b := g)) ?_
    rintro v L' ⟨rfl, rfl⟩
    refine go ?_
    refine Kr.two (.inr rfl) rfl rfl ?_ (.inr ⟨⟨hnd, hrg⟩, g, rfl, rfl⟩)
    have hl0 : l ≠ [] := fun e => by subst e; simp at hl; omega
    refine Ent.trans (PushO.close (a := some ⟨g, 0, none⟩) (r := ra) (sb := sb) (k := k) (PushS.init l) hok ?_ ?_ rfl hl.symm rfl) ?_
    ·simp [pushNx, pushFn, PushS.init, hl0, hl, show i = 1 by omega]
    ·simp [pushI, PushS.init]
    ·exact ent
   ·refine go ?_
    refine Sx.ca rfl (machGo (b := g)) ?_
    rintro v L' ⟨rfl, rfl⟩
    refine go ?_
    refine Kr.two (.inr rfl) rfl rfl ?_ (.inr ⟨⟨hnd, hrg⟩, g, rfl, rfl⟩)
    have hl0 : l ≠ [] := fun e => by subst e; simp at hl; omega
    refine Ent.trans (PushO.close (a := some ⟨g, 0, none⟩) (r := ra) (sb := sb) (k := k) (PushS.init l) hok ?_ ?_ rfl hl.symm rfl) ?_
    ·simp [pushNx, pushFn, PushS.init, hl0, hl, show 1 < i by omega]
    ·simp [pushI, PushS.init]
    ·exact ent
end
end Go.Proofs.YtflalhdofhobmaaGreat


namespace Go.Proofs.YtflalhdofhobmaaGreat
open Go
attribute [local irreducible] Sx Cx Rx Fx Krg Ksq Kbl Klp Kr
section
variable {L F G : St}
abbrev pushF (b sb mp : Nat) (k : Sk) (m : Mm) (p : PushS) (r : Option Addr) (c : Nat) (cnt : Int) (G : St) : St :=
 pt (some ⟨b, 0, none⟩) (Blk 296 [.nilFunc, .nilFunc, .nilFunc, .nilFunc, .int .i64 cnt, .pointer (some ⟨sb, 0, none⟩), .slice r p.l.length c, .int .i64 (pushI p : Nat), wd p.was]) ::
 pt r (Row 3 1 p.l.length c (ints p.l)) :: pt (some ⟨mp, 0, none⟩) (MemO m) :: pt (some ⟨sb, 0, none⟩) (SkO mp k) :: G
abbrev pushR (b sb mp : Nat) (k : Sk) (m : Mm) (p : PushS) (G : St) (v : Value) (L' : St) : Prop :=
 L' = pt (some ⟨b, 0, none⟩) (PushO sb k (pushStep k m p).1) :: pt (some ⟨mp, 0, none⟩) (MemO (pushStep k m p).2) :: pt (some ⟨sb, 0, none⟩) (SkO mp k) :: G
theorem wrapS {x : Int} (h1 : 0 ≤ x) (h2 : x ≤ 9223372036854775807) : IntKind.u64.wrap (IntKind.i64.wrap x) = ((x.toNat : Nat) : Int) := by
 rw [w64 (by omega) h2, wu64 h1 (by omega)]; omega
theorem push_link_ {b sb mp : Nat} {k : Sk} {m : Mm} {p : PushS} {r : Option Addr} {c : Nat} {cnt : Int} (hm : m.ok) (hk : k.ok m.ws.length) (hp : p.ok k) (ha : p.at_ + 1 < p.l.length) (hd : p.done = false) :
  Fx Tryz.prog 267 [.pointer (some ⟨b, 0, none⟩)] (pushF b sb mp k m p r c cnt G) (pushR b sb mp k m p G) := by
 have hok := pushStep_ok (k := k) hm hp
 have e : pushStep k m p = ({ p with at_ := p.at_ + 1 }, m.put (k.links + (itI p.l p.at_).toNat) (itI p.l (p.at_ + 1) + 1).toNat) := by
  unfold pushStep; rw [hd]; simp only [Bool.false_eq_true, if_false]; rw [if_pos ha]
 have hI : pushI p = p.at_ := by unfold pushI; omega
 have hv1 := itI_some (l := p.l) (i := p.at_) (by omega)
 have hv2 := itI_some (l := p.l) (i := p.at_ + 1) (by omega)
 have hr1 := hp.g _ (itI_mem (l := p.l) (i := p.at_) (by omega))
 have hr2 := hp.g _ (itI_mem (l := p.l) (i := p.at_ + 1) (by omega))
 obtain ⟨k1, k2, k3, k4, k5, k6⟩ := hk
 obtain ⟨x, hx⟩ : ∃ x : Nat, itI p.l p.at_ = x := ⟨(itI p.l p.at_).toNat, by omega⟩
 obtain ⟨y, hy⟩ : ∃ y : Nat, itI p.l (p.at_ + 1) = y := ⟨(itI p.l (p.at_ + 1)).toNat, by omega⟩
 have e' : pushStep k m p = ({ p with at_ := p.at_ + 1 }, m.put (k.links + x) (y + 1)) := by rw [e, hx, hy]; rfl
 rw [hx] at hr1 hv1
 rw [hy] at hr2 hv2
 refine Fx.mk Tryz.func267 k267 nb_ ?_
 dsimp only [c267, kG, kS, kH, kM, kN, kF, kL, envOf, Nat.reduceAdd]
 unfold pushF
 rw [hI]
 refine Cx.rowkey (a := r) fun hxl hc1 hc2 hkr => ?_
 have hc3 : c ≤ 18446744073709551616 := by have := hc2; unfold maxLen at this; omega
 obtain ⟨rg, rfl⟩ : ∃ g, r = some ⟨g, 0, none⟩ := by
  rcases hkr with h | h
  ·omega
  ·exact h
 have hlm : p.l.length ≤ 9223372036854775807 := by unfold maxLen at hc2; omega
 refine go ?_
 refine Cx.ordc rfl kr_ ?_
 refine ge ?_
 refine Ev.ldrH (b := rg) kr_ rfl rfl (v := .int .i64 (x : Nat)) (by rw [show 0 + ((p.at_ : Int)).toNat * 1 = p.at_ by omega]; exact hv1) ?_
 refine ge ?_
 rw [w64 (n := (p.at_ : Int) + 1) (by omega) (by omega)]
 refine Ev.pvH kr_ rfl rfl ⟨by omega, by omega⟩ ?_
 refine Ev.ldrH (b := rg) kr_ rfl rfl (v := .int .i64 (y : Nat)) (by rw [show 0 + ((p.at_ : Int) + 1).toNat * 1 = p.at_ + 1 by omega]; exact hv2) ?_
 refine ge ?_
 rw [w64 (n := (k.links : Int) + x) (by omega) (by omega), show (k.links : Int) + x = ((k.links + x : Nat) : Int) by omega, wrapS (x := (y : Int) + 1) (by omega) (by omega), show ((y : Int) + 1).toNat = y + 1 by omega]
 refine Ev.caH kr_ rfl rfl (cellsStore (b := mp) (m := m) (k.links + x) (y + 1) (by omega) (by omega)) (Pres.deps kr_) ?_
 rintro v L' ⟨rfl, rfl⟩
 refine ge ?_
 refine go ?_
 rw [w64 (n := (p.at_ : Int) + 1) (by omega) (by omega)]
 refine go ?_
 refine Cx.ordc rfl kr_ ?_
 refine ge ?_
 rw [w64 (n := (p.l.length : Int) - 1) (by omega) (by omega)]
 rw [e'] at hok
 have hI2 : pushI { p with at_ := p.at_ + 1 } = p.at_ + 1 := by unfold pushI; dsimp only; omega
 refine Cx.ifp rfl (fun h => ?_) (fun h => ?_)
 ·refine go ?_
  refine Sx.ca rfl (machGo (b := b)) ?_
  rintro v L' ⟨rfl, rfl⟩
  refine go ?_
  refine Kr.none (.inl rfl) ?_ rfl
  rw [e']
  refine Ent.trans (PushO.close (a := some ⟨b, 0, none⟩) (r := some ⟨rg, 0, none⟩) (sb := sb) (k := k) _ hok ?_ ?_ rfl rfl rfl) ?_
  ·simp [pushNx, pushFn, hd, show p.at_ + 1 + 1 < p.l.length by omega]
  ·rw [hI2]; rfl
  ·exact ent
 ·refine go ?_
  refine Sx.ca rfl (machGo (b := b)) ?_
  rintro v L' ⟨rfl, rfl⟩
  refine go ?_
  refine Kr.none (.inl rfl) ?_ rfl
  rw [e']
  refine Ent.trans (PushO.close (a := some ⟨b, 0, none⟩) (r := some ⟨rg, 0, none⟩) (sb := sb) (k := k) _ hok ?_ ?_ rfl rfl rfl) ?_
  ·simp [pushNx, pushFn, hd, show ¬ p.at_ + 1 + 1 < p.l.length by omega, show p.at_ + 1 + 1 = p.l.length by omega]
  ·rw [hI2]; rfl
  ·exact ent
theorem push_load_ {b sb mp : Nat} {k : Sk} {m : Mm} {p : PushS} {r : Option Addr} {c : Nat} {cnt : Int} (hm : m.ok) (hk : k.ok m.ws.length) (hp : p.ok k) (ha : p.at_ + 1 = p.l.length) (hd : p.done = false) :
  Fx Tryz.prog 266 [.pointer (some ⟨b, 0, none⟩)] (pushF b sb mp k m p r c cnt G) (pushR b sb mp k m p G) := by
 have hok := pushStep_ok (k := k) hm hp
 have e : pushStep k m p = ({ p with at_ := p.at_ + 1, was := m.at_ k.head }, m.tick) := by
  unfold pushStep; rw [hd]; simp only [Bool.false_eq_true, if_false]; rw [if_neg (by omega), if_pos ha]
 rw [e] at hok
 have hI : pushI p = p.at_ := by unfold pushI; omega
 obtain ⟨k1, k2, k3, k4, k5, k6⟩ := hk
 refine Fx.mk Tryz.func266 k266 nb_ ?_
 dsimp only [c266, kG, kS, kH, kM, kN, kF, kL, envOf, Nat.reduceAdd]
 unfold pushF
 rw [hI]
 refine go ?_
 refine Cx.ordc rfl kr_ ?_
 refine ge ?_
 refine Ev.caH kr_ rfl rfl (cellsLoad (b := mp) (m := m) k.head k3) (Pres.deps kr_) ?_
 rintro v L' ⟨rfl, rfl⟩
 refine ge ?_
 refine Ev.stbH (b := b) kr_ rfl rfl rfl rfl rfl (by rfl) rfl (Pres.deps kr_) ?_
 refine ge ?_
 refine go ?_
 refine Sx.ca rfl (machGo (b := b)) ?_
 rintro v L' ⟨rfl, rfl⟩
 refine go ?_
 refine Kr.none (.inl rfl) ?_ rfl
 rw [e]
 refine Ent.trans (PushO.close (a := some ⟨b, 0, none⟩) (r := r) (sb := sb) (k := k) _ hok ?_ ?_ rfl rfl rfl) ?_
 ·simp [pushNx, pushFn, hd, ha]
 ·rw [show pushI { p with at_ := p.at_ + 1, was := m.at_ k.head } = p.at_ by unfold pushI; dsimp only; omega]
 ·exact ent
theorem push_last_ {b sb mp : Nat} {k : Sk} {m : Mm} {p : PushS} {r : Option Addr} {c : Nat} {cnt : Int} (hm : m.ok) (hk : k.ok m.ws.length) (hp : p.ok k) (ha : p.at_ = p.l.length) (hd : p.done = false) :
  Fx Tryz.prog 270 [.pointer (some ⟨b, 0, none⟩)] (pushF b sb mp k m p r c cnt G) (pushR b sb mp k m p G) := by
 have hok := pushStep_ok (k := k) hm hp
 have hlp := List.length_pos_iff.2 (hp.ne hd)
 have hv1 := itI_some (l := p.l) (i := p.l.length - 1) (by omega)
 have hr1 := hp.g _ (itI_mem (l := p.l) (i := p.l.length - 1) (by omega))
 have ht1 := k.top_ge p.was
 have ht2 := k.top_lt p.was
 obtain ⟨k1, k2, k3, k4, k5, k6⟩ := hk
 obtain ⟨x, hx⟩ : ∃ x : Nat, itI p.l (p.l.length - 1) = x := ⟨(itI p.l (p.l.length - 1)).toNat, by omega⟩
 have e : pushStep k m p = ({ p with at_ := p.at_ + 1 }, m.put (k.links + x) (k.top p.was + 1).toNat) := by
  unfold pushStep; rw [hd]; simp only [Bool.false_eq_true, if_false]; rw [if_neg (by omega), if_neg (by omega), if_pos ha, hx]; rfl
 rw [e] at hok
 rw [hx] at hr1 hv1
 have hI : pushI p = p.l.length - 1 := by unfold pushI; omega
 refine Fx.mk Tryz.func270 k270 nb_ ?_
 dsimp only [c270, kG, kS, kH, kM, kN, kF, kL, envOf, Nat.reduceAdd]
 unfold pushF
 rw [hI]
 refine Cx.rowkey (a := r) fun hxl hc1 hc2 hkr => ?_
 obtain ⟨rg, rfl⟩ : ∃ g, r = some ⟨g, 0, none⟩ := by
  rcases hkr with h | h
  ·omega
  ·exact h
 have hlm : p.l.length ≤ 9223372036854775807 := by unfold maxLen at hc2; omega
 refine go ?_
 refine Cx.ordc rfl kr_ ?_
 refine ge ?_
 rw [w64 (n := (p.l.length : Int) - 1) (by omega) (by omega)]
 refine Ev.pvH kr_ rfl rfl ⟨by omega, by omega⟩ ?_
 refine Ev.ldrH (b := rg) kr_ rfl rfl (v := .int .i64 (x : Nat)) (by rw [show 0 + ((p.l.length : Int) - 1).toNat * 1 = p.l.length - 1 by omega]; exact hv1) ?_
 refine ge ?_
 refine Ev.cakH kr_ rfl rfl (stackTop (sb := sb) (mp := mp) (k := k) p.was hp.w) ?_
 refine ge ?_
 rw [w64 (n := (k.links : Int) + x) (by omega) (by omega), show (k.links : Int) + x = ((k.links + x : Nat) : Int) by omega, wrapS (x := k.top p.was + 1) (by omega) (by omega)]
 refine Ev.caH kr_ rfl rfl (cellsStore (b := mp) (m := m) (k.links + x) (k.top p.was + 1).toNat (by omega) (by omega)) (Pres.deps kr_) ?_
 rintro v L' ⟨rfl, rfl⟩
 refine ge ?_
 refine go ?_
 refine Sx.ca rfl (machGo (b := b)) ?_
 rintro v L' ⟨rfl, rfl⟩
 refine go ?_
 refine Kr.none (.inl rfl) ?_ rfl
 rw [e]
 refine Ent.trans (PushO.close (a := some ⟨b, 0, none⟩) (r := some ⟨rg, 0, none⟩) (sb := sb) (k := k) _ hok ?_ ?_ rfl rfl rfl) ?_
 ·(unfold pushNx pushFn; dsimp only; rw [hd]; (first | rw [if_pos (by omega)] | rw [if_neg (by omega), if_pos (by omega)] | rw [if_neg (by omega), if_neg (by omega), if_pos (by omega)] | rw [if_neg (by omega), if_neg (by omega), if_neg (by omega)]); rfl)
 ·rw [show pushI { p with at_ := p.at_ + 1 } = p.l.length - 1 by unfold pushI; dsimp only; omega]
 ·exact ent
theorem push_cas_ {b sb mp : Nat} {k : Sk} {m : Mm} {p : PushS} {r : Option Addr} {c : Nat} {cnt : Int} (hm : m.ok) (hk : k.ok m.ws.length) (hp : p.ok k) (ha : p.at_ = p.l.length + 1) (hd : p.done = false) :
  Fx Tryz.prog 272 [.pointer (some ⟨b, 0, none⟩)] (pushF b sb mp k m p r c cnt G) (pushR b sb mp k m p G) := by
 have hok := pushStep_ok (k := k) hm hp
 have hlp := List.length_pos_iff.2 (hp.ne hd)
 have hv1 := itI_some (l := p.l) (i := 0) (by omega)
 have hr1 := hp.g _ (itI_mem (l := p.l) (i := 0) (by omega))
 have e : pushStep k m p = ({ p with at_ := p.l.length - 1, done := decide (m.at_ k.head = p.was) }, m.cas k.head p.was (nextW p.was (itI p.l 0))) := by
  unfold pushStep; rw [hd]; simp only [Bool.false_eq_true, if_false]; rw [if_neg (by omega), if_neg (by omega), if_neg (by omega)]
 rw [e] at hok
 have hI : pushI p = p.l.length - 1 := by unfold pushI; omega
 refine Fx.mk Tryz.func272 k272 nb_ ?_
 dsimp only [c272, kG, kS, kH, kM, kN, kF, kL, envOf, Nat.reduceAdd]
 unfold pushF
 rw [hI]
 refine Cx.rowkey (a := r) fun hxl hc1 hc2 hkr => ?_
 obtain ⟨rg, rfl⟩ : ∃ g, r = some ⟨g, 0, none⟩ := by
  rcases hkr with h | h
  ·omega
  ·exact h
 refine go ?_
 refine Cx.ordc rfl kr_ ?_
 refine ge ?_
 refine Ev.ldrH (b := rg) kr_ rfl rfl (v := .int .i64 (itI p.l 0)) hv1 ?_
 refine ge ?_
 refine Ev.caH kr_ rfl rfl (stackExchange (sb := sb) (mp := mp) (k := k) (m := m) p.was (itI p.l 0) hk hp.w (by omega) hr1.2) (Pres.deps kr_) ?_
 rintro v L' ⟨rfl, rfl⟩
 refine ge ?_
 have hI2 : ∀ d, pushI { p with at_ := p.l.length - 1, done := d } = p.l.length - 1 := fun d => by unfold pushI; dsimp only; omega
 refine Cx.ifn rfl (fun h => ?_) (fun h => ?_)
 ·rw [decide_eq_false h] at e hok
  refine go ?_
  refine Sx.ca rfl (machGo (b := b)) ?_
  rintro v L' ⟨rfl, rfl⟩
  refine go ?_
  refine Kr.none (.inl rfl) ?_ rfl
  rw [e]
  refine Ent.trans (PushO.close (a := some ⟨b, 0, none⟩) (r := some ⟨rg, 0, none⟩) (sb := sb) (k := k) _ hok ?_ ?_ rfl rfl rfl) ?_
  ·simp [pushNx, pushFn, show ¬ p.l.length - 1 + 1 < p.l.length by omega, show p.l.length - 1 + 1 = p.l.length by omega]
  ·rw [hI2]
  ·exact ent
 ·rw [decide_eq_true h] at e hok
  refine go ?_
  refine Kr.none (.inl rfl) ?_ rfl
  rw [e]
  refine Ent.trans (PushO.close (a := some ⟨b, 0, none⟩) (r := some ⟨rg, 0, none⟩) (sb := sb) (k := k) _ hok ?_ ?_ rfl rfl rfl) ?_
  ·simp [pushNx]
  ·rw [hI2]
  ·exact ent
theorem pushStepC {b sb mp : Nat} {k : Sk} {m : Mm} {p : PushS} {F1 F2 : St} (hk : k.ok m.ws.length) [tp : Take L (some ⟨b, 0, none⟩) (PushO sb k p) F1] [t : Take F1 (some ⟨mp, 0, none⟩) (MemO m) F2] [s : Take F2 (some ⟨sb, 0, none⟩) (SkO mp k) G] :
  Fx Tryz.prog 239 [.pointer (some ⟨b, 0, none⟩)] L (fun v L' => v = .bool (!p.done) ∧ L' = pt (some ⟨b, 0, none⟩) (PushO sb k (pushStep k m p).1) :: pt (some ⟨mp, 0, none⟩) (MemO (pushStep k m p).2) :: F2) := by
 refine Fx.mk Tryz.func239 k239 nb_ ?_
 dsimp only [c239, kG, kS, kH, kM, kN, kF, kL, envOf, Nat.reduceAdd]
 refine Cx.ent (Ent.trans (Ent.of tp.out) (Ent.cons (Ent.trans (Ent.of t.out) (Ent.cons (Ent.of s.out))))) ?_
 refine Cx.pure (memKey (b := mp) (m := m)) fun hm => ?_
 refine Cx.openp (a := some ⟨b, 0, none⟩) rfl ?_
 rintro ⟨⟨r, c⟩, cnt⟩
 simp only [pushL, List.cons_append, List.nil_append]
 refine Cx.liftp fun hp => ?_
 cases hd : p.done with
 | true =>
   have e : pushStep k m p = (p, m) := by unfold pushStep; rw [hd]; rfl
   rw [e, show pushNx (some ⟨b, 0, none⟩) p = .nilFunc by simp [pushNx, hd]]
   refine go ?_
   refine Sx.ca rfl (machStepDone (b := b)) ?_
   rintro v L' ⟨rfl, rfl⟩
   refine go ?_
   refine Kr.one (.inr rfl) rfl ?_ ⟨rfl, rfl⟩
   refine Ent.trans (PushO.close (a := some ⟨b, 0, none⟩) (r := r) (sb := sb) (k := k) p hp ?_ rfl rfl rfl rfl) (Ent.cons (Ent.cons (Ent.of s.back)))
   simp [pushNx, hd]
 | false =>
   have hcase := hp.a
   rcases (show p.at_ + 1 < p.l.length ∨ p.at_ + 1 = p.l.length ∨ p.at_ = p.l.length ∨ p.at_ = p.l.length + 1 by omega) with ha | ha | ha | ha
   ·rw [show pushNx (some ⟨b, 0, none⟩) p = .func (.func 267) #[.pointer (some ⟨b, 0, none⟩)] #[] by (unfold pushNx pushFn; rw [hd]; (first | rw [if_pos (by omega)] | rw [if_neg (by omega), if_pos (by omega)] | rw [if_neg (by omega), if_neg (by omega), if_pos (by omega)] | rw [if_neg (by omega), if_neg (by omega), if_neg (by omega)]); rfl)]
    refine go ?_
    refine Sx.ca rfl (machStep (b := b) kr_ (push_link_ (G := G) hm.1 hk hp ha hd)) ?_
    rintro v L' ⟨rfl, u, rfl⟩
    refine go ?_
    exact Kr.one (.inr rfl) rfl (Ent.cons (Ent.cons (Ent.of s.back))) ⟨rfl, rfl⟩
   ·rw [show pushNx (some ⟨b, 0, none⟩) p = .func (.func 266) #[.pointer (some ⟨b, 0, none⟩)] #[] by (unfold pushNx pushFn; rw [hd]; (first | rw [if_pos (by omega)] | rw [if_neg (by omega), if_pos (by omega)] | rw [if_neg (by omega), if_neg (by omega), if_pos (by omega)] | rw [if_neg (by omega), if_neg (by omega), if_neg (by omega)]); rfl)]
    refine go ?_
    refine Sx.ca rfl (machStep (b := b) kr_ (push_load_ (G := G) hm.1 hk hp ha hd)) ?_
    rintro v L' ⟨rfl, u, rfl⟩
    refine go ?_
    exact Kr.one (.inr rfl) rfl (Ent.cons (Ent.cons (Ent.of s.back))) ⟨rfl, rfl⟩
   ·rw [show pushNx (some ⟨b, 0, none⟩) p = .func (.func 270) #[.pointer (some ⟨b, 0, none⟩)] #[] by (unfold pushNx pushFn; rw [hd]; (first | rw [if_pos (by omega)] | rw [if_neg (by omega), if_pos (by omega)] | rw [if_neg (by omega), if_neg (by omega), if_pos (by omega)] | rw [if_neg (by omega), if_neg (by omega), if_neg (by omega)]); rfl)]
    refine go ?_
    refine Sx.ca rfl (machStep (b := b) kr_ (push_last_ (G := G) hm.1 hk hp ha hd)) ?_
    rintro v L' ⟨rfl, u, rfl⟩
    refine go ?_
    exact Kr.one (.inr rfl) rfl (Ent.cons (Ent.cons (Ent.of s.back))) ⟨rfl, rfl⟩
   ·rw [show pushNx (some ⟨b, 0, none⟩) p = .func (.func 272) #[.pointer (some ⟨b, 0, none⟩)] #[] by (unfold pushNx pushFn; rw [hd]; (first | rw [if_pos (by omega)] | rw [if_neg (by omega), if_pos (by omega)] | rw [if_neg (by omega), if_neg (by omega), if_pos (by omega)] | rw [if_neg (by omega), if_neg (by omega), if_neg (by omega)]); rfl)]
    refine go ?_
    refine Sx.ca rfl (machStep (b := b) kr_ (push_cas_ (G := G) hm.1 hk hp ha hd)) ?_
    rintro v L' ⟨rfl, u, rfl⟩
    refine go ?_
    exact Kr.one (.inr rfl) rfl (Ent.cons (Ent.cons (Ent.of s.back))) ⟨rfl, rfl⟩
theorem pushDoneC {b sb : Nat} {k : Sk} {p : PushS} {F1 : St} [tp : Take L (some ⟨b, 0, none⟩) (PushO sb k p) F1] : Fx Tryz.prog 240 [.pointer (some ⟨b, 0, none⟩)] L (fun v L' => v = .bool p.done ∧ L = L') := by
 refine Fx.kept (t := tp) ?_
 refine Fx.mk Tryz.func240 k240 nb_ ?_
 dsimp only [c240, kG, kS, kH, kM, kN, kF, kL, envOf, Nat.reduceAdd]
 refine Cx.openp (t := tp) rfl ?_
 rintro ⟨⟨r, c⟩, cnt⟩
 simp only [pushL, List.cons_append, List.nil_append]
 refine Cx.liftp fun hp => ?_
 cases hd : p.done with
 | true =>
   have e : pushNx (some ⟨b, 0, none⟩) p = .nilFunc := by simp [pushNx, hd]
   rw [e]
   refine go ?_
   refine Sx.ca rfl (machDoneYes (b := b)) ?_
   rintro v L' ⟨rfl, rfl⟩
   refine go ?_
   exact Kr.one (.inr rfl) rfl (PushO.close (a := some ⟨b, 0, none⟩) (r := r) (sb := sb) (k := k) p hp e.symm rfl rfl rfl rfl) ⟨rfl, rfl⟩
 | false =>
   have e : pushNx (some ⟨b, 0, none⟩) p = .func (.func (pushFn p)) #[.pointer (some ⟨b, 0, none⟩)] #[] := by simp [pushNx, hd]
   rw [e]
   refine go ?_
   refine Sx.ca rfl (machDoneNo (b := b)) ?_
   rintro v L' ⟨rfl, rfl⟩
   refine go ?_
   exact Kr.one (.inr rfl) rfl (PushO.close (a := some ⟨b, 0, none⟩) (r := r) (sb := sb) (k := k) p hp e.symm rfl rfl rfl rfl) ⟨rfl, rfl⟩
end
end Go.Proofs.YtflalhdofhobmaaGreat


namespace Go.Proofs.YtflalhdofhobmaaGreat
open Go
attribute [local irreducible] Sx Cx Rx Fx Krg Ksq Kbl Klp Kr
open Classical in
noncomputable def giveInit (k : Sk) (l : List Int) : PushS := if l.Nodup ∧ ∀ x ∈ l, 0 ≤ x ∧ x < k.n then PushS.init l else ⟨l, 0, 0, true⟩
theorem giveInit_yes {k : Sk} {l : List Int} (h : l.Nodup ∧ ∀ x ∈ l, 0 ≤ x ∧ x < k.n) : giveInit k l = PushS.init l := if_pos h
theorem giveInit_no {k : Sk} {l : List Int} (h : ¬ (l.Nodup ∧ ∀ x ∈ l, 0 ≤ x ∧ x < k.n)) : giveInit k l = ⟨l, 0, 0, true⟩ := if_neg h
theorem pushStep_l (k : Sk) (m : Mm) (p : PushS) : (pushStep k m p).1.l = p.l := by
 unfold pushStep
 (repeat' split) <;> rfl
section
variable {L F G : St}
abbrev gvB (b : Nat) (nx n1 n2 n3 : Value) (cnt : Int) (sl : Value) : As := pt (some ⟨b, 0, none⟩) (Blk 248 [nx, n1, n2, n3, .int .i64 cnt, sl])
def giveDL (T : TypeId) (a : Option Addr) (y : Value × Value × Value × Int × Value) : St := [pt a (Blk T [.nilFunc, y.1, y.2.1, y.2.2.1, .int .i64 y.2.2.2.1, y.2.2.2.2])]
def givePL (T : TypeId) (pb : Nat) (k : Sk) (p : PushS) (a : Option Addr) (y : Nat × Int × (Option Addr × Nat)) : St :=
 [pt a (Blk T [.func (.func 232) #[.pointer a] #[], mth 239 y.1, mth 240 y.1, .func (.func 261) #[.pointer a] #[], .int .i64 y.2.1, .slice y.2.2.1 p.l.length y.2.2.2]),
  pt (some ⟨y.1, 0, none⟩) (PushO pb k p), pt y.2.2.1 (Row 3 1 p.l.length y.2.2.2 (ints p.l))]
def GiveT (T : TypeId) (pb : Nat) (k : Sk) (p : PushS) (a : Option Addr) : As := bif p.done then exs (giveDL T a) else exs (givePL T pb k p a)
abbrev GiveO := GiveT 248
theorem GiveO.d {T : TypeId} {pb : Nat} {k : Sk} {p : PushS} {a : Option Addr} (h : p.done = true) : GiveT T pb k p a = exs (giveDL T a) := by unfold GiveT; rw [h]; rfl
theorem GiveO.p {T : TypeId} {pb : Nat} {k : Sk} {p : PushS} {a : Option Addr} (h : p.done = false) : GiveT T pb k p a = exs (givePL T pb k p a) := by unfold GiveT; rw [h]; rfl
theorem GiveO.closeD {b pb : Nat} {k : Sk} (p : PushS) (h : p.done = true) {n1 n2 n3 sl : Value} {cnt : Int} : Ent (gvB b .nilFunc n1 n2 n3 cnt sl :: G) (pt (some ⟨b, 0, none⟩) (GiveO pb k p) :: G) :=
 Ent.close (f := giveDL 248 (some ⟨b, 0, none⟩)) (GiveO.d h) (n1, n2, n3, cnt, sl)
theorem GiveO.closeP {b pb g : Nat} {k : Sk} {r : Option Addr} {c n : Nat} {vs : List Value} {q : PushS} (p : PushS) (h : p.done = false) {cnt : Int} (hq : q = p) (hn : n = p.l.length) (hv : vs = ints p.l) :
  Ent (gvB b (mth 232 b) (mth 239 g) (mth 240 g) (mth 261 b) cnt (.slice r n c) :: pt (some ⟨g, 0, none⟩) (PushO pb k q) :: pt r (Row 3 1 n c vs) :: G) (pt (some ⟨b, 0, none⟩) (GiveO pb k p) :: G) := by
 subst hq; subst hn; subst hv
 exact Ent.close (f := givePL 248 pb k q (some ⟨b, 0, none⟩)) (GiveO.p h) (g, cnt, r, c)
theorem giveEnd {v : Value} : Fx Tryz.prog 261 [v] L (fun v L' => v = .tuple #[] ∧ L = L') := by
 refine Fx.mk Tryz.func261 k261 nb_ ?_
 dsimp only [c261, kG, kS, kH, kM, kN, kF, kL, envOf, Nat.reduceAdd]
 refine Cx.sk ?_
 exact Kr.none (.inl rfl) (Ent.refl _) ⟨rfl, rfl⟩
theorem supGive {u mp pb : Nat} {x : Cn} {s : SupS} {l : List Int} {r : Option Addr} {n c : Nat} {F : St} (hl : n = l.length) (hn : n ≤ 1000000000) [t : Take L (some ⟨u, 0, none⟩) (SupO mp pb x s) F] [tr : Take F r (Row 3 1 n c (ints l)) G] {F3 : St} [tb : Take G (some ⟨pb, 0, none⟩) (SkO mp x.pool) F3] :
  Fx Tryz.prog 245 [.pointer (some ⟨u, 0, none⟩), .slice r n c] L (fun v L' => ∃ b, v = .pointer (some ⟨b, 0, none⟩) ∧ L' = pt (some ⟨b, 0, none⟩) (GiveO pb x.pool (giveInit x.pool l)) :: pt (some ⟨u, 0, none⟩) (SupO mp pb x s) :: G) := by
 subst hl
 refine Fx.mk Tryz.func245 k245 nb_ ?_
 dsimp only [c245, kG, kS, kH, kM, kN, kF, kL, envOf, Nat.reduceAdd]
 refine Cx.ent (Ent.trans (Ent.of t.out) (Ent.cons (Ent.of tr.out))) ?_
 refine Cx.openp (a := some ⟨u, 0, none⟩) rfl ?_
 rintro ⟨sh, lm⟩
 simp only [supL, List.cons_append, List.nil_append]
 refine Cx.rowkey (a := r) fun hxl hc1 _ hkr => ?_
 refine go ?_
 refine Sx.bx rfl rfl fun b => ?_
 refine go ?_
 refine Sx.ca rfl (stackPush (sb := pb) (mp := mp) (k := x.pool) (l := l) (Rd.any (a := r) hxl (hkr.imp (fun h => h.2.1) id)) hc1 hn) ?_
 rintro v L' (⟨hno, rfl, rfl⟩ | ⟨hyes, g, rfl, rfl⟩)
 ·rw [giveInit_no hno]
  refine go ?_
  refine Kr.one (.inr rfl) rfl ?_ ⟨b, rfl, rfl⟩
  refine Ent.trans (GiveO.closeD ⟨l, 0, 0, true⟩ rfl) (Ent.cons ?_)
  refine Ent.trans (SupO.close (a := some ⟨u, 0, none⟩) (sh := sh) (lm := lm) (mp := mp) (pb := pb) (x := x) s rfl rfl rfl) (Ent.cons ?_)
  exact ent
 ·rw [giveInit_yes hyes]
  refine go ?_
  by_cases hl0 : l = []
  ·have hd : (PushS.init l).done = true := by simp [PushS.init, hl0]
   refine Sx.ca rfl (machThrough (b := b) (machOnYes (b := b) kr_ ((pushDoneC (b := g) (sb := pb) (k := x.pool) (p := PushS.init l)).mono (by rintro v L' ⟨rfl, rfl⟩; exact ⟨by rw [hd], rfl⟩)) kr_ giveEnd)) ?_
   rintro v L' ⟨rfl, w, rfl, w2, rfl, rfl⟩
   refine go ?_
   refine Kr.one (.inr rfl) rfl ?_ ⟨b, rfl, rfl⟩
   refine Ent.trans (GiveO.closeD (PushS.init l) hd) (Ent.cons ?_)
   refine Ent.trans Ent.drop ?_
   refine Ent.trans (SupO.close (a := some ⟨u, 0, none⟩) (sh := sh) (lm := lm) (mp := mp) (pb := pb) (x := x) s rfl rfl rfl) (Ent.cons ?_)
   exact ent
  ·have hd : (PushS.init l).done = false := by simp [PushS.init, hl0]
   refine Sx.ca rfl (machThrough (b := b) (machOnNo (b := b) kr_ ((pushDoneC (b := g) (sb := pb) (k := x.pool) (p := PushS.init l)).mono (by rintro v L' ⟨rfl, rfl⟩; exact ⟨by rw [hd], rfl⟩)))) ?_
   rintro v L' ⟨rfl, w, rfl, rfl⟩
   refine go ?_
   refine Kr.one (.inr rfl) rfl ?_ ⟨b, rfl, rfl⟩
   refine Ent.trans (Ent.cons (Ent.cons (Ent.take (a := r)))) ?_
   refine Ent.trans (GiveO.closeP (PushS.init l) hd rfl rfl rfl) (Ent.cons ?_)
   refine Ent.trans (SupO.close (a := some ⟨u, 0, none⟩) (sh := sh) (lm := lm) (mp := mp) (pb := pb) (x := x) s rfl rfl rfl) (Ent.cons ?_)
   exact ent
theorem supSpill {u mp pb : Nat} {x : Cn} {s : SupS} {F : St} (hn : s.xs.length ≤ 1000000000) (hm : 0 ≤ s.most) (hm2 : s.most ≤ 64) [t : Take L (some ⟨u, 0, none⟩) (SupO mp pb x s) F] {F3 : St} [tb : Take F (some ⟨pb, 0, none⟩) (SkO mp x.pool) F3] :
  Fx Tryz.prog 207 [.pointer (some ⟨u, 0, none⟩)] L (fun v L' => ∃ b, v = .pointer (some ⟨b, 0, none⟩) ∧ L' = pt (some ⟨b, 0, none⟩) (GiveO pb x.pool (giveInit x.pool (s.xs.take (overK s.most s.xs)))) :: pt (some ⟨u, 0, none⟩) (SupO mp pb x { s with xs := s.xs.drop (overK s.most s.xs) }) :: F) := by
 have hov : overK s.most s.xs ≤ s.xs.length := by unfold overK; omega
 refine Fx.mk Tryz.func207 k207 nb_ ?_
 dsimp only [c207, kG, kS, kH, kM, kN, kF, kL, envOf, Nat.reduceAdd]
 refine Cx.ent (Ent.of t.out) ?_
 refine Cx.openp (a := some ⟨u, 0, none⟩) rfl ?_
 rintro ⟨sh, lm⟩
 simp only [supL, List.cons_append, List.nil_append]
 refine go ?_
 refine Sx.ca rfl (stashOver (b := sh) (most := s.most) (xs := s.xs) hn hm hm2) ?_
 rintro v L' ⟨r, c, rfl, rfl⟩
 refine Sx.ent (Ent.trans (Ent.cons (SupO.close (a := some ⟨u, 0, none⟩) (sh := sh) (lm := lm) (mp := mp) (pb := pb) (x := x) { s with xs := s.xs.drop (overK s.most s.xs) } rfl rfl rfl)) Ent.swap) ?_
 refine go ?_
 refine Sx.ca rfl (supGive (u := u) (mp := mp) (pb := pb) (x := x) (s := { s with xs := s.xs.drop (overK s.most s.xs) }) (l := s.xs.take (overK s.most s.xs)) (r := r) (by rw [List.length_take]; omega) (by omega)) ?_
 rintro v L' ⟨b, rfl, rfl⟩
 refine go ?_
 exact Kr.one (.inr rfl) rfl (Ent.refl _) ⟨b, rfl, rfl⟩
theorem giveStep {b mp pb : Nat} {k : Sk} {m : Mm} {p : PushS} {F1 F2 : St} (hk : k.ok m.ws.length) [t1 : Take L (some ⟨b, 0, none⟩) (GiveO pb k p) F1] [t2 : Take F1 (some ⟨mp, 0, none⟩) (MemO m) F2] [t3 : Take F2 (some ⟨pb, 0, none⟩) (SkO mp k) G] :
  Fx Tryz.prog 208 [.pointer (some ⟨b, 0, none⟩)] L (fun v L' => v = .bool (!p.done) ∧ L' = pt (some ⟨b, 0, none⟩) (GiveO pb k (pushStep k m p).1) :: pt (some ⟨mp, 0, none⟩) (MemO (pushStep k m p).2) :: F2) := by
 refine Fx.mk Tryz.func208 k208 nb_ ?_
 dsimp only [c208, kG, kS, kH, kM, kN, kF, kL, envOf, Nat.reduceAdd]
 refine Cx.ent (Ent.trans (Ent.of t1.out) (Ent.cons (Ent.trans (Ent.of t2.out) (Ent.cons (Ent.of t3.out))))) ?_
 cases hd : p.done with
 | true =>
   have e : pushStep k m p = (p, m) := by unfold pushStep; rw [hd]; rfl
   rw [e]
   refine Cx.openp (a := some ⟨b, 0, none⟩) (GiveO.d hd) ?_
   rintro ⟨n1, n2, n3, cnt, sl⟩
   simp only [giveDL, List.cons_append, List.nil_append]
   refine go ?_
   refine Sx.ca rfl (machStepDone (b := b)) ?_
   rintro v L' ⟨rfl, rfl⟩
   refine go ?_
   exact Kr.one (.inr rfl) rfl (Ent.trans (GiveO.closeD p hd) (Ent.cons (Ent.cons (Ent.of t3.back)))) ⟨rfl, rfl⟩
 | false =>
   refine Cx.openp (a := some ⟨b, 0, none⟩) (GiveO.p hd) ?_
   rintro ⟨g, cnt, r, c⟩
   simp only [givePL, List.cons_append, List.nil_append]
   have hpl := pushStep_l k m p
   cases hq : (pushStep k m p).1.done with
   | true =>
     refine go ?_
     refine Sx.ca rfl (machStep (b := b) kr_ (machGoes (b := b) kr_ (pushStepC (b := g) (mp := mp) (sb := pb) (k := k) (m := m) (p := p) hk) (R2 := fun v L' => v = .tuple #[] ∧ ∃ w : Value, w = .tuple #[] ∧ pt (some ⟨g, 0, none⟩) (PushO pb k (pushStep k m p).1) :: pt (some ⟨mp, 0, none⟩) (MemO (pushStep k m p).2) :: gvB b .nilFunc (mth 239 g) (mth 240 g) (mth 261 b) (IntKind.i64.wrap (cnt + 1)) (.slice r p.l.length c) :: pt r (Row 3 1 p.l.length c (ints p.l)) :: pt (some ⟨pb, 0, none⟩) (SkO mp k) :: G = L') ?_)) ?_
     ·rintro v L1 ⟨rfl, rfl⟩
      exact machOnYes (b := b) kr_ ((pushDoneC (b := g) (sb := pb) (k := k) (p := (pushStep k m p).1)).mono (by rintro v L' ⟨rfl, rfl⟩; exact ⟨by rw [hq], rfl⟩)) kr_ giveEnd
     ·rintro v L' ⟨rfl, w, rfl, w2, _, w3, _, rfl⟩
      refine go ?_
      refine Kr.one (.inr rfl) rfl ?_ ⟨rfl, rfl⟩
      refine Ent.trans (Ent.take (a := some ⟨b, 0, none⟩)) ?_
      refine Ent.trans (GiveO.closeD (pushStep k m p).1 hq) (Ent.cons ?_)
      refine Ent.trans (Ent.take (a := some ⟨mp, 0, none⟩)) (Ent.cons ?_)
      refine Ent.trans ?_ (Ent.of t3.back)
      exact ent
   | false =>
     refine go ?_
     refine Sx.ca rfl (machStep (b := b) kr_ (machGoes (b := b) kr_ (pushStepC (b := g) (mp := mp) (sb := pb) (k := k) (m := m) (p := p) hk) (R2 := fun v L' => v = .tuple #[] ∧ L' = gvB b (mth 232 b) (mth 239 g) (mth 240 g) (mth 261 b) (IntKind.i64.wrap (cnt + 1)) (.slice r p.l.length c) ::
       pt (some ⟨g, 0, none⟩) (PushO pb k (pushStep k m p).1) :: pt (some ⟨mp, 0, none⟩) (MemO (pushStep k m p).2) :: pt r (Row 3 1 p.l.length c (ints p.l)) :: pt (some ⟨pb, 0, none⟩) (SkO mp k) :: G) ?_)) ?_
     ·rintro v L1 ⟨rfl, rfl⟩
      refine (machOnNo (b := b) kr_ ((pushDoneC (b := g) (sb := pb) (k := k) (p := (pushStep k m p).1)).mono (by rintro v L' ⟨rfl, rfl⟩; exact ⟨by rw [hq], rfl⟩))).mono ?_
      rintro v L' ⟨rfl, rfl⟩
      exact ⟨rfl, rfl⟩
     ·rintro v L' ⟨rfl, w, _, w2, _, rfl⟩
      refine go ?_
      refine Kr.one (.inr rfl) rfl ?_ ⟨rfl, rfl⟩
      refine Ent.trans (Ent.cons (Ent.cons (Ent.take (a := r)))) ?_
      refine Ent.trans (GiveO.closeP (pushStep k m p).1 hq rfl (by rw [hpl]) (by rw [hpl])) (Ent.cons ?_)
      refine Ent.cons ?_
      exact Ent.of t3.back
theorem giveDone {b pb : Nat} {k : Sk} {p : PushS} {F1 : St} [t1 : Take L (some ⟨b, 0, none⟩) (GiveO pb k p) F1] : Fx Tryz.prog 188 [.pointer (some ⟨b, 0, none⟩)] L (fun v L' => v = .bool p.done ∧ L = L') := by
 refine Fx.kept (t := t1) ?_
 refine Fx.mk Tryz.func188 k188 nb_ ?_
 dsimp only [c188, kG, kS, kH, kM, kN, kF, kL, envOf, Nat.reduceAdd]
 refine Cx.ent (Ent.of t1.out) ?_
 cases hd : p.done with
 | true =>
   refine Cx.openp (a := some ⟨b, 0, none⟩) (GiveO.d hd) ?_
   rintro ⟨n1, n2, n3, cnt, sl⟩
   simp only [giveDL, List.cons_append, List.nil_append]
   refine go ?_
   refine Sx.ca rfl (machDoneYes (b := b)) ?_
   rintro v L' ⟨rfl, rfl⟩
   refine go ?_
   exact Kr.one (.inr rfl) rfl (GiveO.closeD p hd) ⟨rfl, rfl⟩
 | false =>
   refine Cx.openp (a := some ⟨b, 0, none⟩) (GiveO.p hd) ?_
   rintro ⟨g, cnt, r, c⟩
   simp only [givePL, List.cons_append, List.nil_append]
   refine go ?_
   refine Sx.ca rfl (machDoneNo (b := b)) ?_
   rintro v L' ⟨rfl, rfl⟩
   refine go ?_
   exact Kr.one (.inr rfl) rfl (GiveO.closeP p hd rfl rfl rfl) ⟨rfl, rfl⟩
end
end Go.Proofs.YtflalhdofhobmaaGreat


namespace Go.Proofs.YtflalhdofhobmaaGreat
theorem crIt_idle {k : Sk} {ro cl : Nat} {r : CreS × Mm} {j : Nat} (h : (crIt k ro cl j r).1.done = true) : ∀ i, crIt k ro cl (j + i) r = crIt k ro cl j r
 | 0 => rfl
 | i + 1 => by
   show crStep k ro cl (crIt k ro cl (j + i) r).2 (crIt k ro cl (j + i) r).1 = _
   rw [crIt_idle h i]
   unfold crStep
   rw [if_pos h]
theorem cr_pop {k : Sk} {ro cl : Nat} {m : Mm} : ∀ j, (∀ i, i ≤ j → (popIt k i (PopS.init 1, m)).1.done = false) →
  crIt k ro cl j (CreS.init, m) = ({ CreS.init with cnt := j, q := (popIt k j (PopS.init 1, m)).1 }, (popIt k j (PopS.init 1, m)).2)
 | 0, _ => rfl
 | j + 1, h => by
   have ih := cr_pop (k := k) (ro := ro) (cl := cl) (m := m) j (fun i hi => h i (by omega))
   have hd := h (j + 1) (Nat.le_refl _)
   rw [popIt_succ] at hd
   show crStep k ro cl (crIt k ro cl j (CreS.init, m)).2 (crIt k ro cl j (CreS.init, m)).1 = _
   rw [ih, popIt_succ]
   unfold crStep
   simp only [CreS.init, Bool.false_eq_true, if_false, hd]
theorem cr_alone {k : Sk} {ro cl len : Nat} {m : Mm} {l : List Int} {s : Int} (hk : k.ok len) (hml : m.ws.length = len) (hm : m.ok) (hp : Pool k m (s :: l)) (hr : ro + k.n ≤ k.links) (hrh : k.head < ro) (hcl : cl ≤ 3) :
  ∃ c m', crIt k ro cl 10 (CreS.init, m) = (c, m') ∧ c.done = true ∧ c.code = 0 ∧ c.slot = s ∧ c.at_ = 2 ∧ c.was = m.at_ (ro + s.toNat) ∧ m'.n = m.n + 5 ∧ m'.ws.length = len ∧ m'.ok ∧ Pool k m' l ∧
   m'.at_ (ro + s.toNat) = (nextRt cl (m.at_ (ro + s.toNat))).w ∧ (∀ a, a ≠ k.head → a ≠ ro + s.toNat → m'.at_ a = m.at_ a) := by
 obtain ⟨hs0, hs1, hs2, hs3⟩ := hp.c
 obtain ⟨m1, e1, n1, l1, p1, a1, d1⟩ := pop_alone hk hml hp 1 (by omega) (by omega) (by simp) 1 (by simp; omega)
 simp only [List.drop_succ_cons, List.drop_zero, List.take_succ_cons, List.take_zero] at e1 p1
 have hl := hk.l
 have hok1 : m1.ok := by
  have : ∀ j, (popIt k j (PopS.init 1, m)).2.ok ∧ (popIt k j (PopS.init 1, m)).1.ok k := by
   intro j
   induction j with
   | zero => exact ⟨hm, PopS.ok_init hk.n1 1⟩
   | succ j ih =>
     rw [popIt_succ]
     exact ⟨(popStep_mem hk ih.1 ih.2).1, popStep_ok hk ih.1 ih.2⟩
  have := (this (1 + 2)).1
  rw [e1] at this
  exact this
 have hw1 := Mm.at_lt hok1 (ro + s.toNat)
 have c2 := cr_pop (k := k) (ro := ro) (cl := cl) (m := m) 2 (fun i hi => d1 i (by omega))
 have c3 : crIt k ro cl 3 (CreS.init, m) = (⟨1, 3, s, 3, 0, 0, (popIt k 3 (PopS.init 1, m)).1, false⟩, m1) := by
  show crStep k ro cl (crIt k ro cl 2 (CreS.init, m)).2 (crIt k ro cl 2 (CreS.init, m)).1 = _
  have e2 : popStep k (popIt k 2 (PopS.init 1, m)).2 (popIt k 2 (PopS.init 1, m)).1 = (⟨1, 0, l.headD (-1), m.at_ k.head, [s], true⟩, m1) := by rw [← popIt_succ]; exact e1
  rw [c2]
  unfold crStep
  simp only [CreS.init, Bool.false_eq_true, if_false, e2, if_true, crPopped]
  rw [show (1 + 2 : Nat) = 3 from rfl] at e1
  rw [e1]
 have c4 : crIt k ro cl 4 (CreS.init, m) = (⟨2, 4, s, 3, m1.at_ (ro + s.toNat), 0, (popIt k 3 (PopS.init 1, m)).1, false⟩, m1.tick) := by
  show crStep k ro cl (crIt k ro cl 3 (CreS.init, m)).2 (crIt k ro cl 3 (CreS.init, m)).1 = _
  rw [c3]; rfl
 have c5 : crIt k ro cl 5 (CreS.init, m) = (⟨2, 5, s, 3, m1.at_ (ro + s.toNat), 0, (popIt k 3 (PopS.init 1, m)).1, true⟩, m1.tick.put (ro + s.toNat) (nextRt cl (m1.at_ (ro + s.toNat))).w) := by
  show crStep k ro cl (crIt k ro cl 4 (CreS.init, m)).2 (crIt k ro cl 4 (CreS.init, m)).1 = _
  rw [c4]; rfl
 have hin : ro + s.toNat < m1.tick.ws.length := by show _ < m1.ws.length; omega
 have hro : m1.at_ (ro + s.toNat) = m.at_ (ro + s.toNat) := a1 _ (by omega)
 have hput : ∀ a v, (m1.tick.put (ro + s.toNat) v).at_ a = if ro + s.toNat = a then v else m1.at_ a := fun a v => Mm.at_put a hin
 refine ⟨_, _, (crIt_idle (by rw [c5]) 5).trans c5, rfl, rfl, rfl, rfl, hro, ?_, ?_, ?_, ⟨?_, p1.nd⟩, ?_, ?_⟩
 ·show m1.n + 1 + 1 = _; omega
 ·rw [Mm.len_put]; exact l1
 ·exact Mm.ok_put (Mm.ok_tick hok1) (Rt.w_lt (nextRt_ok hw1 hcl))
 ·rw [hput, if_neg (by omega)]
  refine p1.c.congr fun y hy => ?_
  have := p1.c.mem y hy
  rw [hput, if_neg (by omega)]
 ·rw [hput, if_pos rfl, hro]
 ·intro a h1 h2
  rw [hput, if_neg (fun h => h2 h.symm)]
  exact a1 a h1
structure AlP where
 k : Sk
 ro : Nat
 wo : Nat
 wd : Nat
 ba : Int
 slot : Nat
 gen : Int
 n : Nat
abbrev gNone : PushS := ⟨[], 0, 0, true⟩
def TakeS.zero : TakeS := ⟨0, 0, false, 0, PopS.init 1, true⟩
noncomputable def alClose (k : Sk) (s : SupS) (v : AlV) (t : TakeS) (code : Nat) (o : Hd) : SupS × AlS :=
 let s1 := if 0 ≤ v.hand then s.give [v.hand] else s
 let g := giveInit k (s1.xs.take (overK s1.most s1.xs))
 ({ s1 with xs := s1.xs.drop (overK s1.most s1.xs) }, ⟨6, { v with code := code, obj := o, point := v.cnt, ends := true, hand := -1 }, t, g, g.done⟩)
def alTaken (v : AlV) (t : TakeS) : AlS := if t.is_ then ⟨3, { v with hand := t.chunk }, t, gNone, false⟩ else ⟨0, v, t, gNone, false⟩
noncomputable def alSeen (p : AlP) (s : SupS) (v : AlV) (t : TakeS) : SupS × AlS :=
 if (rtOf v.was).live p.gen then
  let v1 : AlV := { v with need := roundS (rtOf v.was).cl p.n }
  if 2 ≤ (rtOf v.was).mrk ∧ fitsS p.wd (rtOf v.was).off (roundS (rtOf v.was).cl p.n) then (s, ⟨1, v1, t, gNone, false⟩)
  else if 0 ≤ v.hand then (s, ⟨4, v1, t, gNone, false⟩)
  else if v.asked then alClose p.k s v1 t 6 Hd.zero
  else if (takeInit p.ba s).2.done then ((takeInit p.ba s).1, alTaken { v1 with asked := true } (takeInit p.ba s).2)
  else ((takeInit p.ba s).1, ⟨2, { v1 with asked := true }, (takeInit p.ba s).2, gNone, false⟩)
 else alClose p.k s v t 3 Hd.zero
noncomputable def alStep (p : AlP) (m : Mm) (s : SupS) (a : AlS) : Mm × SupS × AlS :=
 if a.done then (m, s, a) else
 let v : AlV := { a.v with cnt := a.v.cnt + 1 }
 let w := rtOf a.v.was
 match a.at_ with
 | 0 => (m.tick, alSeen p s { v with was := m.at_ (p.ro + p.slot) } a.t)
 | 1 => if m.at_ (p.ro + p.slot) = a.v.was then (m.put (p.ro + p.slot) (Rt.w ⟨w.gen, w.mrk, w.cl, w.off + v.need⟩), alClose p.k s v a.t 0 ⟨p.slot, p.gen, w.chunk, w.off, p.n⟩) else (m.tick, s, ⟨0, v, a.t, gNone, false⟩)
 | 2 => ((takeStep p.k p.ba m s a.t).1, (takeStep p.k p.ba m s a.t).2.1, if (takeStep p.k p.ba m s a.t).2.2.done then alTaken v (takeStep p.k p.ba m s a.t).2.2 else ⟨2, v, (takeStep p.k p.ba m s a.t).2.2, gNone, false⟩)
 | 3 => (m.put (p.wo + v.hand.toNat * p.wd + v.zat) 0, s, ⟨if v.zat + 1 < p.wd then 3 else 4, { v with zat := v.zat + 1 }, a.t, gNone, false⟩)
 | 4 => (m.put (p.k.links + v.hand.toNat) (w.chunk + 1).toNat, s, ⟨5, v, a.t, gNone, false⟩)
 | 5 => if m.at_ (p.ro + p.slot) = a.v.was then (m.put (p.ro + p.slot) (Rt.w ⟨w.gen, 2 + v.hand.toNat, w.cl, afterS p.wd v.need⟩), alClose p.k s { v with hand := -1 } a.t 0 ⟨p.slot, p.gen, v.hand, 0, p.n⟩) else (m.tick, s, ⟨0, v, a.t, gNone, false⟩)
 | _ => ((pushStep p.k m a.g).2, s, ⟨6, v, a.t, (pushStep p.k m a.g).1, (pushStep p.k m a.g).1.done⟩)
def AlS.init : AlS := ⟨0, AlV.init, TakeS.zero, gNone, false⟩
noncomputable def alIt (p : AlP) : Nat → Mm × SupS × AlS → Mm × SupS × AlS
 | 0, r => r
 | j + 1, r => alStep p (alIt p j r).1 (alIt p j r).2.1 (alIt p j r).2.2
end Go.Proofs.YtflalhdofhobmaaGreat


namespace Go.Proofs.YtflalhdofhobmaaGreat
open Go
attribute [local irreducible] Sx Cx Rx Fx Krg Ksq Kbl Klp Kr
section
variable {L F G : St}
theorem supTake {u mp pb : Nat} {x : Cn} {s : SupS} {F : St} (hx : x.ok) (hb : s.xs.length + s.lm.size ≤ 1000000) [t : Take L (some ⟨u, 0, none⟩) (SupO mp pb x s) F] :
  Fx Tryz.prog 158 [.pointer (some ⟨u, 0, none⟩)] L (fun v L' => ∃ b, v = .pointer (some ⟨b, 0, none⟩) ∧ L' = pt (some ⟨b, 0, none⟩) (TakeO u pb x.pool (takeInit x.ba s).2) :: pt (some ⟨u, 0, none⟩) (SupO mp pb x (takeInit x.ba s).1) :: F) := by
 refine Fx.mk Tryz.func158 k158 nb_ ?_
 dsimp only [c158, kG, kS, kH, kM, kN, kF, kL, envOf, Nat.reduceAdd]
 refine Cx.ent (Ent.of t.out) ?_
 refine go ?_
 refine Sx.bx rfl rfl fun b => ?_
 refine go ?_
 refine Sx.ca rfl (takeKept (b := b) (u := u) (mp := mp) (pb := pb) (x := x) (s := s) (by omega)) ?_
 rintro v L' ⟨rfl, rfl⟩
 by_cases hxs : s.xs = []
 ·have hk : s.kept = s := by unfold SupS.kept; rw [hxs]; simp only [List.dropLast_nil]; rw [← hxs]
  rw [decide_eq_false (fun h : s.xs ≠ [] => h hxs), hk, show lastI s.xs = 0 by rw [hxs]; rfl]
  refine go ?_
  refine Sx.openp (a := some ⟨u, 0, none⟩) rfl ?_
  rintro ⟨sh, lm⟩
  simp only [supL, List.cons_append, List.nil_append]
  refine go ?_
  refine Sx.ca rfl (limboLen (b := lm) (m := s.lm) (by omega)) ?_
  rintro v L' ⟨rfl, rfl⟩
  refine go ?_
  by_cases hz : 0 < s.lm.size
  ·have e : takeInit x.ba s = (s, TakeS.none_) := by unfold takeInit keepT; rw [if_pos hxs]; simp only [if_pos hz]
   rw [e]
   refine Cx.cyes rfl (decide_eq_true (by omega)) ?_
   refine go ?_
   refine Sx.ca rfl (machGo (b := b)) ?_
   rintro v L' ⟨rfl, rfl⟩
   refine go ?_
   refine Kr.one (.inr rfl) rfl ?_ ⟨b, rfl, rfl⟩
   refine Ent.trans ?_ (TakeO.closeL (n1 := .nilFunc) (n2 := .nilFunc) (n3 := .nilFunc) (pp := .pointer none) (cnt := 0) TakeS.none_ rfl rfl rfl rfl rfl)
   refine Ent.cons ?_
   refine Ent.trans (SupO.close (a := some ⟨u, 0, none⟩) (sh := sh) (lm := lm) (mp := mp) (pb := pb) (x := x) s rfl rfl rfl) (Ent.refl _)
  ·have e : takeInit x.ba s = (s, { TakeS.none_ with at_ := 1, q := PopS.init x.ba }) := by unfold takeInit keepT; rw [if_pos hxs]; simp only [if_neg hz]
   rw [e]
   refine Cx.cno rfl (decide_eq_false (by omega)) ?_
   refine Cx.ent (Ent.trans (Ent.swap) (Ent.trans (Ent.cons (Ent.refl _)) (SupO.close (a := some ⟨u, 0, none⟩) (sh := sh) (lm := lm) (mp := mp) (pb := pb) (x := x) s rfl rfl rfl))) ?_
   refine go ?_
   refine Sx.ca rfl (takeAsk (b := b) (u := u) (mp := mp) (pb := pb) (x := x) (s := s) hx) ?_
   rintro v L' rfl
   refine go ?_
   refine Kr.one (.inr rfl) rfl ?_ ⟨b, rfl, rfl⟩
   exact Ent.refl _
 ·have e : takeInit x.ba s = (s.kept, { TakeS.none_ with chunk := lastI s.xs, is_ := true, done := true }) := by unfold takeInit keepT; rw [if_neg hxs]
  rw [e, decide_eq_true (show s.xs ≠ [] from hxs)]
  refine go ?_
  exact Kr.one (.inr rfl) rfl (TakeO.closeD _ rfl rfl rfl rfl) ⟨b, rfl, rfl⟩
end
end Go.Proofs.YtflalhdofhobmaaGreat


namespace Go.Proofs.YtflalhdofhobmaaGreat
open Go
attribute [local irreducible] Sx Cx Rx Fx Krg Ksq Kbl Klp Kr
section
variable {L F G : St}
abbrev Cn.al (x : Cn) (slot : Nat) (gen : Int) (n : Nat) : AlP := ⟨x.pool, x.root, x.word, x.wd, x.ba, slot, gen, n⟩
abbrev hdA (o : Hd) : Value := .agg #[.int .i64 o.slot, .int .i64 o.gen, .int .i64 o.chunk, .int .i64 o.off, .int .i64 o.len]
abbrev alF (nx n1 n2 n3 : Value) (g u slot : Nat) (gen : Int) (n : Nat) (cnt : Int) (v : AlV) (rt : Rt) (tp gp : Value) : List Value :=
 [nx, n1, n2, n3, .int .i64 cnt, .pointer (some ⟨g, 0, none⟩), .pointer (some ⟨u, 0, none⟩), .int .i64 (slot : Nat), .int .i64 gen, .int .i64 (n : Nat), .int .i64 v.hand, .int .i64 (v.zat : Nat), .bool v.asked, .bool v.ends, .int .i64 (v.need : Nat), .int .i64 (v.point : Nat), wd v.was,
  .int .i64 (rt.gen : Nat), .int .i64 (rt.mrk : Nat), .int .i64 (rt.cl : Nat), .int .i64 (rt.off : Nat), tp, gp, .int .i64 (v.code : Nat), .int .i64 v.obj.slot, .int .i64 v.obj.gen, .int .i64 v.obj.chunk, .int .i64 v.obj.off, .int .i64 v.obj.len]
abbrev alB (b : Nat) (nx n1 n2 n3 : Value) (g u slot : Nat) (gen : Int) (n : Nat) (cnt : Int) (v : AlV) (rt : Rt) (tp gp : Value) : As := pt (some ⟨b, 0, none⟩) (Blk 152 (alF nx n1 n2 n3 g u slot gen n cnt v rt tp gp))
def alFn : Nat → FuncId
 | 0 => 80
 | 1 => 156
 | 3 => 221
 | 4 => 157
 | _ => 215
def alSL (f : FuncId) (T : TypeId) (g u slot : Nat) (gen : Int) (n : Nat) (s : AlS) (a : Option Addr) (y : Value × Value × Value × Value) : St :=
 [pt a (Blk T (alF (.func (.func f) #[.pointer a] #[]) y.1 y.2.1 y.2.2.1 g u slot gen n (s.v.cnt : Nat) s.v (rtOf s.v.was) y.2.2.2 (.pointer none)))]
def alTL (T : TypeId) (g u pb : Nat) (x : Cn) (slot : Nat) (gen : Int) (n : Nat) (s : AlS) (a : Option Addr) (y : Nat) : St :=
 [pt a (Blk T (alF (.func (.func 232) #[.pointer a] #[]) (mth 159 y) (mth 160 y) (.func (.func 161) #[.pointer a] #[]) g u slot gen n (s.v.cnt : Nat) s.v (rtOf s.v.was) (.pointer (some ⟨y, 0, none⟩)) (.pointer none))),
  pt (some ⟨y, 0, none⟩) (TakeO u pb x.pool s.t)]
def alGL (T : TypeId) (g u pb : Nat) (x : Cn) (slot : Nat) (gen : Int) (n : Nat) (s : AlS) (a : Option Addr) (y : Nat × Value) : St :=
 [pt a (Blk T (alF (.func (.func 232) #[.pointer a] #[]) (mth 208 y.1) (mth 188 y.1) (.func (.func 209) #[.pointer a] #[]) g u slot gen n (s.v.cnt : Nat) s.v (rtOf s.v.was) y.2 (.pointer (some ⟨y.1, 0, none⟩)))),
  pt (some ⟨y.1, 0, none⟩) (GiveO pb x.pool s.g)]
def alDL (T : TypeId) (g u pb : Nat) (x : Cn) (slot : Nat) (gen : Int) (n : Nat) (s : AlS) (a : Option Addr) (y : Nat × Value × Value × Value × Value) : St :=
 [pt a (Blk T (alF .nilFunc y.2.1 y.2.2.1 y.2.2.2.1 g u slot gen n (s.v.cnt : Nat) s.v (rtOf s.v.was) y.2.2.2.2 (.pointer (some ⟨y.1, 0, none⟩)))), pt (some ⟨y.1, 0, none⟩) (GiveO pb x.pool s.g)]
def AlT (T : TypeId) (g u pb : Nat) (x : Cn) (slot : Nat) (gen : Int) (n : Nat) (s : AlS) (a : Option Addr) : As := bif s.done then exs (alDL T g u pb x slot gen n s a) else match s.at_ with
 | 2 => exs (alTL T g u pb x slot gen n s a) | 6 => exs (alGL T g u pb x slot gen n s a) | k => exs (alSL (alFn k) T g u slot gen n s a)
abbrev AlO := AlT 152
section
variable {T : TypeId} {g u pb : Nat} {x : Cn} {slot : Nat} {gen : Int} {n : Nat} {s : AlS} {a : Option Addr}
theorem AlO.dd_ (h : s.done = true) : AlT T g u pb x slot gen n s a = exs (alDL T g u pb x slot gen n s a) := by unfold AlT; rw [h]; rfl
theorem AlO.tt_ (h : s.done = false) (h0 : s.at_ = 2) : AlT T g u pb x slot gen n s a = exs (alTL T g u pb x slot gen n s a) := by unfold AlT; rw [h, h0]; rfl
theorem AlO.gg_ (h : s.done = false) (h0 : s.at_ = 6) : AlT T g u pb x slot gen n s a = exs (alGL T g u pb x slot gen n s a) := by unfold AlT; rw [h, h0]; rfl
theorem AlO.ss_ (h : s.done = false) (h2 : s.at_ ≠ 2) (h6 : s.at_ ≠ 6) : AlT T g u pb x slot gen n s a = exs (alSL (alFn s.at_) T g u slot gen n s a) := by
 unfold AlT
 rw [h]
 split
 ·exact absurd ‹_› h2
 ·exact absurd ‹_› h6
 ·rfl
end
theorem AlO.closeS {b g u pb : Nat} {x : Cn} {slot : Nat} {gen : Int} {n : Nat} {n1 n2 n3 tp : Value} {cnt : Int} {v : AlV} {rt : Rt} {f : FuncId} (s : AlS) (h : s.done = false) (h2' : Nat.beq s.at_ 2 = false) (h6' : Nat.beq s.at_ 6 = false) (hf : f = alFn s.at_) (hc : cnt = (s.v.cnt : Nat)) (hv : { v with cnt := s.v.cnt } = s.v) (hr : rt = rtOf s.v.was) :
  Ent (alB b (mth f b) n1 n2 n3 g u slot gen n cnt v rt tp (.pointer none) :: G) (pt (some ⟨b, 0, none⟩) (AlO g u pb x slot gen n s) :: G) := by
 subst hf hc hr
 have h2 : s.at_ ≠ 2 := fun e => by rw [e] at h2'; cases h2'
 have h6 : s.at_ ≠ 6 := fun e => by rw [e] at h6'; cases h6'
 obtain ⟨a1, v0, t0, g0, d0⟩ := s
 obtain ⟨c1, c2, c3, c4, c5, c6, c7, c8, c9, c10⟩ := v0
 obtain ⟨e1, e2, e3, e4, e5, e6, e7, e8, e9, e10⟩ := v
 dsimp only at hv
 cases hv
 exact Ent.close (f := alSL (alFn a1) 152 g u slot gen n _ (some ⟨b, 0, none⟩)) (AlO.ss_ h h2 h6) (n1, n2, n3, tp)
theorem AlO.closeT {b g u pb q : Nat} {x : Cn} {slot : Nat} {gen : Int} {n : Nat} {cnt : Int} {v : AlV} {rt : Rt} {t : TakeS} (s : AlS) (h : s.done = false) (h2 : s.at_ = 2) (hc : cnt = (s.v.cnt : Nat)) (hv : { v with cnt := s.v.cnt } = s.v) (hr : rt = rtOf s.v.was) (ht : t = s.t) :
  Ent (alB b (mth 232 b) (mth 159 q) (mth 160 q) (mth 161 b) g u slot gen n cnt v rt (.pointer (some ⟨q, 0, none⟩)) (.pointer none) :: pt (some ⟨q, 0, none⟩) (TakeO u pb x.pool t) :: G) (pt (some ⟨b, 0, none⟩) (AlO g u pb x slot gen n s) :: G) := by
 subst hc hr ht
 obtain ⟨a1, v0, t0, g0, d0⟩ := s
 obtain ⟨c1, c2, c3, c4, c5, c6, c7, c8, c9, c10⟩ := v0
 obtain ⟨e1, e2, e3, e4, e5, e6, e7, e8, e9, e10⟩ := v
 dsimp only at hv
 cases hv
 exact Ent.close (f := alTL 152 g u pb x slot gen n _ (some ⟨b, 0, none⟩)) (AlO.tt_ h h2) q
theorem AlO.closeG {b g u pb q : Nat} {x : Cn} {slot : Nat} {gen : Int} {n : Nat} {tp : Value} {cnt : Int} {v : AlV} {rt : Rt} {p : PushS} (s : AlS) (h : s.done = false) (h2 : s.at_ = 6) (hc : cnt = (s.v.cnt : Nat)) (hv : { v with cnt := s.v.cnt } = s.v) (hr : rt = rtOf s.v.was) (ht : p = s.g) :
  Ent (alB b (mth 232 b) (mth 208 q) (mth 188 q) (mth 209 b) g u slot gen n cnt v rt tp (.pointer (some ⟨q, 0, none⟩)) :: pt (some ⟨q, 0, none⟩) (GiveO pb x.pool p) :: G) (pt (some ⟨b, 0, none⟩) (AlO g u pb x slot gen n s) :: G) := by
 subst hc hr ht
 obtain ⟨a1, v0, t0, g0, d0⟩ := s
 obtain ⟨c1, c2, c3, c4, c5, c6, c7, c8, c9, c10⟩ := v0
 obtain ⟨e1, e2, e3, e4, e5, e6, e7, e8, e9, e10⟩ := v
 dsimp only at hv
 cases hv
 exact Ent.close (f := alGL 152 g u pb x slot gen n _ (some ⟨b, 0, none⟩)) (AlO.gg_ h h2) (q, tp)
theorem AlO.closeD {b g u pb q : Nat} {x : Cn} {slot : Nat} {gen : Int} {n : Nat} {n1 n2 n3 tp : Value} {cnt : Int} {v : AlV} {rt : Rt} {p : PushS} (s : AlS) (h : s.done = true) (hc : cnt = (s.v.cnt : Nat)) (hv : { v with cnt := s.v.cnt } = s.v) (hr : rt = rtOf s.v.was) (ht : p = s.g) :
  Ent (alB b .nilFunc n1 n2 n3 g u slot gen n cnt v rt tp (.pointer (some ⟨q, 0, none⟩)) :: pt (some ⟨q, 0, none⟩) (GiveO pb x.pool p) :: G) (pt (some ⟨b, 0, none⟩) (AlO g u pb x slot gen n s) :: G) := by
 subst hc hr ht
 obtain ⟨a1, v0, t0, g0, d0⟩ := s
 obtain ⟨c1, c2, c3, c4, c5, c6, c7, c8, c9, c10⟩ := v0
 obtain ⟨e1, e2, e3, e4, e5, e6, e7, e8, e9, e10⟩ := v
 dsimp only at hv
 cases hv
 exact Ent.close (f := alDL 152 g u pb x slot gen n _ (some ⟨b, 0, none⟩)) (AlO.dd_ h) (q, n1, n2, n3, tp)
theorem alEnd {v : Value} : Fx Tryz.prog 209 [v] L (fun v L' => v = .tuple #[] ∧ L = L') := by
 refine Fx.mk Tryz.func209 k209 nb_ ?_
 dsimp only [c209, kG, kS, kH, kM, kN, kF, kL, envOf, Nat.reduceAdd]
 refine Cx.sk ?_
 exact Kr.none (.inl rfl) (Ent.refl _) ⟨rfl, rfl⟩
theorem grantAlloc {g u mp pb : Nat} {x : Cn} (slot : Nat) (gen : Int) (n : Nat) (hs : slot < x.sl) (hn : 1 ≤ n) (hn2 : n ≤ x.wd) [t : Take L (some ⟨g, 0, none⟩) (GrO mp x) F] :
  Fx Tryz.prog 19 [.pointer (some ⟨g, 0, none⟩), .pointer (some ⟨u, 0, none⟩), .int .i64 slot, .int .i64 gen, .int .i64 n] L (fun v L' => ∃ b, v = .tuple #[.pointer (some ⟨b, 0, none⟩), .int .i64 0] ∧ L' = pt (some ⟨b, 0, none⟩) (AlO g u pb x slot gen n AlS.init) :: L) := by
 refine Fx.mk Tryz.func19 k19 nb_ ?_
 dsimp only [c19, kG, kS, kH, kM, kN, kF, kL, envOf, Nat.reduceAdd]
 refine go ?_
 refine Cx.cno rfl (decide_eq_false (by omega)) ?_
 refine go ?_
 refine Sx.gyes rfl (decide_eq_false (by omega)) ?_
 refine go ?_
 refine Cx.cno rfl (decide_eq_false (by omega)) ?_
 refine go ?_
 refine Sx.bx rfl rfl fun b => ?_
 refine Sx.re (alF .nilFunc .nilFunc .nilFunc .nilFunc g u slot gen n 0 AlV.init ⟨0, 0, 0, 0⟩ (.pointer none) (.pointer none)) rfl ?_
 refine go ?_
 refine Sx.ca rfl (machGo (b := b)) ?_
 rintro v L' ⟨rfl, rfl⟩
 refine go ?_
 refine Kr.two (.inr rfl) rfl rfl ?_ ⟨b, rfl, rfl⟩
 exact AlO.closeS (b := b) (g := g) (u := u) (pb := pb) (x := x) (slot := slot) (gen := gen) (n := n) (v := AlV.init) (rt := ⟨0, 0, 0, 0⟩) AlS.init rfl rfl rfl rfl rfl rfl rfl
end
end Go.Proofs.YtflalhdofhobmaaGreat


namespace Go.Proofs.YtflalhdofhobmaaGreat
open Go
attribute [local irreducible] Sx Cx Rx Fx Krg Ksq Kbl Klp Kr
section
variable {L F G : St}
set_option maxHeartbeats 4000000 in
theorem alClose_ {b g u mp pb : Nat} {x : Cn} {slot : Nat} {gen : Int} {n : Nat} {v : AlV} {rt : Rt} {n1 n2 n3 tp : Value} {S : SupS} {cnt : Int} (code : Nat) (o : Hd) (t : TakeS) (hcnt : cnt = (v.cnt : Nat)) (hh : -1 ≤ v.hand) (hb : S.xs.length ≤ 1000000) (hm0 : 0 ≤ S.most) (hm2 : S.most ≤ 64) (hr : rt = rtOf v.was) :
  Fx Tryz.prog 153 [.pointer (some ⟨b, 0, none⟩), .int .i64 (code : Nat), hdA o] (alB b .nilFunc n1 n2 n3 g u slot gen n cnt v rt tp (.pointer none) :: pt (some ⟨u, 0, none⟩) (SupO mp pb x S) :: pt (some ⟨pb, 0, none⟩) (SkO mp x.pool) :: G)
   (fun _ L' => L' = pt (some ⟨b, 0, none⟩) (AlO g u pb x slot gen n (alClose x.pool S v t code o).2) :: pt (some ⟨u, 0, none⟩) (SupO mp pb x (alClose x.pool S v t code o).1) :: pt (some ⟨pb, 0, none⟩) (SkO mp x.pool) :: G) := by
 subst hcnt
 subst hr
 refine Fx.mk Tryz.func153 k153 nb_ ?_
 dsimp only [c153, kG, kS, kH, kM, kN, kF, kL, envOf, Nat.reduceAdd]
 refine Cx.sq ?_
 refine Cx.rg ?_
 refine Sx.bx rfl rfl fun q => ?_
 refine go ?_
 refine Cx.ordc rfl kr_ ?_
 refine ge ?_
 refine Ev.cakH kr_ rfl rfl (machCount (b := b)) ?_
 refine ge ?_
 refine Ev.stbH (b := b) kr_ rfl rfl rfl rfl rfl (by rfl) rfl (.dep rfl (.keep (fun v L' ⟨_, e⟩ => by subst e; exact Has.blk) .nil)) ?_
 refine ge ?_
 refine Ev.stnH (b := b) (alF .nilFunc n1 n2 n3 g u slot gen n (v.cnt : Nat) { v with code := code, obj := o } (rtOf v.was) tp (.pointer none)) kr_ rfl rfl rfl rfl rfl rfl rfl rfl (Pres.deps kr_) ?_
 refine ge ?_
 refine Ev.stbH (b := b) kr_ rfl rfl rfl rfl rfl (by rfl) rfl (Pres.deps kr_) ?_
 refine ge ?_
 refine Ev.stbH (b := b) kr_ rfl rfl rfl rfl rfl (by rfl) rfl (Pres.deps kr_) ?_
 refine ge ?_
 obtain ⟨S1, hS1⟩ : ∃ S1, S1 = (if 0 ≤ v.hand then S.give [v.hand] else S) := ⟨_, rfl⟩
 obtain ⟨V, hV⟩ : ∃ V : AlV, V = { v with code := code, obj := o, point := v.cnt, ends := true, hand := -1 } := ⟨_, rfl⟩
 obtain ⟨gi, hgi⟩ : ∃ gi, gi = giveInit x.pool (S1.xs.take (overK S1.most S1.xs)) := ⟨_, rfl⟩
 have hcl : alClose x.pool S v t code o = ({ S1 with xs := S1.xs.drop (overK S1.most S1.xs) }, ⟨6, V, t, gi, gi.done⟩) := by
  unfold alClose; rw [hgi, hV, hS1]
 rw [hcl]
 have hSm : S1.most = S.most := by rw [hS1]; split <;> rfl
 have hSl : S1.xs.length ≤ 1000001 := by
  rw [hS1]; split
  ·simp [SupS.give]; omega
  ·omega
 refine Cx.sq ?_
 refine Cx.jn (β := Unit) (fun _ => [(0, .pointer (some ⟨b, 0, none⟩))])
  (fun _ => alB b .nilFunc n1 n2 n3 g u slot gen n (v.cnt : Nat) V (rtOf v.was) tp (.pointer none) :: pt (some ⟨u, 0, none⟩) (SupO mp pb x S1) :: pt (some ⟨pb, 0, none⟩) (SkO mp x.pool) :: G) ?_ ?_
 ·refine go ?_
  refine Cx.ifp rfl (fun h => ?_) (fun h => ?_)
  ·rw [if_pos (by omega)] at hS1
   refine go ?_
   refine Cx.ordc rfl kr_ ?_
   refine ge ?_
   refine Ev.bsH (sz := 1) kr_ rfl rfl rfl (.dep rfl (.keep (fun v L' ⟨_, _, e⟩ => by subst e; exact Has.cell rfl) .nil)) fun r => ?_
   refine ge ?_
   refine Ev.caH kr_ rfl rfl (supPut (u := u) (mp := mp) (pb := pb) (x := x) (s := S) (ys := [v.hand]) (Rd.row (b := r) (E := 3) (cap := 1) rfl) (by omega)) (Pres.deps kr_) ?_
   rintro v' L' ⟨rfl, rfl⟩
   refine ge ?_
   refine go ?_
   refine Kjn.nm () (sub.cons rfl sub.nil) ?_
   rw [hV, hS1]
   exact ent
  ·rw [if_neg (by omega)] at hS1
   refine go ?_
   refine Kjn.nm () (sub.cons rfl sub.nil) ?_
   have e : v.hand = -1 := by dsimp only at h; omega
   rw [hV, hS1]
   simp only [e]
   exact ent
 rintro ⟨⟩
 refine go ?_
 refine Sx.ca rfl (supSpill (u := u) (mp := mp) (pb := pb) (x := x) (s := S1) (by omega) (by omega) (by omega)) ?_
 rintro v' L' ⟨r, rfl, rfl⟩
 refine go ?_
 refine Cx.orde rfl kr_ ?_
 refine ge ?_
 rw [← hgi]
 cases hg : gi.done with
 | true =>
   refine Ev.caH kr_ rfl rfl (machThrough (b := b) (machOnYes (b := b) kr_ ((giveDone (b := r) (pb := pb) (k := x.pool) (p := gi)).mono (by rintro v L' ⟨rfl, rfl⟩; exact ⟨by rw [hg], rfl⟩)) kr_ alEnd)) (Pres.deps kr_) ?_
   rintro v' L' ⟨rfl, w, rfl, w2, rfl, rfl⟩
   refine ge ?_
   refine Kr.none (.inl rfl) ?_ rfl
   refine Ent.trans (Ent.take (a := some ⟨b, 0, none⟩)) ?_
   refine Ent.trans (Ent.cons (Ent.take (a := some ⟨r, 0, none⟩))) ?_
   refine Ent.trans (AlO.closeD (v := V) (rt := rtOf v.was) ⟨6, V, t, gi, true⟩ rfl (by rw [hV]) rfl (by rw [hV]) rfl) (Ent.cons ?_)
   exact ent
 | false =>
   refine Ev.caH kr_ rfl rfl (machThrough (b := b) (machOnNo (b := b) kr_ ((giveDone (b := r) (pb := pb) (k := x.pool) (p := gi)).mono (by rintro v L' ⟨rfl, rfl⟩; exact ⟨by rw [hg], rfl⟩)))) (Pres.deps kr_) ?_
   rintro v' L' ⟨rfl, w, rfl, rfl⟩
   refine ge ?_
   refine Kr.none (.inl rfl) ?_ rfl
   refine Ent.trans (Ent.take (a := some ⟨b, 0, none⟩)) ?_
   refine Ent.trans (Ent.cons (Ent.take (a := some ⟨r, 0, none⟩))) ?_
   refine Ent.trans (AlO.closeG (v := V) (rt := rtOf v.was) ⟨6, V, t, gi, false⟩ rfl rfl (by rw [hV]) rfl (by rw [hV]) rfl) (Ent.cons ?_)
   exact ent
theorem alCloseC {b g u mp pb : Nat} {x : Cn} {slot : Nat} {gen : Int} {n : Nat} {v : AlV} {rt : Rt} {n1 n2 n3 tp : Value} {S : SupS} {cnt : Int} {F1 F2 F3 : St} (code : Nat) (o : Hd) (t : TakeS) (hcnt : cnt = (v.cnt : Nat)) (hh : -1 ≤ v.hand) (hb : S.xs.length ≤ 1000000) (hm0 : 0 ≤ S.most) (hm2 : S.most ≤ 64) (hr : rt = rtOf v.was)
  [t1 : Take L (some ⟨b, 0, none⟩) (Blk 152 (alF .nilFunc n1 n2 n3 g u slot gen n cnt v rt tp (.pointer none))) F1] [t2 : Take F1 (some ⟨u, 0, none⟩) (SupO mp pb x S) F2] [t3 : Take F2 (some ⟨pb, 0, none⟩) (SkO mp x.pool) F3] :
  Fx Tryz.prog 153 [.pointer (some ⟨b, 0, none⟩), .int .i64 (code : Nat), hdA o] L
   (fun _ L' => L' = pt (some ⟨b, 0, none⟩) (AlO g u pb x slot gen n (alClose x.pool S v t code o).2) :: pt (some ⟨u, 0, none⟩) (SupO mp pb x (alClose x.pool S v t code o).1) :: pt (some ⟨pb, 0, none⟩) (SkO mp x.pool) :: F3) :=
 Fx.ent (Ent.trans (Ent.of t1.out) (Ent.cons (Ent.trans (Ent.of t2.out) (Ent.cons (Ent.of t3.out))))) (alClose_ code o t hcnt hh hb hm0 hm2 hr)
end
end Go.Proofs.YtflalhdofhobmaaGreat


namespace Go.Proofs.YtflalhdofhobmaaGreat
open Go
attribute [local irreducible] Sx Cx Rx Fx Krg Ksq Kbl Klp Kr
section
variable {L F G : St}
set_option maxHeartbeats 1000000 in
theorem alTaken_ {b g u pb q : Nat} {x : Cn} {slot : Nat} {gen : Int} {n : Nat} {v : AlV} {n1 n2 n3 : Value} {t : TakeS} {cnt : Int} (hcnt : cnt = (v.cnt : Nat)) (ht : t.ok) :
  Fx Tryz.prog 161 [.pointer (some ⟨b, 0, none⟩)] (alB b .nilFunc n1 n2 n3 g u slot gen n cnt v (rtOf v.was) (.pointer (some ⟨q, 0, none⟩)) (.pointer none) :: pt (some ⟨q, 0, none⟩) (TakeO u pb x.pool t) :: G)
   (fun v' L' => L' = pt (some ⟨b, 0, none⟩) (AlO g u pb x slot gen n (alTaken v t)) :: G) := by
 subst hcnt
 refine Fx.mk Tryz.func161 k161 nb_ ?_
 dsimp only [c161, kG, kS, kH, kM, kN, kF, kL, envOf, Nat.reduceAdd]
 refine go ?_
 refine Sx.ca rfl (takeChunk (b := q) (u := u) (pb := pb) (k := x.pool) (t := t) ht) ?_
 rintro v' L' ⟨rfl, rfl⟩
 refine go ?_
 cases hi : t.is_ with
 | false =>
   have e : alTaken v t = ⟨0, v, t, gNone, false⟩ := by unfold alTaken; rw [hi]; rfl
   rw [e]
   refine go ?_
   refine Sx.ca rfl (machGo (b := b)) ?_
   rintro v' L' ⟨rfl, rfl⟩
   refine go ?_
   refine Kr.none (.inr rfl) ?_ rfl
   refine Ent.trans (AlO.closeS (v := v) (rt := rtOf v.was) ⟨0, v, t, gNone, false⟩ rfl rfl rfl rfl rfl rfl rfl) (Ent.cons ?_)
   exact ent
 | true =>
   have e : alTaken v t = ⟨3, { v with hand := t.chunk }, t, gNone, false⟩ := by unfold alTaken; rw [hi]; rfl
   rw [e]
   refine go ?_
   refine Sx.ca rfl (machGo (b := b)) ?_
   rintro v' L' ⟨rfl, rfl⟩
   refine go ?_
   refine Kr.none (.inl rfl) ?_ rfl
   refine Ent.trans (AlO.closeS (v := { v with hand := t.chunk }) (rt := rtOf v.was) ⟨3, { v with hand := t.chunk }, t, gNone, false⟩ rfl rfl rfl rfl rfl rfl rfl) (Ent.cons ?_)
   exact ent
set_option maxHeartbeats 4000000 in
theorem alLook_ {b g u mp pb : Nat} {x : Cn} {slot : Nat} {gen : Int} {n : Nat} {v : AlV} {rt : Rt} {n1 n2 n3 tp : Value} {S : SupS} {m : Mm} {cnt : Int} (t : TakeS) (hcnt : cnt = (v.cnt : Nat)) (hx : x.ok) (hm : m.ok) (hl : x.len ≤ m.ws.length) (hs : slot < x.sl) (hn : 1 ≤ n) (hn2 : n ≤ x.wd) (hw8 : x.wd % 8 = 0)
  (hh : -1 ≤ v.hand) (hok : (rtOf (m.at_ (x.root + slot))).ok) (hb : S.xs.length + S.lm.size ≤ 1000000) (hm0 : 0 ≤ S.most) (hm2 : S.most ≤ 64) :
  Fx Tryz.prog 80 [.pointer (some ⟨b, 0, none⟩)] (alB b .nilFunc n1 n2 n3 g u slot gen n cnt v rt tp (.pointer none) :: pt (some ⟨u, 0, none⟩) (SupO mp pb x S) :: pt (some ⟨mp, 0, none⟩) (MemO m) :: pt (some ⟨pb, 0, none⟩) (SkO mp x.pool) :: pt (some ⟨g, 0, none⟩) (GrO mp x) :: G)
   (fun _ L' => L' = pt (some ⟨b, 0, none⟩) (AlO g u pb x slot gen n (alSeen (x.al slot gen n) S { v with was := m.at_ (x.root + slot) } t).2) :: pt (some ⟨u, 0, none⟩) (SupO mp pb x (alSeen (x.al slot gen n) S { v with was := m.at_ (x.root + slot) } t).1) :: pt (some ⟨mp, 0, none⟩) (MemO m.tick) :: pt (some ⟨pb, 0, none⟩) (SkO mp x.pool) :: pt (some ⟨g, 0, none⟩) (GrO mp x) :: G) := by
 subst hcnt
 obtain ⟨b1, b2, b3, b4, b5, b6, b7⟩ := show MayC (x.w : Int) x.c x.wd x.sl x.ca x.ba from hx
 have hsz : x.root + x.sl ≤ x.len := by unfold Cn.root Cn.len; omega
 have hwl := Mm.at_lt hm (x.root + slot)
 obtain ⟨W, hW⟩ : ∃ W, m.at_ (x.root + slot) = W := ⟨_, rfl⟩
 rw [hW] at hok hwl ⊢
 refine Fx.mk Tryz.func80 k80 nb_ ?_
 dsimp only [c80, kG, kS, kH, kM, kN, kF, kL, envOf, Nat.reduceAdd]
 refine Cx.sq ?_
 refine Cx.ordc rfl kr_ ?_
 refine ge ?_
 refine Ev.cakH kr_ rfl rfl (layRootN hx slot hs) ?_
 refine ge ?_
 refine Ev.caH kr_ rfl rfl (cellsLoad (b := mp) (m := m) (x.root + slot) (by omega)) (Pres.deps kr_) ?_
 rintro v' L' ⟨rfl, rfl⟩
 rw [hW]
 refine ge ?_
 refine Ev.stbH (b := b) kr_ rfl rfl rfl rfl rfl (by rfl) rfl (Pres.deps kr_) ?_
 refine ge ?_
 refine go ?_
 refine Sx.ca rfl (getRoot W hwl) ?_
 rintro v' L' ⟨rfl, rfl⟩
 refine go ?_
 refine Sx.st (b := b) rfl rfl rfl rfl rfl rfl ?_
 refine Sx.re (alF .nilFunc n1 n2 n3 g u slot gen n (v.cnt : Nat) { v with was := W } (rtOf W) tp (.pointer none)) rfl ?_
 refine go ?_
 refine Cx.ordc rfl kr_ ?_
 refine ge ?_
 refine Ev.cakH kr_ rfl rfl (wordLive (rtOf W) gen) ?_
 refine ge ?_
 by_cases hlive : (rtOf W).live gen
 case neg =>
  have e : alSeen (x.al slot gen n) S { v with was := W } t = alClose x.pool S { v with was := W } t 3 Hd.zero := by
   unfold alSeen; rw [if_neg hlive]
  rw [e, decide_eq_false hlive]
  refine go ?_
  refine Sx.ca rfl (alCloseC (b := b) (g := g) (u := u) (mp := mp) (pb := pb) (x := x) (slot := slot) (gen := gen) (n := n) (v := { v with was := W }) (rt := rtOf W) (S := S) 3 Hd.zero t rfl hh (by omega) hm0 hm2 rfl) ?_
  rintro v' L' rfl
  refine go ?_
  refine Kr.none (.inr rfl) ?_ rfl
  exact ent
 case pos =>
  rw [decide_eq_true hlive]
  refine go ?_
  refine Cx.ordc rfl kr_ ?_
  refine ge ?_
  have hrl := roundS_le hok.c hn2 hw8
  have hrg := roundS_ge (n := n) hok.c
  refine Ev.cakH kr_ rfl rfl (sizeRound (rtOf W).cl n hok.c hn (by omega)) ?_
  obtain ⟨need, hneed⟩ : ∃ need, roundS (rtOf W).cl n = need := ⟨_, rfl⟩
  rw [hneed] at hrl hrg ⊢
  refine ge ?_
  refine Ev.stbH (b := b) kr_ rfl rfl rfl rfl rfl (by rfl) rfl (Pres.deps kr_) ?_
  refine ge ?_
  refine go ?_
  refine Cx.ordc rfl kr_ ?_
  refine ge ?_
  rcases (show (2 ≤ (rtOf W).mrk ∧ fitsS x.wd (rtOf W).off need) ∨ (2 ≤ (rtOf W).mrk ∧ ¬ fitsS x.wd (rtOf W).off need) ∨ ¬ 2 ≤ (rtOf W).mrk from by
   by_cases h1 : 2 ≤ (rtOf W).mrk
   ·by_cases h2 : fitsS x.wd (rtOf W).off need
    ·exact .inl ⟨h1, h2⟩
    ·exact .inr (.inl ⟨h1, h2⟩)
   ·exact .inr (.inr h1)) with ⟨hmk, hf⟩ | ⟨hmk, hf⟩ | hmk
  ·refine Ev.yes 96 rfl (decide_eq_true (by omega)) ?_
   refine ge ?_
   refine Ev.cakH kr_ rfl rfl (sizeFits x.wd (rtOf W).off need (by omega) (by omega) (by omega) hrl) ?_
   refine ge ?_
   rw [decide_eq_true hf]
   have e : alSeen (x.al slot gen n) S { v with was := W } t = (S, ⟨1, { v with was := W, need := need }, t, gNone, false⟩) := by
    unfold alSeen; rw [if_pos hlive]; dsimp only; rw [hneed, if_pos ⟨hmk, hf⟩]
   rw [e]
   refine go ?_
   refine Sx.ca rfl (machGo (b := b)) ?_
   rintro v' L' ⟨rfl, rfl⟩
   refine go ?_
   refine Kr.none (.inl rfl) ?_ rfl
   refine Ent.trans (Ent.take (a := some ⟨b, 0, none⟩)) ?_
   refine Ent.trans (AlO.closeS (v := { v with was := W, need := need }) (rt := rtOf W) ⟨1, { v with was := W, need := need }, t, gNone, false⟩ rfl rfl rfl rfl rfl rfl rfl) (Ent.cons ?_)
   exact ent
  ·have hnf : ¬ (2 ≤ (rtOf W).mrk ∧ fitsS x.wd (rtOf W).off need) := fun h => by first | exact hf h.2 | exact hmk h.1
   first
    | (refine Ev.yes 96 rfl (decide_eq_true (by omega)) ?_
       refine ge ?_
       refine Ev.cakH kr_ rfl rfl (sizeFits x.wd (rtOf W).off need (by omega) (by omega) (by omega) hrl) ?_
       refine ge ?_
       rw [decide_eq_false hf])
    | (refine Ev.no 96 rfl (decide_eq_false (by omega)) ?_
       refine ge ?_)
   refine go ?_
   refine Cx.ifp rfl (fun h => ?_) (fun h => ?_)
   ·have e : alSeen (x.al slot gen n) S { v with was := W } t = (S, ⟨4, { v with was := W, need := need }, t, gNone, false⟩) := by
     unfold alSeen; rw [if_pos hlive]; dsimp only; rw [hneed, if_neg hnf, if_pos (by exact h)]
    rw [e]
    refine go ?_
    refine Sx.ca rfl (machGo (b := b)) ?_
    rintro v' L' ⟨rfl, rfl⟩
    refine go ?_
    refine Kr.none (.inl rfl) ?_ rfl
    refine Ent.trans (Ent.take (a := some ⟨b, 0, none⟩)) ?_
    refine Ent.trans (AlO.closeS (v := { v with was := W, need := need }) (rt := rtOf W) ⟨4, { v with was := W, need := need }, t, gNone, false⟩ rfl rfl rfl rfl rfl rfl rfl) (Ent.cons ?_)
    exact ent
   ·dsimp only at h
    cases hask : v.asked with
    | true =>
      have e : alSeen (x.al slot gen n) S { v with was := W } t = alClose x.pool S { v with was := W, need := need, asked := true } t 6 Hd.zero := by
       unfold alSeen; rw [if_pos hlive]; dsimp only; rw [hneed, if_neg hnf, if_neg h, if_pos hask, hask]
      rw [hask] at e
      rw [e]
      refine go ?_
      refine Sx.ca rfl (alCloseC (b := b) (g := g) (u := u) (mp := mp) (pb := pb) (x := x) (slot := slot) (gen := gen) (n := n) (v := { v with was := W, need := need, asked := true }) (rt := rtOf W) (S := S) 6 Hd.zero t rfl hh (by omega) hm0 hm2 rfl) ?_
      rintro v' L' rfl
      refine go ?_
      refine Kr.none (.inl rfl) ?_ rfl
      exact ent
    | false =>
      obtain ⟨T, hT⟩ : ∃ T, takeInit x.ba S = T := ⟨_, rfl⟩
      have hst := supTake (u := u) (mp := mp) (pb := pb) (x := x) (s := S) hx hb (L := pt (some ⟨b, 0, none⟩) (Blk 152 (alF .nilFunc n1 n2 n3 g u slot gen n (v.cnt : Nat) { v with was := W, need := need, asked := true } (rtOf W) tp (.pointer none))) :: pt (some ⟨u, 0, none⟩) (SupO mp pb x S) :: pt (some ⟨mp, 0, none⟩) (MemO m.tick) :: pt (some ⟨pb, 0, none⟩) (SkO mp x.pool) :: pt (some ⟨g, 0, none⟩) (GrO mp x) :: G)
      have htok := takeInit_ok (ba := x.ba) (s := S)
      rw [hT] at hst htok
      refine go ?_
      refine Sx.ent ?_ (Sx.ca rfl hst ?_)
      ·exact ent
      rintro v' L' ⟨q, rfl, rfl⟩
      refine go ?_
      cases hd : T.2.done with
      | true =>
        have e : alSeen (x.al slot gen n) S { v with was := W } t = (T.1, alTaken { v with was := W, need := need, asked := true } T.2) := by
         unfold alSeen; rw [if_pos hlive]; dsimp only; rw [hneed, if_neg hnf, if_neg h, if_neg (by rw [hask]; decide), hT, if_pos hd]
        rw [hask] at e
        rw [e]
        refine Cx.orde rfl kr_ ?_
        refine ge ?_
        refine Ev.caH kr_ rfl rfl (machThrough (b := b) (machOnYes (b := b) kr_ ((takeDone (b := q) (u := u) (pb := pb) (k := x.pool) (t := T.2) htok).mono (by rintro v L' ⟨rfl, rfl⟩; exact ⟨by rw [hd], rfl⟩)) kr_
         (alTaken_ (b := b) (q := q) (g := g) (u := u) (pb := pb) (x := x) (slot := slot) (gen := gen) (n := n) (v := { v with was := W, need := need, asked := true }) (t := T.2) rfl htok))) (Pres.deps kr_) ?_
        rintro v' L' ⟨rfl, w, ⟨_, w2, rfl⟩⟩
        refine ge ?_
        refine go ?_
        refine Kr.none (.inl rfl) ?_ rfl
        exact ent
      | false =>
        have e : alSeen (x.al slot gen n) S { v with was := W } t = (T.1, ⟨2, { v with was := W, need := need, asked := true }, T.2, gNone, false⟩) := by
         unfold alSeen; rw [if_pos hlive]; dsimp only; rw [hneed, if_neg hnf, if_neg h, if_neg (by rw [hask]; decide), hT, if_neg (by rw [hd]; decide)]
        rw [hask] at e
        rw [e]
        refine Cx.orde rfl kr_ ?_
        refine ge ?_
        refine Ev.caH kr_ rfl rfl (machThrough (b := b) (machOnNo (b := b) kr_ ((takeDone (b := q) (u := u) (pb := pb) (k := x.pool) (t := T.2) htok).mono (by rintro v L' ⟨rfl, rfl⟩; exact ⟨by rw [hd], rfl⟩)))) (Pres.deps kr_) ?_
        rintro v' L' ⟨rfl, w, ⟨_, rfl⟩⟩
        refine ge ?_
        refine go ?_
        refine Kr.none (.inl rfl) ?_ rfl
        refine Ent.trans (Ent.take (a := some ⟨b, 0, none⟩)) ?_
        refine Ent.trans (Ent.cons (Ent.take (a := some ⟨q, 0, none⟩))) ?_
        refine Ent.trans (AlO.closeT (v := { v with was := W, need := need, asked := true }) (rt := rtOf W) ⟨2, { v with was := W, need := need, asked := true }, T.2, gNone, false⟩ rfl rfl rfl rfl rfl rfl) (Ent.cons ?_)
        exact ent
  ·have hnf : ¬ (2 ≤ (rtOf W).mrk ∧ fitsS x.wd (rtOf W).off need) := fun h => by first | exact hf h.2 | exact hmk h.1
   first
    | (refine Ev.yes 96 rfl (decide_eq_true (by omega)) ?_
       refine ge ?_
       refine Ev.cakH kr_ rfl rfl (sizeFits x.wd (rtOf W).off need (by omega) (by omega) (by omega) hrl) ?_
       refine ge ?_
       rw [decide_eq_false hf])
    | (refine Ev.no 96 rfl (decide_eq_false (by omega)) ?_
       refine ge ?_)
   refine go ?_
   refine Cx.ifp rfl (fun h => ?_) (fun h => ?_)
   ·have e : alSeen (x.al slot gen n) S { v with was := W } t = (S, ⟨4, { v with was := W, need := need }, t, gNone, false⟩) := by
     unfold alSeen; rw [if_pos hlive]; dsimp only; rw [hneed, if_neg hnf, if_pos (by exact h)]
    rw [e]
    refine go ?_
    refine Sx.ca rfl (machGo (b := b)) ?_
    rintro v' L' ⟨rfl, rfl⟩
    refine go ?_
    refine Kr.none (.inl rfl) ?_ rfl
    refine Ent.trans (Ent.take (a := some ⟨b, 0, none⟩)) ?_
    refine Ent.trans (AlO.closeS (v := { v with was := W, need := need }) (rt := rtOf W) ⟨4, { v with was := W, need := need }, t, gNone, false⟩ rfl rfl rfl rfl rfl rfl rfl) (Ent.cons ?_)
    exact ent
   ·dsimp only at h
    cases hask : v.asked with
    | true =>
      have e : alSeen (x.al slot gen n) S { v with was := W } t = alClose x.pool S { v with was := W, need := need, asked := true } t 6 Hd.zero := by
       unfold alSeen; rw [if_pos hlive]; dsimp only; rw [hneed, if_neg hnf, if_neg h, if_pos hask, hask]
      rw [hask] at e
      rw [e]
      refine go ?_
      refine Sx.ca rfl (alCloseC (b := b) (g := g) (u := u) (mp := mp) (pb := pb) (x := x) (slot := slot) (gen := gen) (n := n) (v := { v with was := W, need := need, asked := true }) (rt := rtOf W) (S := S) 6 Hd.zero t rfl hh (by omega) hm0 hm2 rfl) ?_
      rintro v' L' rfl
      refine go ?_
      refine Kr.none (.inl rfl) ?_ rfl
      exact ent
    | false =>
      obtain ⟨T, hT⟩ : ∃ T, takeInit x.ba S = T := ⟨_, rfl⟩
      have hst := supTake (u := u) (mp := mp) (pb := pb) (x := x) (s := S) hx hb (L := pt (some ⟨b, 0, none⟩) (Blk 152 (alF .nilFunc n1 n2 n3 g u slot gen n (v.cnt : Nat) { v with was := W, need := need, asked := true } (rtOf W) tp (.pointer none))) :: pt (some ⟨u, 0, none⟩) (SupO mp pb x S) :: pt (some ⟨mp, 0, none⟩) (MemO m.tick) :: pt (some ⟨pb, 0, none⟩) (SkO mp x.pool) :: pt (some ⟨g, 0, none⟩) (GrO mp x) :: G)
      have htok := takeInit_ok (ba := x.ba) (s := S)
      rw [hT] at hst htok
      refine go ?_
      refine Sx.ent ?_ (Sx.ca rfl hst ?_)
      ·exact ent
      rintro v' L' ⟨q, rfl, rfl⟩
      refine go ?_
      cases hd : T.2.done with
      | true =>
        have e : alSeen (x.al slot gen n) S { v with was := W } t = (T.1, alTaken { v with was := W, need := need, asked := true } T.2) := by
         unfold alSeen; rw [if_pos hlive]; dsimp only; rw [hneed, if_neg hnf, if_neg h, if_neg (by rw [hask]; decide), hT, if_pos hd]
        rw [hask] at e
        rw [e]
        refine Cx.orde rfl kr_ ?_
        refine ge ?_
        refine Ev.caH kr_ rfl rfl (machThrough (b := b) (machOnYes (b := b) kr_ ((takeDone (b := q) (u := u) (pb := pb) (k := x.pool) (t := T.2) htok).mono (by rintro v L' ⟨rfl, rfl⟩; exact ⟨by rw [hd], rfl⟩)) kr_
         (alTaken_ (b := b) (q := q) (g := g) (u := u) (pb := pb) (x := x) (slot := slot) (gen := gen) (n := n) (v := { v with was := W, need := need, asked := true }) (t := T.2) rfl htok))) (Pres.deps kr_) ?_
        rintro v' L' ⟨rfl, w, ⟨_, w2, rfl⟩⟩
        refine ge ?_
        refine go ?_
        refine Kr.none (.inl rfl) ?_ rfl
        exact ent
      | false =>
        have e : alSeen (x.al slot gen n) S { v with was := W } t = (T.1, ⟨2, { v with was := W, need := need, asked := true }, T.2, gNone, false⟩) := by
         unfold alSeen; rw [if_pos hlive]; dsimp only; rw [hneed, if_neg hnf, if_neg h, if_neg (by rw [hask]; decide), hT, if_neg (by rw [hd]; decide)]
        rw [hask] at e
        rw [e]
        refine Cx.orde rfl kr_ ?_
        refine ge ?_
        refine Ev.caH kr_ rfl rfl (machThrough (b := b) (machOnNo (b := b) kr_ ((takeDone (b := q) (u := u) (pb := pb) (k := x.pool) (t := T.2) htok).mono (by rintro v L' ⟨rfl, rfl⟩; exact ⟨by rw [hd], rfl⟩)))) (Pres.deps kr_) ?_
        rintro v' L' ⟨rfl, w, ⟨_, rfl⟩⟩
        refine ge ?_
        refine go ?_
        refine Kr.none (.inl rfl) ?_ rfl
        refine Ent.trans (Ent.take (a := some ⟨b, 0, none⟩)) ?_
        refine Ent.trans (Ent.cons (Ent.take (a := some ⟨q, 0, none⟩))) ?_
        refine Ent.trans (AlO.closeT (v := { v with was := W, need := need, asked := true }) (rt := rtOf W) ⟨2, { v with was := W, need := need, asked := true }, T.2, gNone, false⟩ rfl rfl rfl rfl rfl rfl) (Ent.cons ?_)
        exact ent
end
end Go.Proofs.YtflalhdofhobmaaGreat


namespace Go.Proofs.YtflalhdofhobmaaGreat
open Go
attribute [local irreducible] Sx Cx Rx Fx Krg Ksq Kbl Klp Kr
section
variable {L F G : St}
theorem word_lt {x : Cn} {k j : Nat} (hk : k < x.c) (hj : j < x.wd) : x.word + k * x.wd + j < x.len := by
 have h1 : (k + 1) * x.wd ≤ x.c * x.wd := Nat.mul_le_mul_right _ hk
 rw [Nat.succ_mul] at h1
 unfold Cn.word Cn.len; omega
theorem Rt.chunk_ge (r : Rt) : -1 ≤ r.chunk := by unfold Rt.chunk; split <;> omega
theorem Rt.chunk_lt {r : Rt} (h : r.mrk < 65536) : r.chunk < 65536 := by unfold Rt.chunk; split <;> omega
set_option maxHeartbeats 2000000 in
theorem alClear_ {b g u mp pb : Nat} {x : Cn} {slot : Nat} {gen : Int} {n : Nat} {v : AlV} {n1 n2 n3 tp : Value} {S : SupS} {m : Mm} {cnt : Int} (t : TakeS) (k : Nat) (hcnt : cnt = (v.cnt : Nat)) (hx : x.ok) (hl : x.len ≤ m.ws.length) (hk : v.hand = k) (hkc : k < x.c) (hz : v.zat < x.wd) :
  Fx Tryz.prog 221 [.pointer (some ⟨b, 0, none⟩)] (alB b .nilFunc n1 n2 n3 g u slot gen n cnt v (rtOf v.was) tp (.pointer none) :: pt (some ⟨u, 0, none⟩) (SupO mp pb x S) :: pt (some ⟨mp, 0, none⟩) (MemO m) :: pt (some ⟨pb, 0, none⟩) (SkO mp x.pool) :: pt (some ⟨g, 0, none⟩) (GrO mp x) :: G)
   (fun _ L' => L' = pt (some ⟨b, 0, none⟩) (AlO g u pb x slot gen n ⟨if v.zat + 1 < x.wd then 3 else 4, { v with zat := v.zat + 1 }, t, gNone, false⟩) :: pt (some ⟨u, 0, none⟩) (SupO mp pb x S) :: pt (some ⟨mp, 0, none⟩) (MemO (m.put (x.word + k * x.wd + v.zat) 0)) :: pt (some ⟨pb, 0, none⟩) (SkO mp x.pool) :: pt (some ⟨g, 0, none⟩) (GrO mp x) :: G) := by
 subst hcnt
 obtain ⟨cn, hand, zat, asked, ends, need, point, was, code, obj⟩ := v
 dsimp only at hk hz ⊢
 subst hk
 obtain ⟨b1, b2, b3, b4, b5, b6, b7⟩ := show MayC (x.w : Int) x.c x.wd x.sl x.ca x.ba from hx
 have hwlt := word_lt hkc hz
 refine Fx.mk Tryz.func221 k221 nb_ ?_
 dsimp only [c221, kG, kS, kH, kM, kN, kF, kL, envOf, Nat.reduceAdd]
 refine Cx.sq ?_
 refine Cx.ordc rfl kr_ ?_
 refine ge ?_
 refine Ev.cakH kr_ rfl rfl (layWordN hx k zat hkc hz) ?_
 refine ge ?_
 refine Ev.caH kr_ rfl rfl (cellsStore (b := mp) (m := m) (x.word + k * x.wd + zat) 0 (by omega) (by omega)) (Pres.deps kr_) ?_
 rintro v' L' ⟨rfl, rfl⟩
 refine ge ?_
 refine go ?_
 rw [w64 (n := (zat : Int) + 1) (by omega) (by omega), show (zat : Int) + 1 = ((zat + 1 : Nat) : Int) by omega]
 refine go ?_
 refine Cx.ordc rfl kr_ ?_
 refine ge ?_
 refine Cx.ifp rfl (fun h => ?_) (fun h => ?_)
 ·rw [if_pos (show zat + 1 < x.wd by omega)]
  refine go ?_
  refine Sx.ca rfl (machGo (b := b)) ?_
  rintro v' L' ⟨rfl, rfl⟩
  refine go ?_
  refine Kr.none (.inl rfl) ?_ rfl
  refine Ent.trans (Ent.take (a := some ⟨b, 0, none⟩)) ?_
  refine Ent.trans (AlO.closeS (v := ⟨cn, k, zat + 1, asked, ends, need, point, was, code, obj⟩) (rt := rtOf was) ⟨3, ⟨cn, k, zat + 1, asked, ends, need, point, was, code, obj⟩, t, gNone, false⟩ rfl rfl rfl rfl rfl rfl rfl) (Ent.cons ?_)
  exact ent
 ·rw [if_neg (show ¬ zat + 1 < x.wd by omega)]
  refine go ?_
  refine Sx.ca rfl (machGo (b := b)) ?_
  rintro v' L' ⟨rfl, rfl⟩
  refine go ?_
  refine Kr.none (.inl rfl) ?_ rfl
  refine Ent.trans (Ent.take (a := some ⟨b, 0, none⟩)) ?_
  refine Ent.trans (AlO.closeS (v := ⟨cn, k, zat + 1, asked, ends, need, point, was, code, obj⟩) (rt := rtOf was) ⟨4, ⟨cn, k, zat + 1, asked, ends, need, point, was, code, obj⟩, t, gNone, false⟩ rfl rfl rfl rfl rfl rfl rfl) (Ent.cons ?_)
  exact ent
set_option maxHeartbeats 2000000 in
theorem alLink_ {b g u mp pb : Nat} {x : Cn} {slot : Nat} {gen : Int} {n : Nat} {v : AlV} {n1 n2 n3 tp : Value} {S : SupS} {m : Mm} {cnt : Int} (t : TakeS) (k : Nat) (hcnt : cnt = (v.cnt : Nat)) (hx : x.ok) (hl : x.len ≤ m.ws.length) (hk : v.hand = k) (hkc : k < x.c) :
  Fx Tryz.prog 157 [.pointer (some ⟨b, 0, none⟩)] (alB b .nilFunc n1 n2 n3 g u slot gen n cnt v (rtOf v.was) tp (.pointer none) :: pt (some ⟨u, 0, none⟩) (SupO mp pb x S) :: pt (some ⟨mp, 0, none⟩) (MemO m) :: pt (some ⟨pb, 0, none⟩) (SkO mp x.pool) :: pt (some ⟨g, 0, none⟩) (GrO mp x) :: G)
   (fun _ L' => L' = pt (some ⟨b, 0, none⟩) (AlO g u pb x slot gen n ⟨5, v, t, gNone, false⟩) :: pt (some ⟨u, 0, none⟩) (SupO mp pb x S) :: pt (some ⟨mp, 0, none⟩) (MemO (m.put (x.link + k) ((rtOf v.was).chunk + 1).toNat)) :: pt (some ⟨pb, 0, none⟩) (SkO mp x.pool) :: pt (some ⟨g, 0, none⟩) (GrO mp x) :: G) := by
 subst hcnt
 obtain ⟨cn, hand, zat, asked, ends, need, point, was, code, obj⟩ := v
 dsimp only at hk ⊢
 subst hk
 have hc1 := (rtOf was).chunk_ge
 have hc2 := Rt.chunk_lt (rtOf_mrk was)
 have hsz : x.link + x.c ≤ x.len := by unfold Cn.link Cn.len; omega
 refine Fx.mk Tryz.func157 k157 nb_ ?_
 dsimp only [c157, kG, kS, kH, kM, kN, kF, kL, envOf, Nat.reduceAdd]
 refine Cx.sq ?_
 refine Cx.ordc rfl kr_ ?_
 refine ge ?_
 refine Ev.cakH kr_ rfl rfl (layLinkN hx k hkc) ?_
 refine ge ?_
 refine Ev.cakH kr_ rfl rfl (wordChunk (rtOf was) (rtOf_mrk _)) ?_
 refine ge ?_
 rw [wrapS (x := (rtOf was).chunk + 1) (by omega) (by omega)]
 refine Ev.caH kr_ rfl rfl (cellsStore (b := mp) (m := m) (x.link + k) ((rtOf was).chunk + 1).toNat (by omega) (by omega)) (Pres.deps kr_) ?_
 rintro v' L' ⟨rfl, rfl⟩
 refine ge ?_
 refine go ?_
 refine Sx.ca rfl (machGo (b := b)) ?_
 rintro v' L' ⟨rfl, rfl⟩
 refine go ?_
 refine Kr.none (.inl rfl) ?_ rfl
 refine Ent.trans (Ent.take (a := some ⟨b, 0, none⟩)) ?_
 refine Ent.trans (AlO.closeS (v := ⟨cn, k, zat, asked, ends, need, point, was, code, obj⟩) (rt := rtOf was) ⟨5, ⟨cn, k, zat, asked, ends, need, point, was, code, obj⟩, t, gNone, false⟩ rfl rfl rfl rfl rfl rfl rfl) (Ent.cons ?_)
 exact ent
theorem alExchange {b g u mp : Nat} {x : Cn} {slot : Nat} {gen : Int} {n : Nat} {v : AlV} {rt : Rt} {nx n1 n2 n3 tp gp : Value} {m : Mm} {cnt : Int} {F1 F2 : St} (R : Rt) (hR : R.ok) (hx : x.ok) (hl : x.len ≤ m.ws.length) (hs : slot < x.sl)
  [t1 : Take L (some ⟨mp, 0, none⟩) (MemO m) F] [t2 : Take F (some ⟨b, 0, none⟩) (Blk 152 (alF nx n1 n2 n3 g u slot gen n cnt v rt tp gp)) F1] [t3 : Take F1 (some ⟨g, 0, none⟩) (GrO mp x) F2] :
  Fx Tryz.prog 212 [.pointer (some ⟨b, 0, none⟩), rtV R] L (fun v' L' => v' = .bool (decide (m.at_ (x.root + slot) = v.was)) ∧ L' = pt (some ⟨mp, 0, none⟩) (MemO (m.cas (x.root + slot) v.was R.w)) :: F) := by
 have hsz : x.root + x.sl ≤ x.len := by unfold Cn.root Cn.len; omega
 refine Fx.mk Tryz.func212 k212 nb_ ?_
 dsimp only [c212, kG, kS, kH, kM, kN, kF, kL, envOf, Nat.reduceAdd]
 refine Cx.ent (Ent.trans (Ent.of t1.out) (Ent.cons (Ent.trans (Ent.of t2.out) (Ent.cons (Ent.of t3.out))))) ?_
 refine Cx.sq ?_
 refine Cx.rg ?_
 refine Sx.bx rfl rfl fun q => ?_
 refine go ?_
 refine Sx.ca rfl (putRoot R hR) ?_
 rintro v' L' ⟨rfl, rfl⟩
 refine go ?_
 refine Cx.ordc rfl kr_ ?_
 refine ge ?_
 refine Ev.cakH kr_ rfl rfl (layRootN hx slot hs) ?_
 refine ge ?_
 refine Ev.caH kr_ rfl rfl (cellsCas (b := mp) (m := m) (x.root + slot) v.was R.w (by omega) (Rt.w_lt hR)) (Pres.deps kr_) ?_
 rintro v' L' ⟨rfl, rfl⟩
 refine ge ?_
 refine go ?_
 refine Kr.one (.inr rfl) rfl ?_ ⟨rfl, rfl⟩
 refine Ent.trans (Ent.take (a := some ⟨mp, 0, none⟩)) (Ent.cons ?_)
 refine Ent.trans ?_ (Ent.of t2.back)
 refine Ent.trans (Ent.take (a := some ⟨b, 0, none⟩)) (Ent.cons ?_)
 refine Ent.trans ?_ (Ent.of t3.back)
 exact ent
end
end Go.Proofs.YtflalhdofhobmaaGreat


namespace Go.Proofs.YtflalhdofhobmaaGreat
open Go
attribute [local irreducible] Sx Cx Rx Fx Krg Ksq Kbl Klp Kr
section
variable {L F G : St}
set_option maxHeartbeats 4000000 in
theorem alFit_ {b g u mp pb : Nat} {x : Cn} {slot : Nat} {gen : Int} {n : Nat} {v : AlV} {n1 n2 n3 tp : Value} {S : SupS} {m : Mm} {cnt : Int} (t : TakeS) (r : Mm × SupS × AlS) (hcnt : cnt = (v.cnt : Nat)) (hx : x.ok) (hl : x.len ≤ m.ws.length) (hs : slot < x.sl) (hh : -1 ≤ v.hand)
  (hok : (rtOf v.was).ok) (hoff : (rtOf v.was).off + v.need ≤ x.wd) (hb : S.xs.length ≤ 1000000) (hm0 : 0 ≤ S.most) (hm2 : S.most ≤ 64)
  (hr : r = if m.at_ (x.root + slot) = v.was then (m.put (x.root + slot) (Rt.w ⟨(rtOf v.was).gen, (rtOf v.was).mrk, (rtOf v.was).cl, (rtOf v.was).off + v.need⟩), alClose x.pool S v t 0 ⟨slot, gen, (rtOf v.was).chunk, (rtOf v.was).off, n⟩) else (m.tick, S, ⟨0, v, t, gNone, false⟩)) :
  Fx Tryz.prog 156 [.pointer (some ⟨b, 0, none⟩)] (alB b .nilFunc n1 n2 n3 g u slot gen n cnt v (rtOf v.was) tp (.pointer none) :: pt (some ⟨u, 0, none⟩) (SupO mp pb x S) :: pt (some ⟨mp, 0, none⟩) (MemO m) :: pt (some ⟨pb, 0, none⟩) (SkO mp x.pool) :: pt (some ⟨g, 0, none⟩) (GrO mp x) :: G)
   (fun _ L' => L' = pt (some ⟨b, 0, none⟩) (AlO g u pb x slot gen n r.2.2) :: pt (some ⟨u, 0, none⟩) (SupO mp pb x r.2.1) :: pt (some ⟨mp, 0, none⟩) (MemO r.1) :: pt (some ⟨pb, 0, none⟩) (SkO mp x.pool) :: pt (some ⟨g, 0, none⟩) (GrO mp x) :: G) := by
 subst hcnt
 obtain ⟨b1, b2, b3, b4, b5, b6, b7⟩ := show MayC (x.w : Int) x.c x.wd x.sl x.ca x.ba from hx
 obtain ⟨w, hw⟩ : ∃ w, rtOf v.was = w := ⟨_, rfl⟩
 rw [hw] at hok hoff hr ⊢
 have hR : Rt.ok ⟨w.gen, w.mrk, w.cl, w.off + v.need⟩ := ⟨hok.g, hok.m, hok.c, by show w.off + v.need ≤ 1024; omega⟩
 refine Fx.mk Tryz.func156 k156 nb_ ?_
 dsimp only [c156, kG, kS, kH, kM, kN, kF, kL, envOf, Nat.reduceAdd]
 refine go ?_
 refine Sx.al fun q => ?_
 refine go ?_
 refine Sx.st (b := q) rfl rfl rfl rfl rfl rfl ?_
 refine Sx.re (rtL w) rfl ?_
 refine go ?_
 refine Cx.ordc rfl kr_ ?_
 refine ge ?_
 rw [w64 (n := (w.off : Int) + v.need) (by omega) (by omega), show (w.off : Int) + v.need = ((w.off + v.need : Nat) : Int) by omega]
 refine Ev.stbH (b := q) kr_ rfl rfl rfl rfl rfl (by rfl) rfl (Pres.deps kr_) ?_
 refine ge ?_
 refine go ?_
 refine Sx.ca rfl (alExchange (b := b) (g := g) (u := u) (mp := mp) (x := x) (slot := slot) (gen := gen) (n := n) (v := v) (rt := w) (m := m) ⟨w.gen, w.mrk, w.cl, w.off + v.need⟩ hR hx hl hs) ?_
 rintro v' L' ⟨rfl, rfl⟩
 by_cases he : m.at_ (x.root + slot) = v.was
 ·rw [decide_eq_true he]
  rw [if_pos he] at hr
  subst hr
  rw [show m.cas (x.root + slot) v.was (Rt.w ⟨w.gen, w.mrk, w.cl, w.off + v.need⟩) = m.put (x.root + slot) (Rt.w ⟨w.gen, w.mrk, w.cl, w.off + v.need⟩) by unfold Mm.cas; rw [if_pos he]]
  refine go ?_
  refine Cx.orde rfl kr_ ?_
  refine ge ?_
  refine Ev.cakH kr_ rfl rfl (wordChunk ⟨w.gen, w.mrk, w.cl, w.off + v.need⟩ (by have := hok.m; show w.mrk < _; omega)) ?_
  refine ge ?_
  refine Ev.caH kr_ rfl rfl (alCloseC (b := b) (g := g) (u := u) (mp := mp) (pb := pb) (x := x) (slot := slot) (gen := gen) (n := n) (v := v) (rt := w) (S := S) 0 ⟨slot, gen, w.chunk, w.off, n⟩ t rfl hh hb hm0 hm2 hw.symm) (Pres.deps kr_) ?_
  rintro v' L' rfl
  refine ge ?_
  refine Kr.none (.inl rfl) ?_ rfl
  exact ent
 ·rw [decide_eq_false he]
  rw [if_neg he] at hr
  subst hr
  rw [show m.cas (x.root + slot) v.was (Rt.w ⟨w.gen, w.mrk, w.cl, w.off + v.need⟩) = m.tick by unfold Mm.cas; rw [if_neg he]]
  refine go ?_
  refine Sx.ca rfl (machGo (b := b)) ?_
  rintro v' L' ⟨rfl, rfl⟩
  refine go ?_
  refine Kr.none (.inr rfl) ?_ rfl
  refine Ent.trans (Ent.take (a := some ⟨b, 0, none⟩)) ?_
  refine Ent.trans (AlO.closeS (v := v) (rt := w) ⟨0, v, t, gNone, false⟩ rfl rfl rfl rfl rfl rfl hw.symm) (Ent.cons ?_)
  exact ent
set_option maxHeartbeats 4000000 in
theorem alLead_ {b g u mp pb : Nat} {x : Cn} {slot : Nat} {gen : Int} {n : Nat} {v : AlV} {n1 n2 n3 tp : Value} {S : SupS} {m : Mm} {cnt : Int} (t : TakeS) (r : Mm × SupS × AlS) (k : Nat) (hcnt : cnt = (v.cnt : Nat)) (hx : x.ok) (hl : x.len ≤ m.ws.length) (hs : slot < x.sl) (hk : v.hand = k) (hkc : k < x.c)
  (hok : (rtOf v.was).ok) (hn1 : 1 ≤ v.need) (hn2 : v.need ≤ x.wd) (hb : S.xs.length ≤ 1000000) (hm0 : 0 ≤ S.most) (hm2 : S.most ≤ 64)
  (hr : r = if m.at_ (x.root + slot) = v.was then (m.put (x.root + slot) (Rt.w ⟨(rtOf v.was).gen, 2 + k, (rtOf v.was).cl, afterS x.wd v.need⟩), alClose x.pool S { v with hand := -1 } t 0 ⟨slot, gen, k, 0, n⟩) else (m.tick, S, ⟨0, v, t, gNone, false⟩)) :
  Fx Tryz.prog 215 [.pointer (some ⟨b, 0, none⟩)] (alB b .nilFunc n1 n2 n3 g u slot gen n cnt v (rtOf v.was) tp (.pointer none) :: pt (some ⟨u, 0, none⟩) (SupO mp pb x S) :: pt (some ⟨mp, 0, none⟩) (MemO m) :: pt (some ⟨pb, 0, none⟩) (SkO mp x.pool) :: pt (some ⟨g, 0, none⟩) (GrO mp x) :: G)
   (fun _ L' => L' = pt (some ⟨b, 0, none⟩) (AlO g u pb x slot gen n r.2.2) :: pt (some ⟨u, 0, none⟩) (SupO mp pb x r.2.1) :: pt (some ⟨mp, 0, none⟩) (MemO r.1) :: pt (some ⟨pb, 0, none⟩) (SkO mp x.pool) :: pt (some ⟨g, 0, none⟩) (GrO mp x) :: G) := by
 subst hcnt
 obtain ⟨b1, b2, b3, b4, b5, b6, b7⟩ := show MayC (x.w : Int) x.c x.wd x.sl x.ca x.ba from hx
 obtain ⟨cn, hand, zat, asked, ends, need, point, was, code, obj⟩ := v
 dsimp only at hk hok hn1 hn2 hr ⊢
 subst hk
 obtain ⟨w, hw⟩ : ∃ w, rtOf was = w := ⟨_, rfl⟩
 rw [hw] at hok hr ⊢
 have haf := afterS_le hn2
 obtain ⟨A, hA⟩ : ∃ A, afterS x.wd need = A := ⟨_, rfl⟩
 rw [hA] at haf hr
 have hR : Rt.ok ⟨w.gen, 2 + k, w.cl, A⟩ := ⟨hok.g, by show 2 + k ≤ 4097; omega, hok.c, by show A ≤ 1024; omega⟩
 refine Fx.mk Tryz.func215 k215 nb_ ?_
 dsimp only [c215, kG, kS, kH, kM, kN, kF, kL, envOf, Nat.reduceAdd]
 refine go ?_
 refine Sx.al fun q => ?_
 refine go ?_
 refine Sx.st (b := q) rfl rfl rfl rfl rfl rfl ?_
 refine Sx.re (rtL w) rfl ?_
 refine go ?_
 refine Cx.ordc rfl kr_ ?_
 refine ge ?_
 rw [w64 (n := (2 : Int) + k) (by omega) (by omega), show (2 : Int) + k = ((2 + k : Nat) : Int) by omega]
 refine ge ?_
 refine Ev.cakH kr_ rfl rfl (sizeAfter x.wd need (by omega) (by omega) hn1 hn2) ?_
 rw [hA]
 refine ge ?_
 refine Ev.stbH (b := q) kr_ rfl rfl rfl rfl rfl (by rfl) rfl (Pres.deps kr_) ?_
 refine ge ?_
 refine Ev.stbH (b := q) kr_ rfl rfl rfl rfl rfl (by rfl) rfl (Pres.deps kr_) ?_
 refine ge ?_
 refine go ?_
 refine Sx.ca rfl (alExchange (b := b) (g := g) (u := u) (mp := mp) (x := x) (slot := slot) (gen := gen) (n := n) (v := ⟨cn, k, zat, asked, ends, need, point, was, code, obj⟩) (rt := w) (m := m) ⟨w.gen, 2 + k, w.cl, A⟩ hR hx hl hs) ?_
 rintro v' L' ⟨rfl, rfl⟩
 dsimp only
 by_cases he : m.at_ (x.root + slot) = was
 ·rw [decide_eq_true he]
  rw [if_pos he] at hr
  subst hr
  rw [show m.cas (x.root + slot) was (Rt.w ⟨w.gen, 2 + k, w.cl, A⟩) = m.put (x.root + slot) (Rt.w ⟨w.gen, 2 + k, w.cl, A⟩) by unfold Mm.cas; rw [if_pos he]]
  refine go ?_
  refine Cx.orde rfl kr_ ?_
  refine ge ?_
  refine Ev.caH kr_ rfl rfl (alCloseC (b := b) (g := g) (u := u) (mp := mp) (pb := pb) (x := x) (slot := slot) (gen := gen) (n := n) (v := ⟨cn, -1, zat, asked, ends, need, point, was, code, obj⟩) (rt := w) (S := S) 0 ⟨slot, gen, k, 0, n⟩ t rfl (by show (-1 : Int) ≤ -1; omega) hb hm0 hm2 hw.symm) (Pres.deps kr_) ?_
  rintro v' L' rfl
  refine ge ?_
  refine Kr.none (.inl rfl) ?_ rfl
  exact ent
 ·rw [decide_eq_false he]
  rw [if_neg he] at hr
  subst hr
  rw [show m.cas (x.root + slot) was (Rt.w ⟨w.gen, 2 + k, w.cl, A⟩) = m.tick by unfold Mm.cas; rw [if_neg he]]
  refine go ?_
  refine Sx.ca rfl (machGo (b := b)) ?_
  rintro v' L' ⟨rfl, rfl⟩
  refine go ?_
  refine Kr.none (.inr rfl) ?_ rfl
  refine Ent.trans (Ent.take (a := some ⟨b, 0, none⟩)) ?_
  refine Ent.trans (AlO.closeS (v := ⟨cn, k, zat, asked, ends, need, point, was, code, obj⟩) (rt := w) ⟨0, ⟨cn, k, zat, asked, ends, need, point, was, code, obj⟩, t, gNone, false⟩ rfl rfl rfl rfl rfl rfl hw.symm) (Ent.cons ?_)
  exact ent
end
end Go.Proofs.YtflalhdofhobmaaGreat
