/-
  Parts of the proof, merged: what the statement leans on.
-/
import Derived.Test.YtflalhdofhobmaaGreatZHgD
set_option linter.unusedVariables false
set_option linter.unusedSimpArgs false

namespace Go.Proofs.YtflalhdofhobmaaGreat
open Go
attribute [local irreducible] Sx Cx Rx Fx Krg Ksq Kbl Klp Kr
structure RTag (m : Lm) (u0 u1 u2 l : Int) : Prop where
 h0 : m.x0 ≠ [] → u0 = m.t0
 h1 : m.x1 ≠ [] → u1 = m.t1
 h2 : m.x2 ≠ [] → u2 = m.t2
 hl : l = m.last ∨ (l = -1 ∧ m.last = 0)
section
variable {L F : St}
def refL (T : TypeId) (m : Lm) (a : Option Addr) (y : ((Option Addr × Nat) × (Option Addr × Nat) × (Option Addr × Nat)) × (Int × Int × Int × Int)) : St :=
  [lift (RTag m y.2.1 y.2.2.1 y.2.2.2.1 y.2.2.2.2), pt a (Blk T [.int .i64 y.2.1, .int .i64 y.2.2.1, .int .i64 y.2.2.2.1, .slice y.1.1.1 m.x0.length y.1.1.2, .slice y.1.2.1.1 m.x1.length y.1.2.1.2, .slice y.1.2.2.1 m.x2.length y.1.2.2.2, .int .i64 y.2.2.2.2]),
   pt y.1.1.1 (Row 3 1 m.x0.length y.1.1.2 (ints m.x0)), pt y.1.2.1.1 (Row 3 1 m.x1.length y.1.2.1.2 (ints m.x1)), pt y.1.2.2.1 (Row 3 1 m.x2.length y.1.2.2.2 (ints m.x2))]
def RLimboT (T : TypeId) (m : Lm) (a : Option Addr) : As := exs (refL T m a)
abbrev RLimboO := RLimboT 263
theorem RLimboO.close {T : TypeId} {a r0 r1 r2 : Option Addr} {c0 c1 c2 n0 n1 n2 : Nat} {u0 u1 u2 l : Int} {v0 v1 v2 v3 : Value} {w0 w1 w2 : List Value} {F F0 F1 G : St} (m : Lm) (hT : RTag m u0 u1 u2 l)
  [t : Take L a (Blk T [v0, v1, v2, .slice r0 n0 c0, .slice r1 n1 c1, .slice r2 n2 c2, v3]) F] [q0 : Take F r0 (Row 3 1 n0 c0 w0) F0] [q1 : Take F0 r1 (Row 3 1 n1 c1 w1) F1] [q2 : Take F1 r2 (Row 3 1 n2 c2 w2) G]
  (h0 : v0 = .int .i64 u0) (h1 : v1 = .int .i64 u1) (h2 : v2 = .int .i64 u2) (h3 : v3 = .int .i64 l) (e0 : n0 = m.x0.length) (e1 : n1 = m.x1.length) (e2 : n2 = m.x2.length)
  (g0 : w0 = ints m.x0) (g1 : w1 = ints m.x1) (g2 : w2 = ints m.x2) : Ent L (pt a (RLimboT T m) :: G) := by
 subst h0; subst h1; subst h2; subst h3; subst e0; subst e1; subst e2; subst g0; subst g1; subst g2
 refine Ent.trans (Ent.take1 (t := t) (Ent.trans (Ent.of q0.out) (Ent.cons (Ent.trans (Ent.of q1.out) (Ent.cons (Ent.of q2.out)))))) ?_
 refine Ent.trans (Ent.lift hT (Ent.refl _)) ?_
 exact Ent.close (f := refL T m a) rfl (((r0, c0), (r1, c1), (r2, c2)), (u0, u1, u2, l))
theorem RTag.nil : RTag Lm.nil 0 0 0 (-1) := ⟨fun h => absurd rfl h, fun h => absurd rfl h, fun h => absurd rfl h, .inr ⟨rfl, rfl⟩⟩
theorem refLimboNew : Fx Tryz.prog 150 [] L (fun v L' => ∃ g, v = .pointer (some ⟨g, 0, none⟩) ∧ L' = pt (some ⟨g, 0, none⟩) (RLimboO Lm.nil) :: L) := by
 refine Fx.mk Tryz.func150 k150 nb_ ?_
 dsimp only [c150, envOf, Nat.reduceAdd]
 refine go ?_
 refine Sx.bx rfl rfl fun g => ?_
 refine go ?_
 refine Kr.one (.inr rfl) rfl ?_ ⟨g, rfl, rfl⟩
 refine Ent.trans (Ent.rownil 3 1) (Ent.trans (Ent.rownil 3 1) (Ent.trans (Ent.rownil 3 1) ?_))
 exact RLimboO.close (a := some ⟨g, 0, none⟩) (r0 := none) (r1 := none) (r2 := none) Lm.nil RTag.nil rfl rfl rfl rfl rfl rfl rfl rfl rfl rfl
def leastI (o : Option Nat) : Int := match o with | none => -1 | some j => j
set_option maxHeartbeats 4000000 in
theorem refLeast {b : Nat} {m : Lm} {now : Int} {F : St} [t : Take L (some ⟨b, 0, none⟩) (RLimboO m) F] (h2 : 2 ≤ now) (h3 : now ≤ 9223372036854775807) :
  Fx Tryz.prog 254 [.pointer (some ⟨b, 0, none⟩), .int .i64 now] L (fun v L' => v = .int .i64 (leastI (leastUp now m 3)) ∧ L = L') := by
 refine Fx.kept (t := t) ?_
 refine Fx.mk Tryz.func254 k254 nb_ ?_
 dsimp only [c254, envOf, Nat.reduceAdd]
 refine Cx.openp (t := t) rfl ?_
 rintro ⟨⟨⟨r0, c0⟩, ⟨r1, c1⟩, ⟨r2, c2⟩⟩, ⟨u0, u1, u2, l⟩⟩
 simp only [refL, List.cons_append, List.nil_append]
 refine Cx.liftp fun hT => ?_
 refine go ?_
 refine Cx.lp (α := {k : Nat // k ≤ 3}) (fun k => [(0, .pointer (some ⟨b, 0, none⟩)), (1, .int .i64 now), (5, .int .i64 (leastI (leastUp now m k.1))), (6, .int .i64 k.1)]) (fun _ => _) (fun k => 3 - k.1) ⟨0, by omega⟩
  (sub.cons rfl (sub.cons rfl (sub.cons rfl (sub.cons rfl sub.nil)))) (Ent.refl _) ?_
 rintro ⟨k, hk⟩
 dsimp only
 have hst : ∀ {k : Nat} {v : Int}, leastI (leastUp now m (k + 1)) = v → some (Value.int .i64 v) = some (Value.int .i64 (leastI (leastUp now m (k + 1)))) := fun h => by rw [h]
 rcases (show k = 0 ∨ k = 1 ∨ k = 2 ∨ k = 3 by omega) with rfl | rfl | rfl | rfl
 ·refine go ?_
  refine Cx.ordc rfl kr_ ?_
  refine ge ?_
  by_cases hx : m.x0 = []
  ·have ho : m.open_ now 0 = false := by simp [Lm.open_, openM, Lm.items, hx]
   refine Ev.no 19 rfl (decide_eq_false (by rw [hx]; decide)) ?_
   refine ge ?_
   refine go ?_
   exact Klp.nm ⟨0 + 1, by omega⟩ (sub.cons rfl (sub.cons rfl (sub.cons (Eq.trans rfl (hst (congrArg leastI (leastUp_no ho)))) (sub.cons rfl sub.nil)))) (Ent.refl _) (by simp)
  ·have hu := hT.h0 hx
   have hp := List.length_pos_iff.2 hx
   refine Ev.yes 19 rfl (decide_eq_true (by omega)) ?_
   refine ge ?_
   rw [w64 (n := now - 2) (by omega) (by omega)]
   by_cases h4 : m.t0 ≤ now - 2
   ·have ho : m.open_ now 0 = true := by simp [Lm.open_, openM, Lm.items, Lm.tag]; exact ⟨hp, h4⟩
    refine Ev.yes 30 rfl (decide_eq_true (by omega)) ?_
    refine ge ?_
    refine go ?_
    exact Klp.nm ⟨0 + 1, by omega⟩ (sub.cons rfl (sub.cons rfl (sub.cons (Eq.trans rfl (hst (congrArg leastI (leastUp_first ho rfl)))) (sub.cons rfl sub.nil)))) (Ent.refl _) (by simp)
   ·have ho : m.open_ now 0 = false := by simp [Lm.open_, openM, Lm.items, Lm.tag]; intro _; omega
    refine Ev.no 30 rfl (decide_eq_false (by omega)) ?_
    refine ge ?_
    refine go ?_
    exact Klp.nm ⟨0 + 1, by omega⟩ (sub.cons rfl (sub.cons rfl (sub.cons (Eq.trans rfl (hst (congrArg leastI (leastUp_no ho)))) (sub.cons rfl sub.nil)))) (Ent.refl _) (by simp)
 ·refine go ?_
  refine Cx.ordc rfl kr_ ?_
  refine ge ?_
  by_cases hx : m.x1 = []
  ·have ho : m.open_ now 1 = false := by simp [Lm.open_, openM, Lm.items, hx]
   refine Ev.no 19 rfl (decide_eq_false (by rw [hx]; decide)) ?_
   refine ge ?_
   refine go ?_
   exact Klp.nm ⟨1 + 1, by omega⟩ (sub.cons rfl (sub.cons rfl (sub.cons (Eq.trans rfl (hst (congrArg leastI (leastUp_no ho)))) (sub.cons rfl sub.nil)))) (Ent.refl _) (by simp)
  ·have hu := hT.h1 hx
   have hp := List.length_pos_iff.2 hx
   refine Ev.yes 19 rfl (decide_eq_true (by omega)) ?_
   refine ge ?_
   rw [w64 (n := now - 2) (by omega) (by omega)]
   by_cases h4 : m.t1 ≤ now - 2
   ·have ho : m.open_ now 1 = true := by simp [Lm.open_, openM, Lm.items, Lm.tag]; exact ⟨hp, h4⟩
    refine Ev.yes 30 rfl (decide_eq_true (by omega)) ?_
    refine ge ?_
    rcases hlu : leastUp now m 1 with _ | j
    ·refine Ev.yes 33 rfl (decide_eq_true (by simp [leastI])) ?_
     refine ge ?_
     refine go ?_
     exact Klp.nm ⟨1 + 1, by omega⟩ (sub.cons rfl (sub.cons rfl (sub.cons (Eq.trans rfl (hst (congrArg leastI (leastUp_first ho hlu)))) (sub.cons rfl sub.nil)))) (Ent.refl _) (by simp)
    ·refine Ev.no 33 rfl (decide_eq_false (by simp [leastI])) ?_
     have hj := leastUp_lt hlu
     rcases (show j = 0 by omega) with rfl
     ·have hv := hT.h0 (open_ne hj.2)
      refine ge ?_
      by_cases h5 : m.t1 < m.t0
      ·refine Cx.cyes rfl (decide_eq_true (by omega)) ?_
       refine go ?_
       exact Klp.nm ⟨1 + 1, by omega⟩ (sub.cons rfl (sub.cons rfl (sub.cons (Eq.trans rfl (hst (congrArg leastI (leastUp_less ho hlu h5)))) (sub.cons rfl sub.nil)))) (Ent.refl _) (by simp)
      ·refine Cx.cno rfl (decide_eq_false (by omega)) ?_
       refine go ?_
       exact Klp.nm ⟨1 + 1, by omega⟩ (sub.cons rfl (sub.cons rfl (sub.cons (Eq.trans rfl (hst (congrArg leastI (leastUp_keep ho hlu h5)))) (sub.cons rfl sub.nil)))) (Ent.refl _) (by simp)
   ·have ho : m.open_ now 1 = false := by simp [Lm.open_, openM, Lm.items, Lm.tag]; intro _; omega
    refine Ev.no 30 rfl (decide_eq_false (by omega)) ?_
    refine ge ?_
    refine go ?_
    exact Klp.nm ⟨1 + 1, by omega⟩ (sub.cons rfl (sub.cons rfl (sub.cons (Eq.trans rfl (hst (congrArg leastI (leastUp_no ho)))) (sub.cons rfl sub.nil)))) (Ent.refl _) (by simp)
 ·refine go ?_
  refine Cx.ordc rfl kr_ ?_
  refine ge ?_
  by_cases hx : m.x2 = []
  ·have ho : m.open_ now 2 = false := by simp [Lm.open_, openM, Lm.items, hx]
   refine Ev.no 19 rfl (decide_eq_false (by rw [hx]; decide)) ?_
   refine ge ?_
   refine go ?_
   exact Klp.nm ⟨2 + 1, by omega⟩ (sub.cons rfl (sub.cons rfl (sub.cons (Eq.trans rfl (hst (congrArg leastI (leastUp_no ho)))) (sub.cons rfl sub.nil)))) (Ent.refl _) (by simp)
  ·have hu := hT.h2 hx
   have hp := List.length_pos_iff.2 hx
   refine Ev.yes 19 rfl (decide_eq_true (by omega)) ?_
   refine ge ?_
   rw [w64 (n := now - 2) (by omega) (by omega)]
   by_cases h4 : m.t2 ≤ now - 2
   ·have ho : m.open_ now 2 = true := by simp [Lm.open_, openM, Lm.items, Lm.tag]; exact ⟨hp, h4⟩
    refine Ev.yes 30 rfl (decide_eq_true (by omega)) ?_
    refine ge ?_
    rcases hlu : leastUp now m 2 with _ | j
    ·refine Ev.yes 33 rfl (decide_eq_true (by simp [leastI])) ?_
     refine ge ?_
     refine go ?_
     exact Klp.nm ⟨2 + 1, by omega⟩ (sub.cons rfl (sub.cons rfl (sub.cons (Eq.trans rfl (hst (congrArg leastI (leastUp_first ho hlu)))) (sub.cons rfl sub.nil)))) (Ent.refl _) (by simp)
    ·refine Ev.no 33 rfl (decide_eq_false (by simp [leastI])) ?_
     have hj := leastUp_lt hlu
     rcases (show j = 0 ∨ j = 1 by omega) with rfl | rfl
     ·have hv := hT.h0 (open_ne hj.2)
      refine ge ?_
      by_cases h5 : m.t2 < m.t0
      ·refine Cx.cyes rfl (decide_eq_true (by omega)) ?_
       refine go ?_
       exact Klp.nm ⟨2 + 1, by omega⟩ (sub.cons rfl (sub.cons rfl (sub.cons (Eq.trans rfl (hst (congrArg leastI (leastUp_less ho hlu h5)))) (sub.cons rfl sub.nil)))) (Ent.refl _) (by simp)
      ·refine Cx.cno rfl (decide_eq_false (by omega)) ?_
       refine go ?_
       exact Klp.nm ⟨2 + 1, by omega⟩ (sub.cons rfl (sub.cons rfl (sub.cons (Eq.trans rfl (hst (congrArg leastI (leastUp_keep ho hlu h5)))) (sub.cons rfl sub.nil)))) (Ent.refl _) (by simp)
     ·have hv := hT.h1 (open_ne hj.2)
      refine ge ?_
      by_cases h5 : m.t2 < m.t1
      ·refine Cx.cyes rfl (decide_eq_true (by omega)) ?_
       refine go ?_
       exact Klp.nm ⟨2 + 1, by omega⟩ (sub.cons rfl (sub.cons rfl (sub.cons (Eq.trans rfl (hst (congrArg leastI (leastUp_less ho hlu h5)))) (sub.cons rfl sub.nil)))) (Ent.refl _) (by simp)
      ·refine Cx.cno rfl (decide_eq_false (by omega)) ?_
       refine go ?_
       exact Klp.nm ⟨2 + 1, by omega⟩ (sub.cons rfl (sub.cons rfl (sub.cons (Eq.trans rfl (hst (congrArg leastI (leastUp_keep ho hlu h5)))) (sub.cons rfl sub.nil)))) (Ent.refl _) (by simp)
   ·have ho : m.open_ now 2 = false := by simp [Lm.open_, openM, Lm.items, Lm.tag]; intro _; omega
    refine Ev.no 30 rfl (decide_eq_false (by omega)) ?_
    refine ge ?_
    refine go ?_
    exact Klp.nm ⟨2 + 1, by omega⟩ (sub.cons rfl (sub.cons rfl (sub.cons (Eq.trans rfl (hst (congrArg leastI (leastUp_no ho)))) (sub.cons rfl sub.nil)))) (Ent.refl _) (by simp)
 ·refine go ?_
  refine Kr.one (.inr rfl) rfl ?_ ⟨rfl, rfl⟩
  exact RLimboO.close (a := some ⟨b, 0, none⟩) (r0 := r0) (r1 := r1) (r2 := r2) m hT rfl rfl rfl rfl rfl rfl rfl rfl rfl rfl
end
end Go.Proofs.YtflalhdofhobmaaGreat


namespace Go.Proofs.YtflalhdofhobmaaGreat
open Go
attribute [local irreducible] Sx Cx Rx Fx Krg Ksq Kbl Klp Kr
theorem mm_ext {a b : Mm} (hl : a.ws.length = b.ws.length) (hn : a.n = b.n) (h : ∀ i, a.at_ i = b.at_ i) : a = b := by
 obtain ⟨aw, an⟩ := a
 obtain ⟨bw, bn⟩ := b
 simp only at hl hn
 subst hn
 congr 1
 refine List.ext_getElem hl fun i h1 h2 => ?_
 have := h i
 simp only [Mm.at_, List.getD_eq_getElem?_getD, List.getElem?_eq_getElem h1, List.getElem?_eq_getElem h2, Option.getD_some] at this
 exact this
def rUp (k : Sk) (m : Mm) : Nat → Mm
 | 0 => m.lay k.head 1
 | i + 1 => if i + 1 = k.n then ((rUp k m i).lay (k.links + i) ((i + 2) % (k.n + 1))).lay (k.links + i) 0 else (rUp k m i).lay (k.links + i) ((i + 2) % (k.n + 1))
theorem rUp_len (k : Sk) (m : Mm) : ∀ i, (rUp k m i).ws.length = m.ws.length
 | 0 => Mm.len_lay
 | i + 1 => by
   unfold rUp
   split <;> simp only [Mm.len_lay] <;> exact rUp_len k m i
theorem rUp_n (k : Sk) (m : Mm) : ∀ i, (rUp k m i).n = m.n
 | 0 => rfl
 | i + 1 => by
   unfold rUp
   split <;> exact rUp_n k m i
theorem rUp_at {k : Sk} {m : Mm} {len : Nat} (hk : k.ok len) (hl : m.ws.length = len) : ∀ i, i ≤ k.n → ∀ a, (rUp k m i).at_ a = if k.head = a then 1 else if k.links ≤ a ∧ a < k.links + i then (if a - k.links + 1 = k.n then 0 else a - k.links + 2) else m.at_ a
 | 0, _, a => by
   have := hk.h
   unfold rUp
   rw [Mm.at_lay _ (by omega)]
   split
   ·rfl
   ·rw [if_neg (by omega)]
 | i + 1, hi, a => by
   have ih := rUp_at hk hl i (by omega)
   have hll := rUp_len k m i
   have h1 := hk.l; have h2 := hk.a
   unfold rUp
   split
   ·rename_i he
    rw [Mm.at_lay _ (by rw [Mm.len_lay]; omega), Mm.at_lay _ (by omega), ih]
    by_cases e : k.links + i = a
    ·rw [if_pos e, if_neg (by omega), if_pos (by omega), if_pos (by omega)]
    ·rw [if_neg e, if_neg e]
     by_cases hh : k.head = a
     ·rw [if_pos hh, if_pos hh]
     ·rw [if_neg hh, if_neg hh]
      by_cases hr : k.links ≤ a ∧ a < k.links + i
      ·rw [if_pos hr, if_pos (show k.links ≤ a ∧ a < k.links + (i + 1) by omega)]
      ·rw [if_neg hr, if_neg (show ¬ (k.links ≤ a ∧ a < k.links + (i + 1)) by omega)]
   ·rename_i he
    rw [Mm.at_lay _ (by omega), ih]
    by_cases e : k.links + i = a
    ·rw [if_pos e, if_neg (by omega), if_pos (by omega), if_neg (by omega), Nat.mod_eq_of_lt (by omega)]; omega
    ·rw [if_neg e]
     by_cases hh : k.head = a
     ·rw [if_pos hh, if_pos hh]
     ·rw [if_neg hh, if_neg hh]
      by_cases hr : k.links ≤ a ∧ a < k.links + i
      ·rw [if_pos hr, if_pos (show k.links ≤ a ∧ a < k.links + (i + 1) by omega)]
      ·rw [if_neg hr, if_neg (show ¬ (k.links ≤ a ∧ a < k.links + (i + 1)) by omega)]
theorem rUp_fill {k : Sk} {m : Mm} {len : Nat} (hk : k.ok len) (hl : m.ws.length = len) : rUp k m k.n = fillM k m := by
 have k1 := hk.n1; have k3 := hk.h; have k4 := hk.l; have k5 := hk.a
 have hu := fillUp_at (k := k) (m := m) (i := k.n) (by omega)
 have hul := fillUp_len k m k.n
 refine mm_ext ?_ ?_ fun a => ?_
 ·rw [rUp_len, fillM_len]
 ·rw [rUp_n, fillM_n]
 ·rw [rUp_at hk hl k.n (Nat.le_refl _)]
  unfold fillM
  rw [Mm.at_lay _ (by rw [Mm.len_lay]; omega), Mm.at_lay _ (by omega)]
  by_cases hh : k.head = a
  ·rw [if_pos hh, if_pos hh]
  ·rw [if_neg hh, if_neg hh]
   by_cases hr : k.links ≤ a ∧ a < k.links + k.n
   ·rw [if_pos hr]
    by_cases e : k.links + k.n - 1 = a
    ·rw [if_pos e, if_pos (by omega)]
    ·rw [if_neg e, if_neg (by omega)]
     have := hu.1 (a - k.links) (by omega)
     rw [show k.links + (a - k.links) = a by omega] at this
     exact this.symm
   ·rw [if_neg hr, if_neg (by omega)]
    exact (hu.2 a (fun j hj => by omega)).symm
section
variable {L F G : St}
def rmemL (T : TypeId) (m : Mm) (a : Option Addr) (y : Option Addr × Nat) : St :=
 [lift (m.ok ∧ m.ws.length ≤ 8388608), pt a (Blk T [.slice y.1 m.ws.length y.2, .int .i64 (IntKind.i64.wrap (m.n : Int))]), pt y.1 (Row 56 1 m.ws.length y.2 (us m.ws))]
def RMemT (T : TypeId) (m : Mm) (a : Option Addr) : As := exs (rmemL T m a)
abbrev RMemO := RMemT 110
theorem RMemO.close {T : TypeId} {a r : Option Addr} {c n : Nat} {v : Value} {w : List Value} {F G : St} (m : Mm) (hm : m.ok ∧ m.ws.length ≤ 8388608) [t : Take L a (Blk T [.slice r n c, v]) F] [u : Take F r (Row 56 1 n c w) G]
  (hv : v = .int .i64 (IntKind.i64.wrap (m.n : Int))) (hn : n = m.ws.length) (hw : w = us m.ws) : Ent L (pt a (RMemT T m) :: G) := by
 subst hv; subst hn; subst hw
 refine Ent.trans (Ent.take1 (t := t) (Ent.of u.out)) ?_
 refine Ent.trans (Ent.lift hm (Ent.refl _)) ?_
 exact Ent.close (f := rmemL T m a) rfl (r, c)
theorem rmemNew (n : Nat) (h2 : n ≤ 8388608) : Fx Tryz.prog 142 [.int .i64 n] L (fun v L' => ∃ g, v = .pointer (some ⟨g, 0, none⟩) ∧ L' = pt (some ⟨g, 0, none⟩) (RMemO ⟨List.replicate n 0, 0⟩) :: L) := by
 refine Fx.mk Tryz.func142 k142 nb_ ?_
 dsimp only [c142, envOf, Nat.reduceAdd]
 refine go ?_
 refine Sx.mk rfl rfl (by omega) (by omega) (by omega) (by omega) fun g => ?_
 refine go ?_
 refine Sx.bx rfl rfl fun q => ?_
 refine go ?_
 refine Kr.one (.inr rfl) rfl ?_ ⟨q, rfl, rfl⟩
 have hu : us (List.replicate n 0) = List.replicate n (.int .u64 0) := by simp [us, wd]
 refine RMemO.close (a := some ⟨q, 0, none⟩) (r := some ⟨g, 0, none⟩) ⟨List.replicate n 0, 0⟩ ⟨fun w hw => ?_, ?_⟩ rfl (by simp) ?_
 ·rw [List.eq_of_mem_replicate hw]; omega
 ·simpa using h2
 ·rw [hu, made_one]; simp
theorem refAt {x : Cn} (hx : x.ok) (fr : Int) (many i : Nat) (hi : i < many) (hf : 0 ≤ fr ∧ fr + i ≤ 1000000000) (hm : many ≤ 1000000000) : Fx Tryz.prog 172 [x.v, .int .i64 fr, .int .i64 many, .int .i64 i] L (fun v L' => v = .int .i64 (fr + i) ∧ L = L') := by
 refine Fx.mk Tryz.func172 k172 nb_ ?_
 dsimp only [c172, envOf, Nat.reduceAdd]
 refine Cx.sq ?_
 refine Cx.rg ?_
 refine Sx.bx rfl rfl fun g => ?_
 refine go ?_
 refine Sx.ca rfl (refMay_ (x.w : Int) x.c x.wd x.sl x.ca x.ba) ?_
 rintro v L' ⟨rfl, rfl⟩
 rw [decide_eq_true (show MayC (x.w : Int) x.c x.wd x.sl x.ca x.ba from hx)]
 refine go ?_
 iterate 2 (try (refine Sx.gyes rfl (decide_eq_false (by omega)) ?_; refine go ?_))
 refine Cx.cno rfl (decide_eq_false (by omega)) ?_
 refine go ?_
 rw [w64 (n := fr + i) (by omega) (by omega)]
 exact Kr.one (.inr rfl) rfl Ent.drop ⟨rfl, rfl⟩
end
end Go.Proofs.YtflalhdofhobmaaGreat


namespace Go.Proofs.YtflalhdofhobmaaGreat
open Go
theorem lay1 {cs : List Value} {off : Nat} {u : Value} (h : off < cs.length) : lay cs off [u] = cs.set off u := by
 have := lay_cons cs off u [] (by simp; omega)
 rw [← this, lay_nil]
section
variable {P : Program} {N : Nat} {L F : St} {Kf : En → St → Prop} {e : En} {r : List It} {ms : List (Nat × (St → Prop))} {i ds sz : Nat} {rs : List Nat} {d : Option Nat} {g : Option (Nat × Bool)}
theorem Ev.strH {x v : X} {b off E n cap : Nat} {xs ys : List Value} {u : Value} [t : Take L (some ⟨b, 0, none⟩) (Row E sz n cap xs) F] (hd : lastly i r = true) (hg : gon (e.only rs) g = true)
  (hx : x.get (e.only rs) = some (.pointer (some ⟨b, off, none⟩))) (hv : v.get (e.only rs) = some u) (hu : cellsOf u = some [u]) (h1 : u.oneCell' = true) (hl : off < xs.length) (hy : xs.set off u = ys)
  (hp : Pres ds (fun v L' => v = undef ∧ L' = pt (some ⟨b, 0, none⟩) (Row E sz n cap ys) :: F) ms)
  (k : Ev P N Kf r ms (e.put d undef) (pt (some ⟨b, 0, none⟩) (Row E sz n cap ys) :: F)) : Ev P N Kf (⟨i, ds, rs, ⟨d, g, .st x v 1⟩⟩ :: r) ms e L :=
 .genH hd hp hg (fun e' hs K kk => Sx.str (t := t) (X.get_sub hx hs) (X.get_sub hv hs) hu rfl (by simp [ones, h1]) hl (by rw [lay1 hl, hy]) (Sx.nil (kk _ _ ⟨rfl, rfl⟩)))
  (fun v L' ⟨e1, e2⟩ => by subst e1; subst e2; exact k)
theorem Sx.str1 {l : List G} {K : En → St → Prop} {x v : X} {b off E n cap : Nat} {xs ys : List Value} {u : Value} [t : Take L (some ⟨b, 0, none⟩) (Row E sz n cap xs) F] (hx : x.get e = some (.pointer (some ⟨b, off, none⟩))) (hv : v.get e = some u)
  (hu : cellsOf u = some [u]) (h1 : u.oneCell' = true) (hl : off < xs.length) (hy : xs.set off u = ys) (k : Sx P N l (e.put d undef) K (pt (some ⟨b, 0, none⟩) (Row E sz n cap ys) :: F)) :
  Sx P N (⟨d, none, .st x v 1⟩ :: l) e K L := Sx.str hx hv hu rfl (by simp [ones, h1]) hl (by rw [lay1 hl, hy]) k
end
end Go.Proofs.YtflalhdofhobmaaGreat


namespace Go.Proofs.YtflalhdofhobmaaGreat
open Go
attribute [local irreducible] Sx Cx Rx Fx Krg Ksq Kbl Klp Kr
theorem natTmod (a b : Nat) : ((a : Int)).tmod (b : Int) = ((a % b : Nat) : Int) := by
 rw [Int.tmod_eq_emod_of_nonneg (Int.natCast_nonneg a)]
 exact (Int.natCast_emod a b).symm
section
variable {L F G : St}
abbrev RSkO (mp : Nat) (k : Sk) : Option Addr → As := Blk 210 (skV mp k)
theorem refPutHead (i : Int) (t : Nat) (h1 : -1 ≤ i) (h2 : i < 4294967295) (ht : t < 4294967296) : Fx Tryz.prog 204 [hdV i t] L (fun v L' => v = .tuple #[wd (t * 4294967296 + (i + 1).toNat), .bool true] ∧ L = L') := by
 refine Fx.mk Tryz.func204 k204 nb_ ?_
 dsimp only [c204, envOf, Nat.reduceAdd]
 refine Cx.sq ?_
 refine Cx.rg ?_
 refine Sx.bx rfl rfl fun g => ?_
 refine go ?_
 iterate 3 (try (refine Sx.gyes rfl (decide_eq_false (by omega)) ?_; refine go ?_))
 refine Cx.cno rfl (decide_eq_false (by omega)) ?_
 refine go ?_
 rw [wrap64 (n := t) (by omega), w64 (n := i + 1) (by omega) (by omega), show i + 1 = (((i + 1).toNat : Nat) : Int) by omega, wrap64 (n := (i + 1).toNat) (by omega), show (t : Int) * 4294967296 = ((t * 4294967296 : Nat) : Int) by omega, wrap64 (n := t * 4294967296) (by omega),
  show ((t * 4294967296 : Nat) : Int) + ((i + 1).toNat : Nat) = ((t * 4294967296 + (i + 1).toNat : Nat) : Int) by omega, wrap64 (n := t * 4294967296 + (i + 1).toNat) (by omega)]
 exact Kr.two (.inr rfl) rfl rfl Ent.drop ⟨rfl, rfl⟩
theorem Cn.ok.b {x : Cn} (hx : x.ok) : x.w ≤ 64 ∧ x.c ≤ 4096 ∧ x.wd ≤ 1024 ∧ x.sl ≤ 4096 ∧ x.ca ≤ 64 ∧ x.ba ≤ 8 ∧ 1 ≤ x.w ∧ 1 ≤ x.c ∧ 8 ≤ x.wd ∧ 1 ≤ x.sl ∧ 1 ≤ x.ba := by
 obtain ⟨h1, h2, h3, h4, h5, h6, h7⟩ := hx
 omega
theorem refLen {x : Cn} (hx : x.ok) : Fx Tryz.prog 143 [x.v] L (fun v L' => v = .int .i64 (x.len : Int) ∧ L = L') := by
 obtain ⟨b1, b2, b3, b4, b5, b6, b7⟩ := hx.b
 have hmul : x.c * x.wd ≤ 4194304 := by have := Nat.mul_le_mul b2 b3; omega
 refine Fx.mk Tryz.func143 k143 nb_ ?_
 dsimp only [c143, envOf, Nat.reduceAdd]
 refine Cx.sq ?_
 refine Cx.rg ?_
 refine Sx.bx rfl rfl fun g => ?_
 refine go ?_
 refine Sx.ca rfl (refMay_ (x.w : Int) x.c x.wd x.sl x.ca x.ba) ?_
 rintro v L' ⟨rfl, rfl⟩
 rw [decide_eq_true (show MayC (x.w : Int) x.c x.wd x.sl x.ca x.ba from hx)]
 refine go ?_
 rw [show (x.c : Int) * x.wd = ((x.c * x.wd : Nat) : Int) by push_cast; rfl, w64 (n := (3 : Int) + x.w) (by omega) (by omega), w64 (n := (2 : Int) * x.sl) (by omega) (by omega), w64 (n := (3 : Int) + x.w + 2 * x.sl) (by omega) (by omega), w64 (n := (3 : Int) + x.w + 2 * x.sl + x.c) (by omega) (by omega),
  w64 (n := ((x.c * x.wd : Nat) : Int)) (by omega) (by omega), w64 (n := (3 : Int) + x.w + 2 * x.sl + x.c + ((x.c * x.wd : Nat) : Int)) (by omega) (by omega)]
 refine Kr.one (.inr rfl) rfl Ent.drop ⟨congrArg (Value.int .i64) ?_, rfl⟩
 unfold Cn.len; omega
theorem refLink {x : Cn} (hx : x.ok) (i : Nat) (hi : i < x.c) : Fx Tryz.prog 112 [x.v, .int .i64 i] L (fun v L' => v = .int .i64 ((x.link + i : Nat) : Int) ∧ L = L') := by
 obtain ⟨b1, b2, b3, b4, b5, b6, b7⟩ := hx.b
 refine Fx.mk Tryz.func112 k112 nb_ ?_
 dsimp only [c112, envOf, Nat.reduceAdd]
 refine Cx.sq ?_
 refine Cx.rg ?_
 refine Sx.bx rfl rfl fun g => ?_
 refine go ?_
 rw [w64 (n := (3 : Int) + x.w) (by omega) (by omega), w64 (n := (2 : Int) * x.sl) (by omega) (by omega), w64 (n := (3 : Int) + x.w + 2 * x.sl) (by omega) (by omega)]
 refine Sx.ca rfl (refAt hx ((3 : Int) + x.w + 2 * x.sl) x.c i hi (by omega) (by omega)) ?_
 rintro v L' ⟨rfl, rfl⟩
 refine go ?_
 refine Kr.one (.inr rfl) rfl Ent.drop ⟨congrArg (Value.int .i64) ?_, rfl⟩
 unfold Cn.link; omega
theorem refSlot {x : Cn} (hx : x.ok) (i : Nat) (hi : i < x.sl) : Fx Tryz.prog 144 [x.v, .int .i64 i] L (fun v L' => v = .int .i64 ((x.slot + i : Nat) : Int) ∧ L = L') := by
 obtain ⟨b1, b2, b3, b4, b5, b6, b7⟩ := hx.b
 refine Fx.mk Tryz.func144 k144 nb_ ?_
 dsimp only [c144, envOf, Nat.reduceAdd]
 refine Cx.sq ?_
 refine Cx.rg ?_
 refine Sx.bx rfl rfl fun g => ?_
 refine go ?_
 rw [w64 (n := (3 : Int) + x.w) (by omega) (by omega), w64 (n := (3 : Int) + x.w + x.sl) (by omega) (by omega)]
 refine Sx.ca rfl (refAt hx ((3 : Int) + x.w + x.sl) x.sl i hi (by omega) (by omega)) ?_
 rintro v L' ⟨rfl, rfl⟩
 refine go ?_
 refine Kr.one (.inr rfl) rfl Ent.drop ⟨congrArg (Value.int .i64) ?_, rfl⟩
 unfold Cn.slot; omega
theorem refPin {x : Cn} (hx : x.ok) (i : Nat) (hi : i < x.w) : Fx Tryz.prog 145 [x.v, .int .i64 i] L (fun v L' => v = .int .i64 ((3 + i : Nat) : Int) ∧ L = L') := by
 obtain ⟨b1, b2, b3, b4, b5, b6, b7⟩ := hx.b
 refine Fx.mk Tryz.func145 k145 nb_ ?_
 dsimp only [c145, envOf, Nat.reduceAdd]
 refine Cx.sq ?_
 refine Cx.rg ?_
 refine Sx.bx rfl rfl fun g => ?_
 refine go ?_
 refine Sx.ca rfl (refAt hx (3 : Int) x.w i hi (by omega) (by omega)) ?_
 rintro v L' ⟨rfl, rfl⟩
 refine go ?_
 refine Kr.one (.inr rfl) rfl Ent.drop ⟨congrArg (Value.int .i64) ?_, rfl⟩
 omega
set_option maxHeartbeats 2000000 in
theorem refFill {sb mp : Nat} {k : Sk} {m : Mm} (hk : k.ok m.ws.length) [t : Take L (some ⟨mp, 0, none⟩) (RMemO m) F] [s : Take F (some ⟨sb, 0, none⟩) (RSkO mp k) G] :
  Fx Tryz.prog 146 [.pointer (some ⟨sb, 0, none⟩)] L (fun v L' => L' = pt (some ⟨mp, 0, none⟩) (RMemO (fillM k m)) :: F) := by
 have hfill := rUp_fill hk rfl
 have hk0 := hk
 obtain ⟨k1, k2, k3, k4, k5, k6⟩ := hk
 refine Fx.mk Tryz.func146 k146 nb_ ?_
 dsimp only [c146, envOf, Nat.reduceAdd]
 refine Cx.ent (Ent.trans (Ent.of t.out) (Ent.cons (Ent.of s.out))) ?_
 refine Cx.openp (a := some ⟨mp, 0, none⟩) rfl ?_
 rintro ⟨r, c⟩
 simp only [rmemL, List.cons_append, List.nil_append]
 refine Cx.liftp fun hm => ?_
 refine Cx.rowkey (a := r) fun hx0 hn0 _ hk1 => ?_
 obtain ⟨rg, rfl⟩ : ∃ g, r = some ⟨g, 0, none⟩ := by
  rcases hk1 with h | h
  ·omega
  ·exact h
 refine go ?_
 refine Sx.ca rfl (refPutHead 0 0 (by omega) (by omega) (by omega)) ?_
 rintro v L' ⟨rfl, rfl⟩
 refine go ?_
 refine Cx.ordc rfl kr_ ?_
 refine ge ?_
 refine Ev.strH (b := rg) kr_ rfl rfl rfl rfl rfl (by rw [length_us]; simp; omega) rfl (Pres.deps kr_) ?_
 refine ge ?_
 refine go ?_
 have hset : (us m.ws).set (0 + (k.head : Int).toNat * 1) (wd (0 * 4294967296 + (0 + 1 : Int).toNat)) = us (rUp k m 0).ws := by
  rw [show 0 + (k.head : Int).toNat * 1 = k.head by simp]
  exact us_set m.ws k.head 1
 refine Cx.lp (α := {i : Nat // i ≤ k.n}) (fun i => [(0, .pointer (some ⟨sb, 0, none⟩)), (4, .int .i64 i.1)])
  (fun i => pt (some ⟨rg, 0, none⟩) (Row 56 1 m.ws.length c (us (rUp k m i.1).ws)) :: pt (some ⟨mp, 0, none⟩) (Blk 110 [.slice (some ⟨rg, 0, none⟩) m.ws.length c, .int .i64 (IntKind.i64.wrap (m.n : Int))]) :: pt (some ⟨sb, 0, none⟩) (RSkO mp k) :: G)
  (fun i => k.n - i.1) ⟨0, by omega⟩ (sub.cons rfl (sub.cons rfl sub.nil)) (by rw [← hset]; exact Ent.refl _) ?_
 rintro ⟨i, hi⟩
 dsimp only
 have hil := rUp_len k m i
 have hul : (us (rUp k m i).ws).length = m.ws.length := by rw [length_us, hil]
 refine go ?_
 refine Cx.ifp rfl (fun h => ?_) (fun h => ?_)
 ·refine go ?_
  refine Cx.ordc rfl kr_ ?_
  refine ge ?_
  rw [w64 (n := (k.links : Int) + i) (by omega) (by omega), w64 (n := (i : Int) + 2) (by omega) (by omega), w64 (n := (k.n : Int) + 1) (by omega) (by omega)]
  refine Ev.pvH kr_ rfl rfl (by omega) ?_
  have hmlt : (i + 2) % (k.n + 1) < k.n + 1 := Nat.mod_lt _ (by omega)
  rw [show (i : Int) + 2 = ((i + 2 : Nat) : Int) by omega, show (k.n : Int) + 1 = ((k.n + 1 : Nat) : Int) by omega, natTmod]
  refine ge ?_
  rw [wrap64 (n := (i + 2) % (k.n + 1)) (by omega)]
  refine Ev.strH (b := rg) kr_ rfl rfl rfl rfl rfl (by rw [hul]; simp; omega) rfl (Pres.deps kr_) ?_
  refine ge ?_
  rw [show (us (rUp k m i).ws).set (0 + ((k.links : Int) + i).toNat * 1) (.int .u64 (((i + 2) % (k.n + 1) : Nat) : Int)) = us ((rUp k m i).lay (k.links + i) ((i + 2) % (k.n + 1))).ws by
   rw [show 0 + ((k.links : Int) + i).toNat * 1 = k.links + i by omega]
   exact us_set _ _ _]
  have hul2 : (us ((rUp k m i).lay (k.links + i) ((i + 2) % (k.n + 1))).ws).length = m.ws.length := by rw [length_us, Mm.len_lay, hil]
  refine go ?_
  rw [w64 (n := (k.n : Int) - 1) (by omega) (by omega)]
  refine Cx.ifp rfl (fun h2 => ?_) (fun h2 => ?_)
  ·have e : rUp k m (i + 1) = ((rUp k m i).lay (k.links + i) ((i + 2) % (k.n + 1))).lay (k.links + i) 0 := by rw [rUp.eq_def]; simp only; rw [if_pos (by omega)]
   refine go ?_
   refine Cx.orde rfl kr_ ?_
   refine ge ?_
   rw [w64 (n := (k.links : Int) + i) (by omega) (by omega)]
   refine ge ?_
   refine Ev.strH (b := rg) kr_ rfl rfl rfl rfl rfl (by rw [hul2]; simp; omega) rfl (Pres.deps kr_) ?_
   refine ge ?_
   rw [show (us ((rUp k m i).lay (k.links + i) ((i + 2) % (k.n + 1))).ws).set (0 + ((k.links : Int) + i).toNat * 1) (.int .u64 0) = us (rUp k m (i + 1)).ws by
    rw [show 0 + ((k.links : Int) + i).toNat * 1 = k.links + i by omega, e]
    exact us_set _ _ 0]
   refine go ?_
   rw [w64 (n := (i : Int) + 1) (by omega) (by omega)]
   exact Klp.nm ⟨i + 1, by omega⟩ (sub.cons rfl (sub.cons rfl sub.nil)) (Ent.refl _) (by dsimp only; omega)
  ·have e : rUp k m (i + 1) = (rUp k m i).lay (k.links + i) ((i + 2) % (k.n + 1)) := by rw [rUp.eq_def]; simp only; rw [if_neg (by omega)]
   rw [← e]
   refine go ?_
   rw [w64 (n := (i : Int) + 1) (by omega) (by omega)]
   exact Klp.nm ⟨i + 1, by omega⟩ (sub.cons rfl (sub.cons rfl sub.nil)) (Ent.refl _) (by dsimp only; omega)
 ·have hin : i = k.n := by omega
  subst hin
  refine go ?_
  refine Kr.none (.inl rfl) ?_ rfl
  have hl2 : (fillM k m).ws.length = m.ws.length := fillM_len k m
  refine Ent.trans ?_ (Ent.cons (Ent.of s.back))
  refine RMemO.close (a := some ⟨mp, 0, none⟩) (r := some ⟨rg, 0, none⟩) (fillM k m) ⟨fillM_ok hm.1 k2, by rw [hl2]; exact hm.2⟩ ?_ hl2.symm ?_
  ·rw [fillM_n]
  ·rw [hfill]
end
end Go.Proofs.YtflalhdofhobmaaGreat


namespace Go.Proofs.YtflalhdofhobmaaGreat
open Go
attribute [local irreducible] Sx Cx Rx Fx Krg Ksq Kbl Klp Kr
section
variable {L F G : St}
abbrev RWO (x : Cn) (rm rp rs re : Nat) : Option Addr → As := Blk 115 (x.l ++ [.pointer (some ⟨rm, 0, none⟩), .pointer (some ⟨rp, 0, none⟩), .pointer (some ⟨rs, 0, none⟩), .pointer (some ⟨re, 0, none⟩)])
abbrev REpO (x : Cn) (rm : Nat) : Option Addr → As := Blk 218 [.pointer (some ⟨rm, 0, none⟩), .int .i64 2, .int .i64 3, .int .i64 x.w]
def zeroM (x : Cn) : Mm := ⟨List.replicate x.len 0, 0⟩
theorem zeroM_len (x : Cn) : (zeroM x).ws.length = x.len := by simp [zeroM]
set_option maxHeartbeats 2000000 in
theorem refWNew {x : Cn} (hx : x.ok) : Fx Tryz.prog 74 [x.v] L (fun v L' => ∃ w rm rp rs re, v = .pointer (some ⟨w, 0, none⟩) ∧
  L' = pt (some ⟨w, 0, none⟩) (RWO x rm rp rs re) :: pt (some ⟨rm, 0, none⟩) (RMemO (fillM x.spare (fillM x.pool (zeroM x)))) :: pt (some ⟨rp, 0, none⟩) (RSkO rm x.pool) :: pt (some ⟨rs, 0, none⟩) (RSkO rm x.spare) :: pt (some ⟨re, 0, none⟩) (REpO x rm) :: L) := by
 obtain ⟨b1, b2, b3, b4, b5, b6, b7⟩ := hx.b
 have hlen := hx.len_le
 refine Fx.mk Tryz.func74 k74 nb_ ?_
 dsimp only [c74, envOf, Nat.reduceAdd]
 refine Cx.sq ?_
 refine Cx.rg ?_
 refine Sx.bx rfl rfl fun g => ?_
 refine go ?_
 refine Sx.ca rfl (refLen hx) ?_
 rintro v L' ⟨rfl, rfl⟩
 refine go ?_
 refine Sx.ca rfl (rmemNew x.len hlen) ?_
 rintro v L' ⟨rm, rfl, rfl⟩
 refine go ?_
 refine Sx.bx rfl rfl fun w => ?_
 refine go ?_
 refine Cx.ordc rfl kr_ ?_
 refine ge ?_
 refine Ev.cakH kr_ rfl rfl (refLink hx 0 (by omega)) ?_
 refine ge ?_
 refine Ev.bxH kr_ rfl rfl rfl (Pres.deps kr_) fun rp => ?_
 refine ge ?_
 refine Ev.stbH (b := w) kr_ rfl rfl rfl rfl rfl (by rfl) rfl (Pres.deps kr_) ?_
 refine ge ?_
 refine go ?_
 refine Cx.ordc rfl kr_ ?_
 refine ge ?_
 refine Ev.cakH kr_ rfl rfl (refSlot hx 0 (by omega)) ?_
 refine ge ?_
 refine Ev.bxH kr_ rfl rfl rfl (Pres.deps kr_) fun rs => ?_
 refine ge ?_
 refine Ev.stbH (b := w) kr_ rfl rfl rfl rfl rfl (by rfl) rfl (Pres.deps kr_) ?_
 refine ge ?_
 refine go ?_
 refine Cx.ordc rfl kr_ ?_
 refine ge ?_
 refine Ev.cakH kr_ rfl rfl (refPin hx 0 (by omega)) ?_
 refine ge ?_
 refine Ev.bxH kr_ rfl rfl rfl (Pres.deps kr_) fun re => ?_
 refine ge ?_
 refine Ev.stbH (b := w) kr_ rfl rfl rfl rfl rfl (by rfl) rfl (Pres.deps kr_) ?_
 refine ge ?_
 refine go ?_
 refine Sx.ca rfl (refFill (sb := rp) (mp := rm) (k := x.pool) (m := zeroM x) (hx.pool (by rw [zeroM_len]; exact Nat.le_refl _) (by rw [zeroM_len]; exact hlen))) ?_
 rintro v L' rfl
 refine go ?_
 refine Sx.ca rfl (refFill (sb := rs) (mp := rm) (k := x.spare) (m := fillM x.pool (zeroM x)) (hx.spare (by rw [fillM_len, zeroM_len]; exact Nat.le_refl _) (by rw [fillM_len, zeroM_len]; exact hlen))) ?_
 rintro v L' rfl
 refine go ?_
 refine Kr.one (.inr rfl) rfl ?_ ⟨w, rm, rp, rs, re, rfl, rfl⟩
 exact ent
theorem refSupply {w rm rp rs re : Nat} {x : Cn} [t : Take L (some ⟨w, 0, none⟩) (RWO x rm rp rs re) F] : Fx Tryz.prog 76 [.pointer (some ⟨w, 0, none⟩)] L (fun v L' => ∃ s st lm, v = .pointer (some ⟨s, 0, none⟩) ∧
  L' = pt (some ⟨s, 0, none⟩) (Blk 183 [.pointer (some ⟨w, 0, none⟩), .pointer (some ⟨st, 0, none⟩), .pointer (some ⟨lm, 0, none⟩)]) :: pt (some ⟨lm, 0, none⟩) (RLimboO Lm.nil) :: pt (some ⟨st, 0, none⟩) (RefO (min (max (x.ca : Int) 0) 64) []) :: L) := by
 refine Fx.mk Tryz.func76 k76 nb_ ?_
 dsimp only [c76, envOf, Nat.reduceAdd]
 refine go ?_
 refine Sx.ca rfl (refNew (x.ca : Int)) ?_
 rintro v L' ⟨st, rfl, rfl⟩
 refine go ?_
 refine Sx.ca rfl refLimboNew ?_
 rintro v L' ⟨lm, rfl, rfl⟩
 refine go ?_
 refine Sx.bx rfl rfl fun s => ?_
 refine go ?_
 exact Kr.one (.inr rfl) rfl (Ent.refl _) ⟨s, st, lm, rfl, rfl⟩
end
end Go.Proofs.YtflalhdofhobmaaGreat


namespace Go.Proofs.YtflalhdofhobmaaGreat
def pinI (w : Nat) : Int := ((w / 2 : Nat) : Int)
def behind (e w : Nat) : Prop := w % 2 = 1 ∧ pinI w ≠ cutE e
instance (e w : Nat) : Decidable (behind e w) := by unfold behind; infer_instance
structure AdvS where
 was : Nat
 worker : Nat
 won : Bool
 at_ : Nat
 done : Bool
def AdvS.init : AdvS := ⟨0, 0, false, 0, false⟩
end Go.Proofs.YtflalhdofhobmaaGreat


namespace Go.Proofs.YtflalhdofhobmaaGreat
open Go
attribute [local irreducible] Sx Cx Rx Fx Krg Ksq Kbl Klp Kr
section
variable {L F G : St}
theorem row_some {n cap : Nat} {r : Option Addr} {i : Nat} (hi : i < n) (h : (r = none ∧ n = 0 ∧ cap = 0) ∨ ∃ g, r = some ⟨g, 0, none⟩) : ∃ g, r = some ⟨g, 0, none⟩ := by
 rcases h with h | h
 ·omega
 ·exact h
theorem rmemKey {rm : Nat} {m : Mm} {F : St} [t : Take L (some ⟨rm, 0, none⟩) (RMemO m) F] : ∀ h, holds L h → m.ok ∧ m.ws.length ≤ 8388608 := by
 intro h hh
 obtain ⟨y, hy⟩ := holds_ex.1 (t.out h hh)
 exact (holds_lift.1 hy).1
theorem refLoad {rm : Nat} {m : Mm} (i : Nat) (hi : i < m.ws.length) [t : Take L (some ⟨rm, 0, none⟩) (RMemO m) F] :
  Fx Tryz.prog 98 [.pointer (some ⟨rm, 0, none⟩), .int .i64 i] L (fun v L' => v = wd (m.at_ i) ∧ L' = pt (some ⟨rm, 0, none⟩) (RMemO m.tick) :: F) := by
 refine Fx.mk Tryz.func98 k98 nb_ ?_
 dsimp only [c98, envOf, Nat.reduceAdd]
 refine Cx.openp (t := t) rfl ?_
 rintro ⟨r, c⟩
 simp only [rmemL, List.cons_append, List.nil_append]
 refine Cx.liftp fun hm => ?_
 refine Cx.rowkey (a := r) fun hx0 hn0 _ hk1 => ?_
 obtain ⟨rg, rfl⟩ := row_some hi (hk1.imp (fun h => ⟨h.1, h.2.1, h.2.2⟩) id)
 refine gg ?_
 refine Sx.ldr (b := rg) rfl (v := wd (m.at_ i)) (by rw [show 0 + (i : Int).toNat * 1 = i by omega]; exact us_get (Mm.get hi)) ?_
 refine go ?_
 refine Kr.one (.inr rfl) rfl ?_ ⟨rfl, rfl⟩
 exact RMemO.close (a := some ⟨rm, 0, none⟩) (r := some ⟨rg, 0, none⟩) m.tick hm (by rw [wrap_succ]; rfl) rfl rfl
theorem refStore {rm : Nat} {m : Mm} (i v : Nat) (hi : i < m.ws.length) (hv : v < 18446744073709551616) [t : Take L (some ⟨rm, 0, none⟩) (RMemO m) F] :
  Fx Tryz.prog 110 [.pointer (some ⟨rm, 0, none⟩), .int .i64 i, wd v] L (fun u L' => u = .tuple #[] ∧ L' = pt (some ⟨rm, 0, none⟩) (RMemO (m.put i v)) :: F) := by
 refine Fx.mk Tryz.func110 k110 nb_ ?_
 dsimp only [c110, envOf, Nat.reduceAdd]
 refine Cx.openp (t := t) rfl ?_
 rintro ⟨r, c⟩
 simp only [rmemL, List.cons_append, List.nil_append]
 refine Cx.liftp fun hm => ?_
 refine Cx.rowkey (a := r) fun hx0 hn0 _ hk1 => ?_
 obtain ⟨rg, rfl⟩ := row_some hi (hk1.imp (fun h => ⟨h.1, h.2.1, h.2.2⟩) id)
 refine gg ?_
 refine Sx.str1 (b := rg) rfl rfl rfl rfl (by rw [length_us]; simp; omega) rfl ?_
 refine go ?_
 refine Kr.none (.inl rfl) ?_ ⟨rfl, rfl⟩
 refine RMemO.close (a := some ⟨rm, 0, none⟩) (r := some ⟨rg, 0, none⟩) (m.put i v) ⟨Mm.ok_put hm.1 hv, by rw [Mm.len_put]; exact hm.2⟩ (by rw [wrap_succ]; rfl) Mm.len_put.symm ?_
 rw [show 0 + (i : Int).toNat * 1 = i by omega]
 exact us_set _ _ _
theorem refCas {rm : Nat} {m : Mm} (i o v : Nat) (hi : i < m.ws.length) (ho : o < 18446744073709551616) (hv : v < 18446744073709551616) [t : Take L (some ⟨rm, 0, none⟩) (RMemO m) F] :
  Fx Tryz.prog 102 [.pointer (some ⟨rm, 0, none⟩), .int .i64 i, wd o, wd v] L (fun u L' => u = .bool (decide (m.at_ i = o)) ∧ L' = pt (some ⟨rm, 0, none⟩) (RMemO (m.cas i o v)) :: F) := by
 refine Fx.mk Tryz.func102 k102 nb_ ?_
 dsimp only [c102, envOf, Nat.reduceAdd]
 refine Cx.openp (t := t) rfl ?_
 rintro ⟨r, c⟩
 simp only [rmemL, List.cons_append, List.nil_append]
 refine Cx.liftp fun hm => ?_
 refine Cx.rowkey (a := r) fun hx0 hn0 _ hk1 => ?_
 obtain ⟨rg, rfl⟩ := row_some hi (hk1.imp (fun h => ⟨h.1, h.2.1, h.2.2⟩) id)
 refine gg ?_
 refine Sx.ldr (b := rg) rfl (v := wd (m.at_ i)) (by rw [show 0 + (i : Int).toNat * 1 = i by omega]; exact us_get (Mm.get hi)) ?_
 refine go ?_
 refine Cx.ifn rfl (fun h => ?_) (fun h => ?_)
 ·have hne : m.at_ i ≠ o := fun e => h (by rw [e])
  refine go ?_
  refine Kr.one (.inr rfl) rfl ?_ ⟨by rw [decide_eq_false hne], rfl⟩
  rw [show m.cas i o v = m.tick by unfold Mm.cas; rw [if_neg hne]]
  exact RMemO.close (a := some ⟨rm, 0, none⟩) (r := some ⟨rg, 0, none⟩) m.tick hm (by rw [wrap_succ]; rfl) rfl rfl
 ·have he : m.at_ i = o := by omega
  refine gg ?_
  refine Sx.str1 (b := rg) rfl rfl rfl rfl (by rw [length_us]; simp; omega) rfl ?_
  refine go ?_
  refine Kr.one (.inr rfl) rfl ?_ ⟨by rw [decide_eq_true he], rfl⟩
  rw [show m.cas i o v = m.put i v by unfold Mm.cas; rw [if_pos he]]
  refine RMemO.close (a := some ⟨rm, 0, none⟩) (r := some ⟨rg, 0, none⟩) (m.put i v) ⟨Mm.ok_put hm.1 hv, by rw [Mm.len_put]; exact hm.2⟩ (by rw [wrap_succ]; rfl) Mm.len_put.symm ?_
  rw [show 0 + (i : Int).toNat * 1 = i by omega]
  exact us_set _ _ _
theorem refCut (w : Nat) (hw : w < 18446744073709551616) : Fx Tryz.prog 123 [wd w] L (fun v L' => v = .int .i64 (cutE w) ∧ L = L') := by
 refine Fx.mk Tryz.func123 k123 nb_ ?_
 dsimp only [c123, envOf, Nat.reduceAdd]
 refine go ?_
 refine Cx.ifp rfl (fun h => ?_) (fun h => ?_)
 ·refine go ?_
  exact Kr.one (.inr rfl) rfl (Ent.refl _) ⟨by unfold cutE; rw [Int.min_eq_right (by omega)], rfl⟩
 ·refine go ?_
  rw [w64 (n := (w : Int)) (by omega) (by omega)]
  exact Kr.one (.inr rfl) rfl (Ent.refl _) ⟨by unfold cutE; rw [Int.min_eq_left (by omega)], rfl⟩
theorem refGetHead (w : Nat) (hw : w < 18446744073709551616) : Fx Tryz.prog 200 [wd w] L (fun v L' => v = hdV (hdI w) (hdT w) ∧ L = L') := by
 refine Fx.mk Tryz.func200 k200 nb_ ?_
 dsimp only [c200, envOf, Nat.reduceAdd]
 refine Cx.sq ?_
 refine Cx.rg ?_
 refine Sx.al fun g => ?_
 refine gg ?_
 have hm : (w : Int).tmod 4294967296 = ((w % 4294967296 : Nat) : Int) := natTmod w 4294967296
 have hdv : (w : Int).tdiv 4294967296 = (hdT w : Int) := (Int.ofNat_tdiv w 4294967296).symm
 have h3 := hdT_lt hw
 rw [hm, hdv, w64 (n := ((w % 4294967296 : Nat) : Int)) (by omega) (by omega), w64 (n := ((w % 4294967296 : Nat) : Int) - 1) (by omega) (by omega), wu64 (n := (hdT w : Int)) (by omega) (by omega), w64 (n := (hdT w : Int)) (by omega) (by omega)]
 refine Sx.st (b := g) rfl rfl rfl rfl rfl rfl ?_
 dsimp only [lay]
 refine go ?_
 exact Kr_cell (b := g) (.inr rfl) rfl rfl (L' := L) Ent.drop ⟨rfl, rfl⟩
theorem refTop {sb rm : Nat} {k : Sk} (w : Nat) (hw : w < 18446744073709551616) [t : Take L (some ⟨sb, 0, none⟩) (RSkO rm k) F] :
  Fx Tryz.prog 133 [.pointer (some ⟨sb, 0, none⟩), wd w] L (fun v L' => v = .int .i64 (k.top w) ∧ L = L') := by
 refine Fx.mk Tryz.func133 k133 nb_ ?_
 dsimp only [c133, envOf, Nat.reduceAdd]
 refine go ?_
 refine Sx.ca rfl (refGetHead w hw) ?_
 rintro v L' ⟨rfl, rfl⟩
 refine go ?_
 refine Cx.ifp rfl (fun h => ?_) (fun h => ?_)
 ·refine go ?_
  exact Kr.one (.inr rfl) rfl (Ent.refl _) ⟨by unfold Sk.top; rw [if_neg (by omega)], rfl⟩
 ·refine go ?_
  exact Kr.one (.inr rfl) rfl (Ent.refl _) ⟨by unfold Sk.top; rw [if_pos (by omega)], rfl⟩
theorem refBelow {sb rm : Nat} {k : Sk} (w : Nat) (hw : w < 18446744073709551616) (hk : k.n ≤ 4096) [t : Take L (some ⟨sb, 0, none⟩) (RSkO rm k) F] :
  Fx Tryz.prog 134 [.pointer (some ⟨sb, 0, none⟩), wd w] L (fun v L' => v = .int .i64 (k.below w) ∧ L = L') := by
 refine Fx.mk Tryz.func134 k134 nb_ ?_
 dsimp only [c134, envOf, Nat.reduceAdd]
 refine go ?_
 rw [wu64 (n := (k.n : Int)) (by omega) (by omega)]
 refine Cx.ifp rfl (fun h => ?_) (fun h => ?_)
 ·refine go ?_
  exact Kr.one (.inr rfl) rfl (Ent.refl _) ⟨by unfold Sk.below; rw [if_pos (by omega)], rfl⟩
 ·refine go ?_
  rw [w64 (n := (w : Int)) (by omega) (by omega), w64 (n := (w : Int) - 1) (by omega) (by omega)]
  exact Kr.one (.inr rfl) rfl (Ent.refl _) ⟨by unfold Sk.below; rw [if_neg (by omega)], rfl⟩
theorem refNextHead (i : Int) (t : Nat) (j : Int) (ht : t < 4294967296) : Fx Tryz.prog 242 [hdV i t, .int .i64 j] L (fun v L' => v = hdV j (laterT t) ∧ L = L') := by
 refine Fx.mk Tryz.func242 k242 nb_ ?_
 dsimp only [c242, envOf, Nat.reduceAdd]
 refine Cx.sq ?_
 refine Cx.rg ?_
 refine Sx.bx rfl rfl fun q => ?_
 refine Sx.al fun g => ?_
 refine go ?_
 refine Cx.ifp rfl (fun h => ?_) (fun h => ?_)
 ·refine go ?_
  refine Sx.st (b := g) rfl rfl rfl rfl rfl rfl ?_
  dsimp only [lay]
  refine go ?_
  refine Kr_cell (b := g) (.inr rfl) rfl rfl (L' := L) (Ent.trans Ent.drop Ent.drop) ⟨?_, rfl⟩
  rw [show laterT t = 0 by unfold laterT; rw [if_neg (by omega)]]
  rfl
 ·refine go ?_
  rw [w64 (n := (t : Int) + 1) (by omega) (by omega)]
  refine Sx.st (b := g) rfl rfl rfl rfl rfl rfl ?_
  dsimp only [lay]
  refine go ?_
  refine Kr_cell (b := g) (.inr rfl) rfl rfl (L' := L) (Ent.trans Ent.drop Ent.drop) ⟨?_, rfl⟩
  rw [show laterT t = t + 1 by unfold laterT; rw [if_pos (by omega)]]
  rfl
theorem refNextW (w : Nat) (i : Int) (hw : w < 18446744073709551616) (h1 : -1 ≤ i) (h2 : i < 4294967295) : Fx Tryz.prog 195 [wd w, .int .i64 i] L (fun v L' => v = wd (nextW w i) ∧ L = L') := by
 refine Fx.mk Tryz.func195 k195 nb_ ?_
 dsimp only [c195, envOf, Nat.reduceAdd]
 refine go ?_
 refine Sx.ca rfl (refGetHead w hw) ?_
 rintro v L' ⟨rfl, rfl⟩
 refine go ?_
 refine Sx.ca rfl (refNextHead _ _ i (hdT_lt hw)) ?_
 rintro v L' ⟨rfl, rfl⟩
 refine go ?_
 refine Sx.ca rfl (refPutHead i (laterT (hdT w)) h1 h2 (laterT_lt (hdT_lt hw))) ?_
 rintro v L' ⟨rfl, rfl⟩
 refine go ?_
 exact Kr.one (.inr rfl) rfl (Ent.refl _) ⟨rfl, rfl⟩
end
end Go.Proofs.YtflalhdofhobmaaGreat


namespace Go.Proofs.YtflalhdofhobmaaGreat
open Go
attribute [local irreducible] Sx Cx Rx Fx Krg Ksq Kbl Klp Kr
theorem ints_last {l : List Int} (h : l ≠ []) : (ints l)[l.length - 1]? = some (.int .i64 (lastI l)) := by
 unfold ints lastI
 rw [List.getElem?_map, List.getLastD_eq_getLast?, ← List.getLast?_eq_getElem?, List.getLast?_eq_some_getLast h]
 rfl
section
variable {L F G : St}
def rpopL (T : TypeId) (sb : Nat) (q : PopS) (a : Option Addr) (y : Option Addr × Nat) : St :=
 [pt a (Blk T [.pointer (some ⟨sb, 0, none⟩), .int .i64 q.most, .int .i64 (q.at_ : Nat), .int .i64 q.under, wd q.was, .slice y.1 q.got.length y.2, .bool q.done]), pt y.1 (Row 3 1 q.got.length y.2 (ints q.got))]
def RPopT (T : TypeId) (sb : Nat) (q : PopS) (a : Option Addr) : As := exs (rpopL T sb q a)
abbrev RPopO := RPopT 235
theorem RPopO.close {T : TypeId} {sb : Nat} {a r : Option Addr} {c n : Nat} {v0 v1 v2 v3 v4 v6 : Value} {w : List Value} {F G : St} (q : PopS) [t : Take L a (Blk T [v0, v1, v2, v3, v4, .slice r n c, v6]) F] [u : Take F r (Row 3 1 n c w) G]
  (h0 : v0 = .pointer (some ⟨sb, 0, none⟩)) (h1 : v1 = .int .i64 q.most) (h2 : v2 = .int .i64 (q.at_ : Nat)) (h3 : v3 = .int .i64 q.under) (h4 : v4 = wd q.was) (h5 : n = q.got.length) (h6 : v6 = .bool q.done) (hw : w = ints q.got) : Ent L (pt a (RPopT T sb q) :: G) := by
 subst h0 h1 h2 h3 h4 h5 h6 hw
 refine Ent.trans (Ent.take1 (t := t) (Ent.of u.out)) ?_
 exact Ent.close (f := rpopL T sb q a) rfl (r, c)
theorem refPopNew {sb rm : Nat} {k : Sk} (most : Int) [t : Take L (some ⟨sb, 0, none⟩) (RSkO rm k) F] :
  Fx Tryz.prog 166 [.pointer (some ⟨sb, 0, none⟩), .int .i64 most] L (fun v L' => ∃ b, v = .pointer (some ⟨b, 0, none⟩) ∧ L' = pt (some ⟨b, 0, none⟩) (RPopO sb (PopS.init most)) :: L) := by
 refine Fx.mk Tryz.func166 k166 nb_ ?_
 dsimp only [c166, envOf, Nat.reduceAdd]
 refine go ?_
 refine Sx.bx rfl rfl fun b => ?_
 refine go ?_
 refine Kr.one (.inr rfl) rfl ?_ ⟨b, rfl, rfl⟩
 refine Ent.trans (Ent.rownil 3 1) ?_
 refine RPopO.close (a := some ⟨b, 0, none⟩) (r := none) (PopS.init most) rfl (congrArg (Value.int .i64) ?_) rfl rfl rfl rfl rfl rfl
 simp only [PopS.init, cond_true, cond_false]
 (repeat' split) <;> omega
set_option maxHeartbeats 1000000 in
theorem refPopStep {b sb rm : Nat} {k : Sk} {m : Mm} {q : PopS} {F1 F2 : St} (hk : k.ok m.ws.length) (hq : q.ok k) [t1 : Take L (some ⟨b, 0, none⟩) (RPopO sb q) F1] [t2 : Take F1 (some ⟨rm, 0, none⟩) (RMemO m) F2] [t3 : Take F2 (some ⟨sb, 0, none⟩) (RSkO rm k) G] :
  Fx Tryz.prog 167 [.pointer (some ⟨b, 0, none⟩)] L (fun v L' => v = .bool (!q.done) ∧ L' = pt (some ⟨b, 0, none⟩) (RPopO sb (popStep k m q).1) :: pt (some ⟨rm, 0, none⟩) (RMemO (popStep k m q).2) :: F2) := by
 obtain ⟨k1, k2, k3, k4, k5, k6⟩ := hk
 refine Fx.mk Tryz.func167 k167 nb_ ?_
 dsimp only [c167, envOf, Nat.reduceAdd]
 refine Cx.ent (Ent.trans (Ent.of t1.out) (Ent.cons (Ent.trans (Ent.of t2.out) (Ent.cons (Ent.of t3.out))))) ?_
 refine Cx.pure (rmemKey (rm := rm) (m := m)) fun hm => ?_
 refine Cx.openp (a := some ⟨b, 0, none⟩) rfl ?_
 rintro ⟨r, c⟩
 simp only [rpopL, List.cons_append, List.nil_append]
 cases hd : q.done with
 | true =>
   have e1 : popStep k m q = (q, m) := by unfold popStep; rw [hd]; rfl
   rw [e1]
   refine go ?_
   refine Kr.one (.inr rfl) rfl (Ent.trans (RPopO.close (sb := sb) (a := some ⟨b, 0, none⟩) (r := r) q rfl rfl rfl rfl rfl rfl (by rw [hd]) rfl) (Ent.cons (Ent.cons (Ent.of t3.back)))) ⟨rfl, rfl⟩
 | false =>
   have ha := hq.a
   rcases (show q.at_ = 0 ∨ q.at_ = 1 ∨ q.at_ = 2 by omega) with h0 | h0 | h0
   ·have hwl := Mm.at_lt hm.1 k.head
    rw [h0]
    refine go ?_
    refine Cx.ordc rfl kr_ ?_
    refine ge ?_
    refine Ev.caH kr_ rfl rfl (refLoad (rm := rm) (m := m) k.head k3) (Pres.deps kr_) ?_
    rintro v L' ⟨rfl, rfl⟩
    refine ge ?_
    refine Ev.stbH (b := b) kr_ rfl rfl rfl rfl rfl (by rfl) rfl (Pres.deps kr_) ?_
    refine ge ?_
    refine go ?_
    refine Sx.ca rfl (refTop (sb := sb) (rm := rm) (k := k) (m.at_ k.head) hwl) ?_
    rintro v L' ⟨rfl, rfl⟩
    refine go ?_
    refine Cx.ifp rfl (fun h => ?_) (fun h => ?_)
    ·have e1 : popStep k m q = ({ q with was := m.at_ k.head, got := [], done := true }, m.tick) := by unfold popStep; rw [hd, h0]; simp only [Bool.false_eq_true, if_false]; rw [if_neg (by omega)]
     rw [e1]
     refine go ?_
     refine Kr.one (.inr rfl) rfl ?_ ⟨rfl, rfl⟩
     refine Ent.trans (Ent.rownil 3 1) ?_
     refine Ent.trans (RPopO.close (sb := sb) (a := some ⟨b, 0, none⟩) (r := none) { q with was := m.at_ k.head, got := [], done := true } rfl rfl (by rw [h0]) rfl rfl rfl rfl rfl) ?_
     refine Ent.cons ?_
     refine Ent.trans ?_ (Ent.cons (Ent.of t3.back))
     exact ent
    ·have e1 : popStep k m q = ({ q with was := m.at_ k.head, got := [k.top (m.at_ k.head)], at_ := 1 }, m.tick) := by unfold popStep; rw [hd, h0]; simp only [Bool.false_eq_true, if_false]; rw [if_pos (by omega)]
     rw [e1]
     refine go ?_
     refine Sx.bs (sz := 1) rfl rfl fun g => ?_
     refine go ?_
     refine Sx.apn rfl rfl (Rd.row (b := g) (E := 3) (cap := 1) rfl) rfl (by simp [maxLen]) (by omega) fun r' c' hc => ?_
     refine go ?_
     refine Kr.one (.inr rfl) rfl ?_ ⟨rfl, rfl⟩
     refine Ent.trans (RPopO.close (sb := sb) (a := some ⟨b, 0, none⟩) (r := r') { q with was := m.at_ k.head, got := [k.top (m.at_ k.head)], at_ := 1 } rfl rfl rfl rfl rfl rfl (by rw [hd]) rfl) ?_
     refine Ent.cons ?_
     refine Ent.trans ?_ (Ent.cons (Ent.of t3.back))
     exact ent
   ·have hne := hq.ne hd (by omega)
    have hlp := List.length_pos_iff.2 hne
    have hlen8 := hq.len
    have hlast := hq.g _ (lastI_mem hne)
    have hm8 := hq.m2
    have hwl := Mm.at_lt hm.1 (k.links + (lastI q.got).toNat)
    obtain ⟨bl, hbl⟩ : ∃ bl, k.below (m.at_ (k.links + (lastI q.got).toNat)) = bl := ⟨_, rfl⟩
    have hbl1 : -1 ≤ bl := hbl ▸ k.below_ge _
    have hbl2 : bl < k.n := hbl ▸ k.below_lt _
    refine Cx.rowkey (a := r) fun hx0 hn0 hc0 hk1 => ?_
    obtain ⟨rg, rfl⟩ := row_some hlp (hk1.imp (fun h => ⟨h.1, h.2.1, h.2.2⟩) id)
    rw [h0]
    refine go ?_
    refine Cx.ordc rfl kr_ ?_
    refine ge ?_
    rw [w64 (n := (q.got.length : Int) - 1) (by omega) (by omega)]
    refine ge ?_
    refine Ev.ldrH (b := rg) (v := .int .i64 (lastI q.got)) kr_ rfl rfl (by rw [show 0 + ((q.got.length : Int) - 1).toNat * 1 = q.got.length - 1 by omega]; exact ints_last hne) ?_
    refine ge ?_
    rw [w64 (n := (k.links : Int) + lastI q.got) (by omega) (by omega), show (k.links : Int) + lastI q.got = ((k.links + (lastI q.got).toNat : Nat) : Int) by omega]
    refine Ev.caH kr_ rfl rfl (refLoad (rm := rm) (m := m) (k.links + (lastI q.got).toNat) (by omega)) (Pres.deps kr_) ?_
    rintro v L' ⟨rfl, rfl⟩
    refine ge ?_
    refine Ev.cakH kr_ rfl rfl (refBelow (sb := sb) (rm := rm) (k := k) _ hwl k2) ?_
    rw [hbl]
    refine ge ?_
    refine Ev.stbH (b := b) kr_ rfl rfl rfl rfl rfl (by rfl) rfl (Pres.deps kr_) ?_
    refine ge ?_
    refine Cx.sq ?_
    refine Cx.ordc rfl kr_ ?_
    refine ge ?_
    by_cases hb0 : 0 ≤ bl
    ·refine Ev.yes 120 rfl (decide_eq_true hb0) ?_
     refine ge ?_
     refine Cx.ifp rfl (fun h => ?_) (fun h => ?_)
     ·have e1 : popStep k m q = ({ q with under := bl, got := q.got ++ [bl] }, m.tick) := by unfold popStep; rw [hd, h0]; simp only [Bool.false_eq_true, if_false, hbl]; rw [if_pos ⟨hb0, h⟩]
      rw [e1]
      refine go ?_
      refine Cx.orde rfl kr_ ?_
      refine ge ?_
      refine Ev.bsH (sz := 1) kr_ rfl rfl rfl (.dep rfl (.keep (fun v L' ⟨_, _, e⟩ => by subst e; exact Has.cell rfl) .nil)) fun g => ?_
      refine ge ?_
      refine Ev.apH (ra := some ⟨rg, 0, none⟩) kr_ rfl rfl rfl (Rd.row (b := g) (E := 3) (cap := 1) rfl) rfl (by simp [maxLen]; omega) (by omega) (Pres.deps kr_) fun r' c' hc hk2 => ?_
      refine ge ?_
      refine Ev.stbH (b := b) kr_ rfl rfl rfl rfl rfl (by rfl) rfl (Pres.deps kr_) ?_
      refine ge ?_
      refine go ?_
      refine Kr.one (.inr rfl) rfl ?_ ⟨rfl, rfl⟩
      refine Ent.trans (RPopO.close (sb := sb) (a := some ⟨b, 0, none⟩) (r := r') { q with under := bl, got := q.got ++ [bl] } rfl rfl (by rw [h0]) rfl rfl (by simp) (by rw [hd]) (by simp [ints, lay])) ?_
      refine Ent.cons ?_
      refine Ent.trans ?_ (Ent.cons (Ent.of t3.back))
      exact ent
     ·have e1 : popStep k m q = ({ q with under := bl, at_ := 2 }, m.tick) := by unfold popStep; rw [hd, h0]; simp only [Bool.false_eq_true, if_false, hbl]; rw [if_neg (fun hh => h hh.2)]
      rw [e1]
      refine go ?_
      refine Kr.one (.inr rfl) rfl ?_ ⟨rfl, rfl⟩
      refine Ent.trans (RPopO.close (sb := sb) (a := some ⟨b, 0, none⟩) (r := some ⟨rg, 0, none⟩) { q with under := bl, at_ := 2 } rfl rfl rfl rfl rfl rfl (by rw [hd]) rfl) ?_
      refine Ent.cons ?_
      refine Ent.trans ?_ (Ent.cons (Ent.of t3.back))
      exact ent
    ·refine Ev.no 120 rfl (decide_eq_false hb0) ?_
     have e1 : popStep k m q = ({ q with under := bl, at_ := 2 }, m.tick) := by unfold popStep; rw [hd, h0]; simp only [Bool.false_eq_true, if_false, hbl]; rw [if_neg (fun hh => hb0 hh.1)]
     rw [e1]
     refine ge ?_
     refine go ?_
     refine Kr.one (.inr rfl) rfl ?_ ⟨rfl, rfl⟩
     refine Ent.trans (RPopO.close (sb := sb) (a := some ⟨b, 0, none⟩) (r := some ⟨rg, 0, none⟩) { q with under := bl, at_ := 2 } rfl rfl rfl rfl rfl rfl (by rw [hd]) rfl) ?_
     refine Ent.cons ?_
     refine Ent.trans ?_ (Ent.cons (Ent.of t3.back))
     exact ent
   ·have hu1 := hq.u1
    have hu2 := hq.u2
    have hw := hq.w
    have hnw := nextW_lt (i := q.under) hw (by omega)
    have e1 : popStep k m q = ({ q with at_ := 0, done := decide (m.at_ k.head = q.was) }, m.cas k.head q.was (nextW q.was q.under)) := by unfold popStep; rw [hd, h0]; rfl
    rw [e1, h0]
    refine go ?_
    refine Cx.ordc rfl kr_ ?_
    refine ge ?_
    refine Ev.cakH kr_ rfl rfl (refNextW q.was q.under hw hu1 (by omega)) ?_
    refine ge ?_
    refine Ev.caH kr_ rfl rfl (refCas (rm := rm) (m := m) k.head q.was (nextW q.was q.under) k3 hw hnw) (Pres.deps kr_) ?_
    rintro v L' ⟨rfl, rfl⟩
    refine ge ?_
    refine Ev.stbH (b := b) kr_ rfl rfl rfl rfl rfl (by rfl) rfl (Pres.deps kr_) ?_
    refine ge ?_
    refine go ?_
    refine Kr.one (.inr rfl) rfl ?_ ⟨rfl, rfl⟩
    refine Ent.trans (RPopO.close (sb := sb) (a := some ⟨b, 0, none⟩) (r := r) { q with at_ := 0, done := decide (m.at_ k.head = q.was) } rfl rfl rfl rfl rfl rfl rfl rfl) ?_
    refine Ent.cons ?_
    refine Ent.trans ?_ (Ent.cons (Ent.of t3.back))
    exact ent
theorem refPopGot {b sb rm : Nat} {k : Sk} {q : PopS} {F1 : St} (hd : q.done = true) (hb : q.got.length ≤ 8) [t1 : Take L (some ⟨b, 0, none⟩) (RPopO sb q) F1] :
  Fx Tryz.prog 168 [.pointer (some ⟨b, 0, none⟩)] L (fun v L' => ∃ r c, v = .slice r q.got.length c ∧ L' = pt r (Row 3 1 q.got.length c (ints q.got)) :: pt (some ⟨b, 0, none⟩) (RPopO sb q) :: F1) := by
 refine Fx.mk Tryz.func168 k168 nb_ ?_
 dsimp only [c168, envOf, Nat.reduceAdd]
 refine Cx.openp (t := t1) rfl ?_
 rintro ⟨r, c⟩
 simp only [rpopL, List.cons_append, List.nil_append]
 rw [hd]
 refine Cx.rowkey (a := r) fun hx0 hn0 hc0 hk1 => ?_
 refine go ?_
 refine Sx.apn rfl rfl (Rd.any (a := r) hx0 (hk1.imp (fun h => h.2.1) id)) (ones_ints _) (by simp [maxLen]; omega) (by omega) fun r' c' hc => ?_
 refine go ?_
 refine Kr.one (.inr rfl) rfl (Ent.cons ?_) ⟨r', c', rfl, rfl⟩
 exact RPopO.close (sb := sb) (a := some ⟨b, 0, none⟩) (r := r) q rfl rfl rfl rfl rfl rfl (by rw [hd]) rfl
end
end Go.Proofs.YtflalhdofhobmaaGreat


namespace Go.Proofs.YtflalhdofhobmaaGreat
open Go
attribute [local irreducible] Sx Cx Rx Fx Krg Ksq Kbl Klp Kr
section
variable {L F G : St}
theorem refRootAt {x : Cn} (hx : x.ok) (i : Nat) (hi : i < x.sl) : Fx Tryz.prog 97 [x.v, .int .i64 i] L (fun v L' => v = .int .i64 ((x.root + i : Nat) : Int) ∧ L = L') := by
 obtain ⟨b1, b2, b3, b4, b5, b6, b7⟩ := hx.b
 refine Fx.mk Tryz.func97 k97 nb_ ?_
 dsimp only [c97, envOf, Nat.reduceAdd]
 refine Cx.sq ?_
 refine Cx.rg ?_
 refine Sx.bx rfl rfl fun g => ?_
 refine go ?_
 rw [w64 (n := (3 : Int) + x.w) (by omega) (by omega)]
 refine Sx.ca rfl (refAt hx ((3 : Int) + x.w) x.sl i hi (by omega) (by omega)) ?_
 rintro v L' ⟨rfl, rfl⟩
 refine go ?_
 refine Kr.one (.inr rfl) rfl Ent.drop ⟨congrArg (Value.int .i64) ?_, rfl⟩
 unfold Cn.root; omega
theorem refGetRoot (w : Nat) (hw : w < 18446744073709551616) : Fx Tryz.prog 100 [wd w] L (fun v L' => v = rtV (rtOf w) ∧ L = L') := by
 refine Fx.mk Tryz.func100 k100 nb_ ?_
 dsimp only [c100, envOf, Nat.reduceAdd]
 refine Cx.sq ?_
 refine Cx.rg ?_
 refine Sx.al fun g => ?_
 refine gg ?_
 have h1 := rtOf_gen hw
 have h2 := rtOf_mrk w
 have h3 := rtOf_cl w
 have h4 := rtOf_off w
 have d1 : (w : Int).tdiv 4294967296 = ((w / 4294967296 : Nat) : Int) := rfl
 have d2 : (w : Int).tdiv 65536 = ((w / 65536 : Nat) : Int) := rfl
 have d3 : (w : Int).tdiv 4096 = ((w / 4096 : Nat) : Int) := rfl
 have d4 : ((w / 65536 : Nat) : Int).tmod 65536 = ((w / 65536 % 65536 : Nat) : Int) := rfl
 have d5 : ((w / 4096 : Nat) : Int).tmod 16 = ((w / 4096 % 16 : Nat) : Int) := rfl
 have d6 : (w : Int).tmod 4096 = ((w % 4096 : Nat) : Int) := rfl
 rw [d1, d2, d3, d6, wrap64 (n := w / 4294967296) (by omega), wrap64 (n := w / 65536) (by omega), wrap64 (n := w / 4096) (by omega), d4, d5]
 rw [show w / 4294967296 = (rtOf w).gen from rfl, show w / 65536 % 65536 = (rtOf w).mrk from rfl, show w / 4096 % 16 = (rtOf w).cl from rfl, show w % 4096 = (rtOf w).off from rfl]
 rw [w64 (n := ((rtOf w).gen : Int)) (by omega) (by omega), w64 (n := ((rtOf w).mrk : Int)) (by omega) (by omega), w64 (n := ((rtOf w).cl : Int)) (by omega) (by omega), w64 (n := ((rtOf w).off : Int)) (by omega) (by omega)]
 refine Sx.st (b := g) rfl rfl rfl rfl rfl rfl ?_
 dsimp only [lay]
 refine go ?_
 exact Kr_cell (b := g) (.inr rfl) rfl rfl (L' := L) Ent.drop ⟨rfl, rfl⟩
theorem refLater (n : Nat) (h : n < 4294967296) : Fx Tryz.prog 169 [.int .i64 n] L (fun v L' => v = .int .i64 (laterT n : Nat) ∧ L = L') := by
 refine Fx.mk Tryz.func169 k169 nb_ ?_
 dsimp only [c169, envOf, Nat.reduceAdd]
 repeat' (first|refine Zo0 rfl ?_|refine Zo1 ?_|refine Zo2 ?_|refine Zo3 ?_|refine Zo4 ?_|refine Zo5 ?_|refine Zo6 ?_|refine Zo7 ?_|refine Zo8 rfl ?_|refine Zo9 rfl ?_|refine Zoa ?_|refine Zob ?_|refine Zoc ?_|refine Zod ?_|refine Zoe ?_|refine Zof ?_|refine Zog ?_|refine Zoh ?_|refine Zom rfl (by rfl) ?_|refine Zon rfl rfl ?_|refine Zoo rfl rfl rfl rfl (by rfl) (by rfl) ?_|refine Zop rfl trivial ?_|refine Zoq rfl rfl rfl ?_)
 refine Cx.ifp rfl (fun h => ?_) (fun h => ?_)
 ·refine go ?_
  refine Kr.one (.inr rfl) rfl (Ent.refl _) ⟨by unfold laterT; rw [if_neg (by omega)]; rfl, rfl⟩
 ·refine go ?_
  rw [w64 (n := (n : Int) + 1) (by omega) (by omega)]
  refine Kr.one (.inr rfl) rfl (Ent.refl _) ⟨by unfold laterT; rw [if_pos (by omega)]; rfl, rfl⟩
set_option maxHeartbeats 1000000 in
theorem refPutRoot (r : Rt) (h : r.ok) : Fx Tryz.prog 101 [rtV r] L (fun v L' => v = .tuple #[wd r.w, .bool true] ∧ L = L') := by
 obtain ⟨h1, h2, h3, h4⟩ := h
 refine Fx.mk Tryz.func101 k101 nb_ ?_
 dsimp only [c101, envOf, Nat.reduceAdd]
 refine Cx.sq ?_
 refine Cx.rg ?_
 refine Sx.bx rfl rfl fun g => ?_
 refine go ?_
 refine Sx.ca rfl (in_ (r.gen : Int) 0 4294967295) ?_
 rintro v L' ⟨rfl, rfl⟩
 rw [decide_eq_true (show (0 : Int) ≤ r.gen ∧ (r.gen : Int) ≤ 4294967295 by omega)]
 refine go ?_
 refine Sx.ca rfl (in_ (r.mrk : Int) 0 4097) ?_
 rintro v L' ⟨rfl, rfl⟩
 rw [decide_eq_true (show (0 : Int) ≤ r.mrk ∧ (r.mrk : Int) ≤ 4097 by omega)]
 refine go ?_
 refine Sx.ca rfl (in_ (r.cl : Int) 0 3) ?_
 rintro v L' ⟨rfl, rfl⟩
 rw [decide_eq_true (show (0 : Int) ≤ r.cl ∧ (r.cl : Int) ≤ 3 by omega)]
 refine go ?_
 refine Sx.ca rfl (in_ (r.off : Int) 0 1024) ?_
 rintro v L' ⟨rfl, rfl⟩
 rw [decide_eq_true (show (0 : Int) ≤ r.off ∧ (r.off : Int) ≤ 1024 by omega)]
 refine go ?_
 refine Kr.two (.inr rfl) rfl rfl Ent.drop ⟨?_, rfl⟩
 rw [wrap64 (n := r.gen) (by omega), wrap64 (n := r.mrk) (by omega), wrap64 (n := r.cl) (by omega), wrap64 (n := r.off) (by omega)]
 rw [wu64 (n := (r.gen : Int) * 4294967296) (by omega) (by omega), wu64 (n := (r.mrk : Int) * 65536) (by omega) (by omega), wu64 (n := (r.cl : Int) * 4096) (by omega) (by omega),
  wu64 (n := (r.gen : Int) * 4294967296 + r.mrk * 65536) (by omega) (by omega), wu64 (n := (r.gen : Int) * 4294967296 + r.mrk * 65536 + r.cl * 4096) (by omega) (by omega), wu64 (n := (r.gen : Int) * 4294967296 + r.mrk * 65536 + r.cl * 4096 + r.off) (by omega) (by omega)]
 rw [show (r.gen : Int) * 4294967296 + r.mrk * 65536 + r.cl * 4096 + r.off = ((r.w : Nat) : Int) by unfold Rt.w; omega]
def CreS.rslot (c : CreS) : Int := if c.at_ = 0 then 0 else c.slot
def CreS.rgen (c : CreS) : Nat := if c.done = true ∧ c.at_ = 2 then laterT (rtOf c.was).gen else 0
abbrev rcrV (w cl at_ : Nat) (cnt : Int) (point : Nat) (slot : Int) (gen p : Nat) (rt : Rt) (code : Nat) (d : Bool) : List Value :=
 [.pointer (some ⟨w, 0, none⟩), .int .i64 (cl : Nat), .int .i64 (at_ : Nat), .int .i64 cnt, .int .i64 (point : Nat), .int .i64 slot, .int .i64 (gen : Nat), .pointer (some ⟨p, 0, none⟩), .int .i64 (rt.gen : Nat), .int .i64 (rt.mrk : Nat), .int .i64 (rt.cl : Nat), .int .i64 (rt.off : Nat), .int .i64 (code : Nat), .bool d]
def rcrL (T : TypeId) (w rs cl : Nat) (c : CreS) (a : Option Addr) (p : Nat) : St :=
 [pt a (Blk T [.pointer (some ⟨w, 0, none⟩), .int .i64 (cl : Nat), .int .i64 (c.at_ : Nat), .int .i64 (c.cnt : Nat), .int .i64 (c.point : Nat), .int .i64 c.rslot, .int .i64 (c.rgen : Nat), .pointer (some ⟨p, 0, none⟩), .int .i64 ((rtOf c.was).gen : Nat), .int .i64 ((rtOf c.was).mrk : Nat), .int .i64 ((rtOf c.was).cl : Nat), .int .i64 ((rtOf c.was).off : Nat), .int .i64 (c.code : Nat), .bool c.done]), pt (some ⟨p, 0, none⟩) (RPopO rs c.q)]
def RCreT (T : TypeId) (w rs cl : Nat) (c : CreS) (a : Option Addr) : As := exs (rcrL T w rs cl c a)
abbrev RCreO := RCreT 164
theorem RCreO.close {b w rs cl p at_ point gen code : Nat} {cnt slot : Int} {rt : Rt} {d : Bool} {q : PopS} (c : CreS) (e1 : at_ = c.at_) (e2 : cnt = (c.cnt : Nat)) (e3 : point = c.point) (e4 : slot = c.rslot) (e5 : gen = c.rgen) (e6 : rt = rtOf c.was) (e7 : code = c.code) (e8 : d = c.done) (e9 : q = c.q) :
  Ent (pt (some ⟨b, 0, none⟩) (Blk 164 (rcrV w cl at_ cnt point slot gen p rt code d)) :: pt (some ⟨p, 0, none⟩) (RPopO rs q) :: G) (pt (some ⟨b, 0, none⟩) (RCreO w rs cl c) :: G) := by
 subst e1 e2 e3 e4 e5 e6 e7 e8 e9
 exact Ent.close (f := rcrL 164 w rs cl c (some ⟨b, 0, none⟩)) rfl p
theorem refCreate {w rm rp rs re : Nat} {x : Cn} (cl : Nat) (hcl : cl ≤ 3) [c : Take L (some ⟨w, 0, none⟩) (RWO x rm rp rs re) F] {F2 : St} [s : Take F (some ⟨rs, 0, none⟩) (RSkO rm x.spare) F2] :
  Fx Tryz.prog 85 [.pointer (some ⟨w, 0, none⟩), .int .i64 cl] L (fun v L' => ∃ b, v = .pointer (some ⟨b, 0, none⟩) ∧ L' = pt (some ⟨b, 0, none⟩) (RCreO w rs cl CreS.init) :: L) := by
 refine Fx.mk Tryz.func85 k85 nb_ ?_
 dsimp only [c85, envOf, Nat.reduceAdd]
 refine Cx.ent (Ent.trans (Ent.of c.out) (Ent.cons (Ent.of s.out))) ?_
 refine go ?_
 have e1 : (bif true then (if (cl : Int) < 0 then (0 : Int) else (cl : Int)) else (if (0 : Int) < (cl : Int) then (0 : Int) else (cl : Int))) = cl := by
  rw [cond_true, if_neg (by omega)]
 have e2 : (bif false then (if (cl : Int) < 3 then (3 : Int) else (cl : Int)) else (if (3 : Int) < (cl : Int) then (3 : Int) else (cl : Int))) = cl := by
  rw [cond_false, if_neg (by omega)]
 rw [e1, e2]
 refine Sx.ca rfl (refPopNew (sb := rs) (rm := rm) (k := x.spare) 1) ?_
 rintro v L' ⟨p, rfl, rfl⟩
 refine go ?_
 refine Sx.bx rfl rfl fun b => ?_
 refine Sx.re (rcrV w cl 0 0 0 0 0 p ⟨0, 0, 0, 0⟩ 0 false) rfl ?_
 refine go ?_
 refine Kr.one (.inr rfl) rfl ?_ ⟨b, rfl, rfl⟩
 refine Ent.trans (RCreO.close (b := b) (w := w) (rs := rs) (cl := cl) (p := p) CreS.init rfl rfl rfl rfl rfl rfl rfl rfl rfl) (Ent.cons ?_)
 exact Ent.trans (Ent.cons (Ent.of s.back)) (Ent.of c.back)
set_option maxHeartbeats 2000000 in
theorem refCrStep {b w rm rp rs re : Nat} {x : Cn} {m : Mm} {cl : Nat} {c : CreS} {F1 F2 F3 : St} (hx : x.ok) (hl : x.len ≤ m.ws.length) (hcl : cl ≤ 3) (hc : c.ok x.spare)
  [t1 : Take L (some ⟨b, 0, none⟩) (RCreO w rs cl c) F1] [t2 : Take F1 (some ⟨rm, 0, none⟩) (RMemO m) F2] [t3 : Take F2 (some ⟨w, 0, none⟩) (RWO x rm rp rs re) F3] [t4 : Take F3 (some ⟨rs, 0, none⟩) (RSkO rm x.spare) G] :
  Fx Tryz.prog 87 [.pointer (some ⟨b, 0, none⟩)] L
   (fun v L' => v = .bool (!c.done) ∧ L' = pt (some ⟨b, 0, none⟩) (RCreO w rs cl (crStep x.spare x.root cl m c).1) :: pt (some ⟨rm, 0, none⟩) (RMemO (crStep x.spare x.root cl m c).2) :: F2) := by
 have hsz : x.root + x.sl ≤ x.len := by unfold Cn.root Cn.len; omega
 have hback : Ent (pt (some ⟨w, 0, none⟩) (RWO x rm rp rs re) :: pt (some ⟨rs, 0, none⟩) (RSkO rm x.spare) :: G) F2 := Ent.trans (Ent.cons (Ent.of t4.back)) (Ent.of t3.back)
 obtain ⟨ha, hq0, hw, hs, hn⟩ := hc
 refine Fx.mk Tryz.func87 k87 nb_ ?_
 dsimp only [c87, envOf, Nat.reduceAdd]
 refine Cx.ent (Ent.trans (Ent.of t1.out) (Ent.cons (Ent.trans (Ent.of t2.out) (Ent.cons (Ent.trans (Ent.of t3.out) (Ent.cons (Ent.of t4.out))))))) ?_
 refine Cx.pure (rmemKey (rm := rm) (m := m)) fun hm => ?_
 have hk := hx.spare (n := m.ws.length) hl hm.2
 refine Cx.openp (a := some ⟨b, 0, none⟩) rfl ?_
 intro p
 simp only [rcrL, List.cons_append, List.nil_append]
 cases hd : c.done with
 | true =>
   have e1 : crStep x.spare x.root cl m c = (c, m) := by unfold crStep; rw [hd]; rfl
   rw [e1]
   refine go ?_
   refine Kr.one (.inr rfl) rfl (Ent.trans (RCreO.close (w := w) (rs := rs) (rt := rtOf c.was) (d := true) c rfl rfl rfl rfl rfl rfl rfl hd.symm rfl) (Ent.cons (Ent.cons hback))) ⟨rfl, rfl⟩
 | false =>
   refine go ?_
   rw [cntW hn]
   refine go ?_
   rcases (show c.at_ = 0 ∨ c.at_ = 1 ∨ c.at_ = 2 by omega) with h0 | h0 | h0
   ·rw [h0]
    refine go ?_
    have hlen := cr_l (m := m) hq0 hk hm.1
    refine Sx.ca rfl (refPopStep (b := p) (sb := rs) (rm := rm) (k := x.spare) (m := m) (q := c.q) hk hq0) ?_
    rintro v L' ⟨rfl, rfl⟩
    refine go ?_
    obtain ⟨Q, hQ⟩ : ∃ Q, Q = (popStep x.spare m c.q).1 := ⟨_, rfl⟩
    rw [← hQ] at hlen ⊢
    refine Sx.openp (a := some ⟨p, 0, none⟩) rfl ?_
    rintro ⟨ro, co⟩
    simp only [rpopL, List.cons_append, List.nil_append]
    cases hq : Q.done with
    | false =>
      have e1 : crStep x.spare x.root cl m c = ({ c with cnt := c.cnt + 1, q := Q }, (popStep x.spare m c.q).2) := by unfold crStep; rw [hd, h0, hQ]; rw [hQ] at hq; simp only [Bool.false_eq_true, if_false, hq]
      rw [e1]
      refine go ?_
      refine Kr.one (.inr rfl) rfl ?_ ⟨rfl, rfl⟩
      refine Ent.trans (RPopO.close (sb := rs) (a := some ⟨p, 0, none⟩) (r := ro) Q rfl rfl rfl rfl rfl rfl (by rw [hq]) rfl) ?_
      refine Ent.trans (Ent.take (a := some ⟨b, 0, none⟩)) ?_
      refine Ent.trans (RCreO.close (w := w) (rs := rs) (rt := rtOf c.was) (d := false) { c with cnt := c.cnt + 1, q := Q } h0.symm rfl rfl rfl ?_ rfl rfl hd.symm rfl) (Ent.cons (Ent.cons hback))
      rfl
    | true =>
      have e1 : crStep x.spare x.root cl m c = (crPopped { c with cnt := c.cnt + 1, q := Q }, (popStep x.spare m c.q).2) := by unfold crStep; rw [hd, h0, hQ]; rw [hQ] at hq; simp only [Bool.false_eq_true, if_false, hq, if_true]
      rw [e1]
      refine go ?_
      refine Sx.ent (Ent.trans (RPopO.close (sb := rs) (a := some ⟨p, 0, none⟩) (r := ro) Q rfl rfl rfl rfl rfl rfl (by rw [hq]) rfl) (Ent.refl _)) ?_
      refine Sx.ca rfl (refPopGot (b := p) (sb := rs) (rm := rm) (k := x.spare) (q := Q) hq hlen) ?_
      rintro v L' ⟨r1, c1, rfl, rfl⟩
      refine go ?_
      cases hg : Q.got with
      | nil =>
        have e2 : crPopped { c with cnt := c.cnt + 1, q := Q } = { c with cnt := c.cnt + 1, q := Q, point := c.cnt + 1, code := 7, done := true } := by unfold crPopped; rw [hg]
        rw [e2]
        refine go ?_
        refine Kr.one (.inr rfl) rfl ?_ ⟨rfl, rfl⟩
        refine Ent.trans (Ent.take (a := some ⟨b, 0, none⟩)) ?_
        refine Ent.trans (Ent.cons (Ent.take (a := some ⟨p, 0, none⟩))) ?_
        refine Ent.trans (RCreO.close (w := w) (rs := rs) (rt := rtOf c.was) (d := true) { c with cnt := c.cnt + 1, q := Q, point := c.cnt + 1, code := 7, done := true } h0.symm rfl rfl rfl ?_ rfl rfl rfl rfl) (Ent.cons ?_)
        ·unfold CreS.rgen
         dsimp only
         rw [if_neg (by simp [hd]), if_neg (by simp [h0])]
        ·refine Ent.trans (Ent.take (a := some ⟨rm, 0, none⟩)) (Ent.cons ?_)
         refine Ent.trans ?_ hback
         exact ent
      | cons y l =>
        have e2 : crPopped { c with cnt := c.cnt + 1, q := Q } = { c with cnt := c.cnt + 1, q := Q, point := c.cnt + 1, slot := y, at_ := 1 } := by unfold crPopped; rw [hg]
        rw [e2]
        rw [hg] at hlen
        simp only [List.length_cons] at hlen ⊢
        refine Cx.cno rfl (decide_eq_false (by omega)) ?_
        refine Cx.rowkey (a := r1) fun hx0 hn0 hc0 hk0 => ?_
        obtain ⟨rg, rfl⟩ : ∃ g, r1 = some ⟨g, 0, none⟩ := by
         rcases hk0 with h | h
         ·omega
         ·exact h
        refine go ?_
        refine Sx.pv rfl ⟨by omega, by omega⟩ ?_
        refine Sx.ldr (b := rg) rfl (v := .int .i64 y) rfl ?_
        refine go ?_
        refine Kr.one (.inr rfl) rfl ?_ ⟨rfl, rfl⟩
        refine Ent.trans (Ent.take (a := some ⟨b, 0, none⟩)) ?_
        refine Ent.trans (Ent.cons (Ent.take (a := some ⟨p, 0, none⟩))) ?_
        refine Ent.trans (RCreO.close (w := w) (rs := rs) (rt := rtOf c.was) (d := false) { c with cnt := c.cnt + 1, q := Q, point := c.cnt + 1, slot := y, at_ := 1 } rfl rfl rfl rfl ?_ rfl rfl hd.symm rfl) (Ent.cons ?_)
        ·unfold CreS.rgen
         dsimp only
         rw [if_neg (by simp [hd]), if_neg (by simp [hd])]
        ·refine Ent.trans ?_ (Ent.cons hback)
         exact ent
   ·have e1 : crStep x.spare x.root cl m c = ({ c with cnt := c.cnt + 1, was := m.at_ (x.root + c.slot.toNat), at_ := 2 }, m.tick) := by unfold crStep; rw [hd, h0]; rfl
    have hs' := hs (by omega)
    have hs2 : c.slot < x.sl := hs'.2
    obtain ⟨s, hs1⟩ : ∃ s : Nat, c.slot = s := ⟨c.slot.toNat, by omega⟩
    have er : c.rslot = s := by unfold CreS.rslot; rw [if_neg (by omega), hs1]
    rw [e1, h0, er, hs1, Int.toNat_natCast]
    refine go ?_
    refine Cx.ordc rfl kr_ ?_
    refine ge ?_
    refine Ev.cakH kr_ rfl rfl (refRootAt hx s (by omega)) ?_
    refine ge ?_
    refine Ev.caH kr_ rfl rfl (refLoad (rm := rm) (m := m) (x.root + s) (by omega)) (Pres.deps kr_) ?_
    rintro v L' ⟨rfl, rfl⟩
    refine ge ?_
    have hwl := Mm.at_lt hm.1 (x.root + s)
    refine Ev.cakH kr_ rfl rfl (refGetRoot (m.at_ (x.root + s)) hwl) ?_
    refine ge ?_
    refine Ev.stnH (b := b) (rcrV w cl 1 ((c.cnt + 1 : Nat) : Int) c.point s c.rgen p (rtOf (m.at_ (x.root + s))) c.code false) kr_ rfl rfl rfl rfl rfl rfl rfl rfl (Pres.deps kr_) ?_
    refine ge ?_
    refine go ?_
    refine Kr.one (.inr rfl) rfl ?_ ⟨rfl, rfl⟩
    refine Ent.trans (Ent.take (a := some ⟨b, 0, none⟩)) ?_
    refine Ent.trans (Ent.cons (Ent.take (a := some ⟨p, 0, none⟩))) ?_
    refine Ent.trans (RCreO.close (w := w) (rs := rs) (rt := rtOf (m.at_ (x.root + s))) (d := false) { c with cnt := c.cnt + 1, slot := (s : Int), was := m.at_ (x.root + s), at_ := 2 } rfl rfl rfl rfl ?_ rfl rfl hd.symm rfl) (Ent.cons ?_)
    ·unfold CreS.rgen
     dsimp only
     rw [if_neg (by simp [hd]), if_neg (by simp [hd])]
    ·refine Ent.trans ?_ (Ent.cons hback)
     exact ent
   ·have e1 : crStep x.spare x.root cl m c = ({ c with cnt := c.cnt + 1, done := true }, m.put (x.root + c.slot.toNat) (nextRt cl c.was).w) := by unfold crStep; rw [hd, h0]; rfl
    have hs' := hs (by omega)
    have hs2 : c.slot < x.sl := hs'.2
    obtain ⟨s, hs1⟩ : ∃ s : Nat, c.slot = s := ⟨c.slot.toNat, by omega⟩
    have er : c.rslot = s := by unfold CreS.rslot; rw [if_neg (by omega), hs1]
    have hnk := nextRt_ok (cl := cl) hw hcl
    rw [e1, h0, er, hs1, Int.toNat_natCast]
    refine go ?_
    refine Sx.ca rfl (refLater (rtOf c.was).gen (rtOf_gen hw)) ?_
    rintro v L' ⟨rfl, rfl⟩
    refine go ?_
    refine Cx.ordc rfl kr_ ?_
    refine ge ?_
    refine Ev.cakH kr_ rfl rfl (refPutRoot (nextRt cl c.was) hnk) ?_
    refine ge ?_
    refine go ?_
    refine Cx.ordc rfl kr_ ?_
    refine ge ?_
    refine Ev.cakH kr_ rfl rfl (refRootAt hx s (by omega)) ?_
    refine ge ?_
    refine Ev.caH kr_ rfl rfl (refStore (rm := rm) (m := m) (x.root + s) (nextRt cl c.was).w (by omega) (Rt.w_lt hnk)) (Pres.deps kr_) ?_
    rintro v L' ⟨rfl, rfl⟩
    refine ge ?_
    refine go ?_
    refine Kr.one (.inr rfl) rfl ?_ ⟨rfl, rfl⟩
    refine Ent.trans (Ent.take (a := some ⟨b, 0, none⟩)) ?_
    refine Ent.trans (Ent.cons (Ent.take (a := some ⟨p, 0, none⟩))) ?_
    refine Ent.trans (RCreO.close (w := w) (rs := rs) (rt := rtOf c.was) (d := true) { c with at_ := 2, cnt := c.cnt + 1, slot := (s : Int), done := true } rfl rfl rfl rfl ?_ rfl rfl rfl rfl) (Ent.cons ?_)
    ·unfold CreS.rgen
     dsimp only
     rw [if_pos ⟨rfl, rfl⟩]
    ·refine Ent.trans ?_ (Ent.cons hback)
     exact ent
end
end Go.Proofs.YtflalhdofhobmaaGreat


namespace Go.Proofs.YtflalhdofhobmaaGreat
open Go
attribute [local irreducible] Sx Cx Rx Fx Krg Ksq Kbl Klp Kr
theorem itI_some {l : List Int} {i : Nat} (h : i < l.length) : (ints l)[i]? = some (.int .i64 (itI l i)) := by simp [ints, itI, h]
section
variable {L F G : St}
theorem Rd.pre {a : Option Addr} {n m : Nat} {vs : List Value} (h : Rd L 1 a n vs) (hm : m ≤ n) : Rd L 1 a m (vs.take m) := by
 obtain ⟨h1, h2⟩ := h
 refine ⟨by rw [List.length_take]; omega, ?_⟩
 rcases h2 with h0 | ⟨b, o, rfl, hh⟩
 ·left; omega
 ·right
  have := hh.sub (i := 0) (n := m)
  exact ⟨b, o, rfl, by simpa using this⟩
theorem Rd.get1 {a : Option Addr} {n i : Nat} {vs : List Value} {v : Value} (h : Rd L 1 a n vs) (hv : vs[i]? = some v) : ∃ b o, a = some ⟨b, o, none⟩ ∧ Has L b (o + i) [v] := by
 have hlt := (List.getElem?_eq_some_iff.1 hv).1
 obtain ⟨h1, h0 | ⟨b, o, rfl, h2⟩⟩ := h
 ·omega
 ·exact ⟨b, o, rfl, (h2.sub (i := i) (n := 1)).one (take_one hv)⟩
theorem sliceIndex {a : Option Addr} {n c : Nat} {xs : List Int} (x : Int) (hr : Rd L 1 a n (ints xs)) (hn : n ≤ 1000000000) :
  Fx Tryz.prog 269 [.slice a n c, .int .i64 x] L (fun v L' => (∃ i : Int, v = .int .i64 i ∧ (0 ≤ i ↔ x ∈ xs)) ∧ L = L') := by
 have hl : xs.length = n := by have := hr.1; simpa [ints] using this
 refine Fx.mk Tryz.func269 k269 nb_ ?_
 dsimp only [c269, envOf, Nat.reduceAdd]
 refine go ?_
 refine Cx.lp (α := {i : Nat // i ≤ n ∧ x ∉ xs.take i}) (fun i => [(0, .slice a n c), (1, .int .i64 x), (7, .int .i64 n), (8, .int .i64 i.1)]) (fun _ => L) (fun i => n - i.1) ⟨0, by omega, by simp⟩ (sub.cons rfl (sub.cons rfl (sub.cons rfl (sub.cons rfl sub.nil)))) (Ent.refl _) ?_
 rintro ⟨i, hi, hni⟩
 dsimp only
 refine go ?_
 refine Cx.ifp rfl (fun h => ?_) (fun h => ?_)
 ·have hv := itI_some (l := xs) (i := i) (by omega)
  obtain ⟨b, o, rfl, hh⟩ := hr.get1 hv
  refine go ?_
  refine Sx.pv rfl ⟨by omega, by omega⟩ ?_
  refine Sx.ld rfl (by simpa using hh) rfl ?_
  refine go ?_
  refine Cx.ifp rfl (fun e => ?_) (fun e => ?_)
  ·refine go ?_
   refine Kr.one (.inr rfl) rfl (Ent.refl _) ⟨⟨i, rfl, fun _ => ?_, fun _ => by omega⟩, rfl⟩
   rw [e]
   exact itI_mem (by omega)
  ·refine go ?_
   rw [w64 (by omega) (by omega)]
   refine Klp.nm ⟨i + 1, by omega, ?_⟩ (sub.cons rfl (sub.cons rfl (sub.cons rfl (sub.cons rfl sub.nil)))) (Ent.refl _) (by dsimp only; omega)
   rw [List.take_succ_eq_append_getElem (by omega), List.mem_append]
   rintro (h1 | h1)
   ·exact hni h1
   ·rw [List.mem_singleton] at h1
    exact e (h1.trans (by simp [itI, show i < xs.length by omega]))
 ·obtain rfl : i = n := by omega
  rw [← hl, List.take_length] at hni
  refine go ?_
  exact Kr.one (.inr rfl) rfl (Ent.refl _) ⟨⟨-1, rfl, by simp [hni]⟩, rfl⟩
theorem sliceContains {a : Option Addr} {n c : Nat} {xs : List Int} (x : Int) (hr : Rd L 1 a n (ints xs)) (hn : n ≤ 1000000000) :
  Fx Tryz.prog 265 [.slice a n c, .int .i64 x] L (fun v L' => v = .bool (decide (x ∈ xs)) ∧ L = L') := by
 refine Fx.mk Tryz.func265 k265 nb_ ?_
 dsimp only [c265, envOf, Nat.reduceAdd]
 refine go ?_
 refine Sx.ca rfl (sliceIndex (a := a) (n := n) (c := c) (xs := xs) x hr hn) ?_
 rintro v L' ⟨⟨i, rfl, hi⟩, rfl⟩
 refine go ?_
 exact Kr.one (.inr rfl) rfl (Ent.refl _) ⟨congrArg Value.bool (decide_eq_decide.2 hi), rfl⟩
def pushI (p : PushS) : Nat := min p.at_ (p.l.length - 1)
def pushFn (p : PushS) : FuncId := if p.at_ + 1 < p.l.length then 267 else if p.at_ + 1 = p.l.length then 266 else if p.at_ = p.l.length then 270 else 272
def pushNx (a : Option Addr) (p : PushS) : Value := bif p.done then .nilFunc else .func (.func (pushFn p)) #[.pointer a] #[]
def pushL (T : TypeId) (sb : Nat) (k : Sk) (p : PushS) (a : Option Addr) (y : (Option Addr × Nat) × Int) : St :=
 [lift (p.ok k), pt a (Blk T [pushNx a p, .nilFunc, .nilFunc, .nilFunc, .int .i64 y.2, .pointer (some ⟨sb, 0, none⟩), .slice y.1.1 p.l.length y.1.2, .int .i64 (pushI p : Nat), wd p.was]), pt y.1.1 (Row 3 1 p.l.length y.1.2 (ints p.l))]
def PushT (T : TypeId) (sb : Nat) (k : Sk) (p : PushS) (a : Option Addr) : As := exs (pushL T sb k p a)
abbrev PushO := PushT 296
theorem PushO.close {T : TypeId} {sb : Nat} {k : Sk} {a r : Option Addr} {c n : Nat} {cnt : Int} {v0 v1 v2 : Value} {w : List Value} {F G : St} (p : PushS) (hp : p.ok k)
  [t : Take L a (Blk T [v0, .nilFunc, .nilFunc, .nilFunc, .int .i64 cnt, .pointer (some ⟨sb, 0, none⟩), .slice r n c, v1, v2]) F] [u : Take F r (Row 3 1 n c w) G]
  (h0 : v0 = pushNx a p) (h1 : v1 = .int .i64 (pushI p : Nat)) (h2 : v2 = wd p.was) (hn : n = p.l.length) (hw : w = ints p.l) : Ent L (pt a (PushT T sb k p) :: G) := by
 subst h0; subst h1; subst h2; subst hn; subst hw
 refine Ent.trans (Ent.take1 (t := t) (Ent.of u.out)) ?_
 refine Ent.trans (Ent.lift hp (Ent.refl _)) ?_
 exact Ent.close (f := pushL T sb k p a) rfl ((r, c), cnt)
set_option maxHeartbeats 2000000 in
theorem stackPush {sb mp : Nat} {k : Sk} {a : Option Addr} {n c : Nat} {l : List Int} (hr : Rd L 1 a n (ints l)) (hc : n ≤ c) (hn : n ≤ 1000000000) [s : Take L (some ⟨sb, 0, none⟩) (SkO mp k) F] :
  Fx Tryz.prog 258 [.pointer (some ⟨sb, 0, none⟩), .slice a n c] L (fun v L' =>
   (¬ (l.Nodup ∧ ∀ x ∈ l, 0 ≤ x ∧ x < k.n) ∧ v = .tuple #[.pointer none, .int .i64 1] ∧ L = L') ∨
   ((l.Nodup ∧ ∀ x ∈ l, 0 ≤ x ∧ x < k.n) ∧ ∃ g, v = .tuple #[.pointer (some ⟨g, 0, none⟩), .int .i64 0] ∧ L' = pt (some ⟨g, 0, none⟩) (PushO sb k (PushS.init l)) :: L)) := by
 have hl : l.length = n := by have := hr.1; simpa [ints] using this
 refine Fx.mk Tryz.func258 k258 nb_ ?_
 dsimp only [c258, envOf, Nat.reduceAdd]
 refine go ?_
 refine Cx.lp (α := {i : Nat // i ≤ n ∧ (l.take i).Nodup ∧ ∀ x ∈ l.take i, 0 ≤ x ∧ x < k.n}) (fun i => [(0, .pointer (some ⟨sb, 0, none⟩)), (1, .slice a n c), (9, .slice a n c), (10, .int .i64 n), (11, .int .i64 i.1)]) (fun _ => L) (fun i => n - i.1)
  ⟨0, by omega, by simp, by simp⟩ (sub.cons rfl (sub.cons rfl (sub.cons rfl (sub.cons rfl (sub.cons rfl sub.nil))))) (Ent.refl _) ?_
 rintro ⟨i, hi, hnd, hrg⟩
 dsimp only
 refine go ?_
 refine Cx.ifp rfl (fun h => ?_) (fun h => ?_)
 ·have hv := itI_some (l := l) (i := i) (by omega)
  obtain ⟨b, o, rfl, hh⟩ := hr.get1 hv
  have hmem := itI_mem (l := l) (i := i) (by omega)
  have hbad : ∀ (hb : ¬ ((0 ≤ itI l i ∧ itI l i < k.n) ∧ itI l i ∉ l.take i)), ¬ (l.Nodup ∧ ∀ x ∈ l, 0 ≤ x ∧ x < k.n) := by
   rintro hb ⟨g1, g2⟩
   refine hb ⟨g2 _ hmem, fun hin => ?_⟩
   obtain ⟨j, hj, e⟩ := List.getElem_of_mem hin
   have hj' : j < i := by rw [List.length_take] at hj; omega
   rw [List.getElem_take] at e
   have e2 : itI l i = l[i]'(by omega) := by simp [itI, show i < l.length by omega]
   have := (List.getElem_inj g1).1 (e.trans e2)
   omega
  refine go ?_
  refine Sx.pv rfl ⟨by omega, by omega⟩ ?_
  refine Sx.ld rfl (by simpa using hh) rfl ?_
  refine go ?_
  refine Sx.ifp rfl (fun h1 => ?_) (fun h1 => ?_)
  ·refine go ?_
   exact Kr.two (.inr rfl) rfl rfl (Ent.refl _) (.inl ⟨hbad fun hg => by omega, rfl, rfl⟩)
  ·refine go ?_
   refine Sx.ifp rfl (fun h2 => ?_) (fun h2 => ?_)
   ·refine go ?_
    exact Kr.two (.inr rfl) rfl rfl (Ent.refl _) (.inl ⟨hbad fun hg => by omega, rfl, rfl⟩)
   ·refine go ?_
    refine Sx.pv rfl ⟨by omega, by omega⟩ ?_
    refine go ?_
    have hpre : Rd L 1 (some ⟨b, o, none⟩) (i : Int).toNat (ints (l.take i)) := by
     have := hr.pre (m := i) (by omega)
     rw [show (i : Int).toNat = i by omega]
     rwa [show (ints l).take i = ints (l.take i) by simp [ints]] at this
    refine Sx.ca rfl (sliceContains (xs := l.take i) (itI l i) hpre (by omega)) ?_
    rintro v L' ⟨rfl, rfl⟩
    refine go ?_
    refine Cx.ifp rfl (fun h3 => ?_) (fun h3 => ?_)
    ·refine go ?_
     exact Kr.two (.inr rfl) rfl rfl (Ent.refl _) (.inl ⟨hbad fun hg => hg.2 h3, rfl, rfl⟩)
    ·refine go ?_
     rw [w64 (by omega) (by omega)]
     have ht : l.take (i + 1) = l.take i ++ [itI l i] := by
      rw [List.take_succ_eq_append_getElem (by omega)]; simp [itI, show i < l.length by omega]
     refine Klp.nm ⟨i + 1, by omega, ?_, ?_⟩ (sub.cons rfl (sub.cons rfl (sub.cons rfl (sub.cons rfl (sub.cons rfl sub.nil))))) (Ent.refl _) (by dsimp only; omega)
     ·rw [ht, List.nodup_append]
      refine ⟨hnd, by simp, ?_⟩
      intro x hx y hy e
      rw [List.mem_singleton] at hy
      exact h3 (by rw [← hy, ← e]; exact hx)
     ·rw [ht]
      intro x hx
      rcases List.mem_append.1 hx with hx | hx
      ·exact hrg x hx
      ·rw [List.mem_singleton] at hx
       subst hx
       omega
 ·obtain rfl : i = n := by omega
  rw [← hl, List.take_length] at hnd hrg
  refine go ?_
  refine Sx.ca rfl (clone hr (ones_ints _) hn) ?_
  rintro v L' ⟨ra, ca, rfl, rfl⟩
  refine go ?_
  refine Sx.bx rfl rfl fun g => ?_
  refine go ?_
  have hok : (PushS.init l).ok k := PushS.ok_init hrg
  refine Cx.ifp rfl (fun h0 => ?_) (fun h0 => ?_)
  ·refine go ?_
   refine Kr.two (.inr rfl) rfl rfl ?_ (.inr ⟨⟨hnd, hrg⟩, g, rfl, rfl⟩)
   have hl0 : l = [] := List.length_eq_zero_iff.1 (by omega)
   refine Ent.trans (PushO.close (a := some ⟨g, 0, none⟩) (r := ra) (sb := sb) (k := k) (PushS.init l) hok ?_ ?_ rfl hl.symm rfl) ?_
   ·simp [pushNx, PushS.init, hl0]
   ·simp [pushI, PushS.init, hl0]
   ·exact ent
  ·refine go ?_
   refine Cx.ifp rfl (fun h1 => ?_) (fun h1 => ?_)
   ·refine go ?_
    refine Sx.ca rfl (machGo (b := g)) ?_
    rintro v L' ⟨rfl, rfl⟩
    refine go ?_
    refine Kr.two (.inr rfl) rfl rfl ?_ (.inr ⟨⟨hnd, hrg⟩, g, rfl, rfl⟩)
    have hl0 : l ≠ [] := fun e => by subst e; simp at hl; omega
    refine Ent.trans (PushO.close (a := some ⟨g, 0, none⟩) (r := ra) (sb := sb) (k := k) (PushS.init l) hok ?_ ?_ rfl hl.symm rfl) ?_
    ·simp [pushNx, pushFn, PushS.init, hl0, hl, show i = 1 by omega]
    ·simp [pushI, PushS.init]
    ·exact ent
   ·refine go ?_
    refine Sx.ca rfl (machGo (b := g)) ?_
    rintro v L' ⟨rfl, rfl⟩
    refine go ?_
    refine Kr.two (.inr rfl) rfl rfl ?_ (.inr ⟨⟨hnd, hrg⟩, g, rfl, rfl⟩)
    have hl0 : l ≠ [] := fun e => by subst e; simp at hl; omega
    refine Ent.trans (PushO.close (a := some ⟨g, 0, none⟩) (r := ra) (sb := sb) (k := k) (PushS.init l) hok ?_ ?_ rfl hl.symm rfl) ?_
    ·simp [pushNx, pushFn, PushS.init, hl0, hl, show 1 < i by omega]
    ·simp [pushI, PushS.init]
    ·exact ent
end
end Go.Proofs.YtflalhdofhobmaaGreat


namespace Go.Proofs.YtflalhdofhobmaaGreat
open Go
attribute [local irreducible] Sx Cx Rx Fx Krg Ksq Kbl Klp Kr
section
variable {L F G : St}
abbrev pushF (b sb mp : Nat) (k : Sk) (m : Mm) (p : PushS) (r : Option Addr) (c : Nat) (cnt : Int) (G : St) : St :=
 pt (some ⟨b, 0, none⟩) (Blk 296 [.nilFunc, .nilFunc, .nilFunc, .nilFunc, .int .i64 cnt, .pointer (some ⟨sb, 0, none⟩), .slice r p.l.length c, .int .i64 (pushI p : Nat), wd p.was]) ::
 pt r (Row 3 1 p.l.length c (ints p.l)) :: pt (some ⟨mp, 0, none⟩) (MemO m) :: pt (some ⟨sb, 0, none⟩) (SkO mp k) :: G
abbrev pushR (b sb mp : Nat) (k : Sk) (m : Mm) (p : PushS) (G : St) (v : Value) (L' : St) : Prop :=
 L' = pt (some ⟨b, 0, none⟩) (PushO sb k (pushStep k m p).1) :: pt (some ⟨mp, 0, none⟩) (MemO (pushStep k m p).2) :: pt (some ⟨sb, 0, none⟩) (SkO mp k) :: G
theorem wrapS {x : Int} (h1 : 0 ≤ x) (h2 : x ≤ 9223372036854775807) : IntKind.u64.wrap (IntKind.i64.wrap x) = ((x.toNat : Nat) : Int) := by
 rw [w64 (by omega) h2, wu64 h1 (by omega)]; omega
theorem push_link_ {b sb mp : Nat} {k : Sk} {m : Mm} {p : PushS} {r : Option Addr} {c : Nat} {cnt : Int} (hm : m.ok) (hk : k.ok m.ws.length) (hp : p.ok k) (ha : p.at_ + 1 < p.l.length) (hd : p.done = false) :
  Fx Tryz.prog 267 [.pointer (some ⟨b, 0, none⟩)] (pushF b sb mp k m p r c cnt G) (pushR b sb mp k m p G) := by
 have hok := pushStep_ok (k := k) hm hp
 have e : pushStep k m p = ({ p with at_ := p.at_ + 1 }, m.put (k.links + (itI p.l p.at_).toNat) (itI p.l (p.at_ + 1) + 1).toNat) := by
  unfold pushStep; rw [hd]; simp only [Bool.false_eq_true, if_false]; rw [if_pos ha]
 have hI : pushI p = p.at_ := by unfold pushI; omega
 have hv1 := itI_some (l := p.l) (i := p.at_) (by omega)
 have hv2 := itI_some (l := p.l) (i := p.at_ + 1) (by omega)
 have hr1 := hp.g _ (itI_mem (l := p.l) (i := p.at_) (by omega))
 have hr2 := hp.g _ (itI_mem (l := p.l) (i := p.at_ + 1) (by omega))
 obtain ⟨k1, k2, k3, k4, k5, k6⟩ := hk
 obtain ⟨x, hx⟩ : ∃ x : Nat, itI p.l p.at_ = x := ⟨(itI p.l p.at_).toNat, by omega⟩
 obtain ⟨y, hy⟩ : ∃ y : Nat, itI p.l (p.at_ + 1) = y := ⟨(itI p.l (p.at_ + 1)).toNat, by omega⟩
 have e' : pushStep k m p = ({ p with at_ := p.at_ + 1 }, m.put (k.links + x) (y + 1)) := by rw [e, hx, hy]; rfl
 rw [hx] at hr1 hv1
 rw [hy] at hr2 hv2
 refine Fx.mk Tryz.func267 k267 nb_ ?_
 dsimp only [c267, envOf, Nat.reduceAdd]
 unfold pushF
 rw [hI]
 refine Cx.rowkey (a := r) fun hxl hc1 hc2 hkr => ?_
 have hc3 : c ≤ 18446744073709551616 := by have := hc2; unfold maxLen at this; omega
 obtain ⟨rg, rfl⟩ : ∃ g, r = some ⟨g, 0, none⟩ := by
  rcases hkr with h | h
  ·omega
  ·exact h
 have hlm : p.l.length ≤ 9223372036854775807 := by unfold maxLen at hc2; omega
 refine go ?_
 refine Cx.ordc rfl kr_ ?_
 refine ge ?_
 refine Ev.ldrH (b := rg) kr_ rfl rfl (v := .int .i64 (x : Nat)) (by rw [show 0 + ((p.at_ : Int)).toNat * 1 = p.at_ by omega]; exact hv1) ?_
 refine ge ?_
 rw [w64 (n := (p.at_ : Int) + 1) (by omega) (by omega)]
 refine Ev.pvH kr_ rfl rfl ⟨by omega, by omega⟩ ?_
 refine Ev.ldrH (b := rg) kr_ rfl rfl (v := .int .i64 (y : Nat)) (by rw [show 0 + ((p.at_ : Int) + 1).toNat * 1 = p.at_ + 1 by omega]; exact hv2) ?_
 refine ge ?_
 rw [w64 (n := (k.links : Int) + x) (by omega) (by omega), show (k.links : Int) + x = ((k.links + x : Nat) : Int) by omega, wrapS (x := (y : Int) + 1) (by omega) (by omega), show ((y : Int) + 1).toNat = y + 1 by omega]
 refine Ev.caH kr_ rfl rfl (cellsStore (b := mp) (m := m) (k.links + x) (y + 1) (by omega) (by omega)) (Pres.deps kr_) ?_
 rintro v L' ⟨rfl, rfl⟩
 refine ge ?_
 refine go ?_
 rw [w64 (n := (p.at_ : Int) + 1) (by omega) (by omega)]
 refine go ?_
 refine Cx.ordc rfl kr_ ?_
 refine ge ?_
 rw [w64 (n := (p.l.length : Int) - 1) (by omega) (by omega)]
 rw [e'] at hok
 have hI2 : pushI { p with at_ := p.at_ + 1 } = p.at_ + 1 := by unfold pushI; dsimp only; omega
 refine Cx.ifp rfl (fun h => ?_) (fun h => ?_)
 ·refine go ?_
  refine Sx.ca rfl (machGo (b := b)) ?_
  rintro v L' ⟨rfl, rfl⟩
  refine go ?_
  refine Kr.none (.inl rfl) ?_ rfl
  rw [e']
  refine Ent.trans (PushO.close (a := some ⟨b, 0, none⟩) (r := some ⟨rg, 0, none⟩) (sb := sb) (k := k) _ hok ?_ ?_ rfl rfl rfl) ?_
  ·simp [pushNx, pushFn, hd, show p.at_ + 1 + 1 < p.l.length by omega]
  ·rw [hI2]; rfl
  ·exact ent
 ·refine go ?_
  refine Sx.ca rfl (machGo (b := b)) ?_
  rintro v L' ⟨rfl, rfl⟩
  refine go ?_
  refine Kr.none (.inl rfl) ?_ rfl
  rw [e']
  refine Ent.trans (PushO.close (a := some ⟨b, 0, none⟩) (r := some ⟨rg, 0, none⟩) (sb := sb) (k := k) _ hok ?_ ?_ rfl rfl rfl) ?_
  ·simp [pushNx, pushFn, hd, show ¬ p.at_ + 1 + 1 < p.l.length by omega, show p.at_ + 1 + 1 = p.l.length by omega]
  ·rw [hI2]; rfl
  ·exact ent
theorem push_load_ {b sb mp : Nat} {k : Sk} {m : Mm} {p : PushS} {r : Option Addr} {c : Nat} {cnt : Int} (hm : m.ok) (hk : k.ok m.ws.length) (hp : p.ok k) (ha : p.at_ + 1 = p.l.length) (hd : p.done = false) :
  Fx Tryz.prog 266 [.pointer (some ⟨b, 0, none⟩)] (pushF b sb mp k m p r c cnt G) (pushR b sb mp k m p G) := by
 have hok := pushStep_ok (k := k) hm hp
 have e : pushStep k m p = ({ p with at_ := p.at_ + 1, was := m.at_ k.head }, m.tick) := by
  unfold pushStep; rw [hd]; simp only [Bool.false_eq_true, if_false]; rw [if_neg (by omega), if_pos ha]
 rw [e] at hok
 have hI : pushI p = p.at_ := by unfold pushI; omega
 obtain ⟨k1, k2, k3, k4, k5, k6⟩ := hk
 refine Fx.mk Tryz.func266 k266 nb_ ?_
 dsimp only [c266, envOf, Nat.reduceAdd]
 unfold pushF
 rw [hI]
 refine go ?_
 refine Cx.ordc rfl kr_ ?_
 refine ge ?_
 refine Ev.caH kr_ rfl rfl (cellsLoad (b := mp) (m := m) k.head k3) (Pres.deps kr_) ?_
 rintro v L' ⟨rfl, rfl⟩
 refine ge ?_
 refine Ev.stbH (b := b) kr_ rfl rfl rfl rfl rfl (by rfl) rfl (Pres.deps kr_) ?_
 refine ge ?_
 refine go ?_
 refine Sx.ca rfl (machGo (b := b)) ?_
 rintro v L' ⟨rfl, rfl⟩
 refine go ?_
 refine Kr.none (.inl rfl) ?_ rfl
 rw [e]
 refine Ent.trans (PushO.close (a := some ⟨b, 0, none⟩) (r := r) (sb := sb) (k := k) _ hok ?_ ?_ rfl rfl rfl) ?_
 ·simp [pushNx, pushFn, hd, ha]
 ·rw [show pushI { p with at_ := p.at_ + 1, was := m.at_ k.head } = p.at_ by unfold pushI; dsimp only; omega]
 ·exact ent
theorem push_last_ {b sb mp : Nat} {k : Sk} {m : Mm} {p : PushS} {r : Option Addr} {c : Nat} {cnt : Int} (hm : m.ok) (hk : k.ok m.ws.length) (hp : p.ok k) (ha : p.at_ = p.l.length) (hd : p.done = false) :
  Fx Tryz.prog 270 [.pointer (some ⟨b, 0, none⟩)] (pushF b sb mp k m p r c cnt G) (pushR b sb mp k m p G) := by
 have hok := pushStep_ok (k := k) hm hp
 have hlp := List.length_pos_iff.2 (hp.ne hd)
 have hv1 := itI_some (l := p.l) (i := p.l.length - 1) (by omega)
 have hr1 := hp.g _ (itI_mem (l := p.l) (i := p.l.length - 1) (by omega))
 have ht1 := k.top_ge p.was
 have ht2 := k.top_lt p.was
 obtain ⟨k1, k2, k3, k4, k5, k6⟩ := hk
 obtain ⟨x, hx⟩ : ∃ x : Nat, itI p.l (p.l.length - 1) = x := ⟨(itI p.l (p.l.length - 1)).toNat, by omega⟩
 have e : pushStep k m p = ({ p with at_ := p.at_ + 1 }, m.put (k.links + x) (k.top p.was + 1).toNat) := by
  unfold pushStep; rw [hd]; simp only [Bool.false_eq_true, if_false]; rw [if_neg (by omega), if_neg (by omega), if_pos ha, hx]; rfl
 rw [e] at hok
 rw [hx] at hr1 hv1
 have hI : pushI p = p.l.length - 1 := by unfold pushI; omega
 refine Fx.mk Tryz.func270 k270 nb_ ?_
 dsimp only [c270, envOf, Nat.reduceAdd]
 unfold pushF
 rw [hI]
 refine Cx.rowkey (a := r) fun hxl hc1 hc2 hkr => ?_
 obtain ⟨rg, rfl⟩ : ∃ g, r = some ⟨g, 0, none⟩ := by
  rcases hkr with h | h
  ·omega
  ·exact h
 have hlm : p.l.length ≤ 9223372036854775807 := by unfold maxLen at hc2; omega
 refine go ?_
 refine Cx.ordc rfl kr_ ?_
 refine ge ?_
 rw [w64 (n := (p.l.length : Int) - 1) (by omega) (by omega)]
 refine Ev.pvH kr_ rfl rfl ⟨by omega, by omega⟩ ?_
 refine Ev.ldrH (b := rg) kr_ rfl rfl (v := .int .i64 (x : Nat)) (by rw [show 0 + ((p.l.length : Int) - 1).toNat * 1 = p.l.length - 1 by omega]; exact hv1) ?_
 refine ge ?_
 refine Ev.cakH kr_ rfl rfl (stackTop (sb := sb) (mp := mp) (k := k) p.was hp.w) ?_
 refine ge ?_
 rw [w64 (n := (k.links : Int) + x) (by omega) (by omega), show (k.links : Int) + x = ((k.links + x : Nat) : Int) by omega, wrapS (x := k.top p.was + 1) (by omega) (by omega)]
 refine Ev.caH kr_ rfl rfl (cellsStore (b := mp) (m := m) (k.links + x) (k.top p.was + 1).toNat (by omega) (by omega)) (Pres.deps kr_) ?_
 rintro v L' ⟨rfl, rfl⟩
 refine ge ?_
 refine go ?_
 refine Sx.ca rfl (machGo (b := b)) ?_
 rintro v L' ⟨rfl, rfl⟩
 refine go ?_
 refine Kr.none (.inl rfl) ?_ rfl
 rw [e]
 refine Ent.trans (PushO.close (a := some ⟨b, 0, none⟩) (r := some ⟨rg, 0, none⟩) (sb := sb) (k := k) _ hok ?_ ?_ rfl rfl rfl) ?_
 ·(unfold pushNx pushFn; dsimp only; rw [hd]; (first | rw [if_pos (by omega)] | rw [if_neg (by omega), if_pos (by omega)] | rw [if_neg (by omega), if_neg (by omega), if_pos (by omega)] | rw [if_neg (by omega), if_neg (by omega), if_neg (by omega)]); rfl)
 ·rw [show pushI { p with at_ := p.at_ + 1 } = p.l.length - 1 by unfold pushI; dsimp only; omega]
 ·exact ent
theorem push_cas_ {b sb mp : Nat} {k : Sk} {m : Mm} {p : PushS} {r : Option Addr} {c : Nat} {cnt : Int} (hm : m.ok) (hk : k.ok m.ws.length) (hp : p.ok k) (ha : p.at_ = p.l.length + 1) (hd : p.done = false) :
  Fx Tryz.prog 272 [.pointer (some ⟨b, 0, none⟩)] (pushF b sb mp k m p r c cnt G) (pushR b sb mp k m p G) := by
 have hok := pushStep_ok (k := k) hm hp
 have hlp := List.length_pos_iff.2 (hp.ne hd)
 have hv1 := itI_some (l := p.l) (i := 0) (by omega)
 have hr1 := hp.g _ (itI_mem (l := p.l) (i := 0) (by omega))
 have e : pushStep k m p = ({ p with at_ := p.l.length - 1, done := decide (m.at_ k.head = p.was) }, m.cas k.head p.was (nextW p.was (itI p.l 0))) := by
  unfold pushStep; rw [hd]; simp only [Bool.false_eq_true, if_false]; rw [if_neg (by omega), if_neg (by omega), if_neg (by omega)]
 rw [e] at hok
 have hI : pushI p = p.l.length - 1 := by unfold pushI; omega
 refine Fx.mk Tryz.func272 k272 nb_ ?_
 dsimp only [c272, envOf, Nat.reduceAdd]
 unfold pushF
 rw [hI]
 refine Cx.rowkey (a := r) fun hxl hc1 hc2 hkr => ?_
 obtain ⟨rg, rfl⟩ : ∃ g, r = some ⟨g, 0, none⟩ := by
  rcases hkr with h | h
  ·omega
  ·exact h
 refine go ?_
 refine Cx.ordc rfl kr_ ?_
 refine ge ?_
 refine Ev.ldrH (b := rg) kr_ rfl rfl (v := .int .i64 (itI p.l 0)) hv1 ?_
 refine ge ?_
 refine Ev.caH kr_ rfl rfl (stackExchange (sb := sb) (mp := mp) (k := k) (m := m) p.was (itI p.l 0) hk hp.w (by omega) hr1.2) (Pres.deps kr_) ?_
 rintro v L' ⟨rfl, rfl⟩
 refine ge ?_
 have hI2 : ∀ d, pushI { p with at_ := p.l.length - 1, done := d } = p.l.length - 1 := fun d => by unfold pushI; dsimp only; omega
 refine Cx.ifn rfl (fun h => ?_) (fun h => ?_)
 ·rw [decide_eq_false h] at e hok
  refine go ?_
  refine Sx.ca rfl (machGo (b := b)) ?_
  rintro v L' ⟨rfl, rfl⟩
  refine go ?_
  refine Kr.none (.inl rfl) ?_ rfl
  rw [e]
  refine Ent.trans (PushO.close (a := some ⟨b, 0, none⟩) (r := some ⟨rg, 0, none⟩) (sb := sb) (k := k) _ hok ?_ ?_ rfl rfl rfl) ?_
  ·simp [pushNx, pushFn, show ¬ p.l.length - 1 + 1 < p.l.length by omega, show p.l.length - 1 + 1 = p.l.length by omega]
  ·rw [hI2]
  ·exact ent
 ·rw [decide_eq_true h] at e hok
  refine go ?_
  refine Kr.none (.inl rfl) ?_ rfl
  rw [e]
  refine Ent.trans (PushO.close (a := some ⟨b, 0, none⟩) (r := some ⟨rg, 0, none⟩) (sb := sb) (k := k) _ hok ?_ ?_ rfl rfl rfl) ?_
  ·simp [pushNx]
  ·rw [hI2]
  ·exact ent
theorem pushStepC {b sb mp : Nat} {k : Sk} {m : Mm} {p : PushS} {F1 F2 : St} (hk : k.ok m.ws.length) [tp : Take L (some ⟨b, 0, none⟩) (PushO sb k p) F1] [t : Take F1 (some ⟨mp, 0, none⟩) (MemO m) F2] [s : Take F2 (some ⟨sb, 0, none⟩) (SkO mp k) G] :
  Fx Tryz.prog 239 [.pointer (some ⟨b, 0, none⟩)] L (fun v L' => v = .bool (!p.done) ∧ L' = pt (some ⟨b, 0, none⟩) (PushO sb k (pushStep k m p).1) :: pt (some ⟨mp, 0, none⟩) (MemO (pushStep k m p).2) :: F2) := by
 refine Fx.mk Tryz.func239 k239 nb_ ?_
 dsimp only [c239, envOf, Nat.reduceAdd]
 refine Cx.ent (Ent.trans (Ent.of tp.out) (Ent.cons (Ent.trans (Ent.of t.out) (Ent.cons (Ent.of s.out))))) ?_
 refine Cx.pure (memKey (b := mp) (m := m)) fun hm => ?_
 refine Cx.openp (a := some ⟨b, 0, none⟩) rfl ?_
 rintro ⟨⟨r, c⟩, cnt⟩
 simp only [pushL, List.cons_append, List.nil_append]
 refine Cx.liftp fun hp => ?_
 cases hd : p.done with
 | true =>
   have e : pushStep k m p = (p, m) := by unfold pushStep; rw [hd]; rfl
   rw [e, show pushNx (some ⟨b, 0, none⟩) p = .nilFunc by simp [pushNx, hd]]
   refine go ?_
   refine Sx.ca rfl (machStepDone (b := b)) ?_
   rintro v L' ⟨rfl, rfl⟩
   refine go ?_
   refine Kr.one (.inr rfl) rfl ?_ ⟨rfl, rfl⟩
   refine Ent.trans (PushO.close (a := some ⟨b, 0, none⟩) (r := r) (sb := sb) (k := k) p hp ?_ rfl rfl rfl rfl) (Ent.cons (Ent.cons (Ent.of s.back)))
   simp [pushNx, hd]
 | false =>
   have hcase := hp.a
   rcases (show p.at_ + 1 < p.l.length ∨ p.at_ + 1 = p.l.length ∨ p.at_ = p.l.length ∨ p.at_ = p.l.length + 1 by omega) with ha | ha | ha | ha
   ·rw [show pushNx (some ⟨b, 0, none⟩) p = .func (.func 267) #[.pointer (some ⟨b, 0, none⟩)] #[] by (unfold pushNx pushFn; rw [hd]; (first | rw [if_pos (by omega)] | rw [if_neg (by omega), if_pos (by omega)] | rw [if_neg (by omega), if_neg (by omega), if_pos (by omega)] | rw [if_neg (by omega), if_neg (by omega), if_neg (by omega)]); rfl)]
    refine go ?_
    refine Sx.ca rfl (machStep (b := b) kr_ (push_link_ (G := G) hm.1 hk hp ha hd)) ?_
    rintro v L' ⟨rfl, u, rfl⟩
    refine go ?_
    exact Kr.one (.inr rfl) rfl (Ent.cons (Ent.cons (Ent.of s.back))) ⟨rfl, rfl⟩
   ·rw [show pushNx (some ⟨b, 0, none⟩) p = .func (.func 266) #[.pointer (some ⟨b, 0, none⟩)] #[] by (unfold pushNx pushFn; rw [hd]; (first | rw [if_pos (by omega)] | rw [if_neg (by omega), if_pos (by omega)] | rw [if_neg (by omega), if_neg (by omega), if_pos (by omega)] | rw [if_neg (by omega), if_neg (by omega), if_neg (by omega)]); rfl)]
    refine go ?_
    refine Sx.ca rfl (machStep (b := b) kr_ (push_load_ (G := G) hm.1 hk hp ha hd)) ?_
    rintro v L' ⟨rfl, u, rfl⟩
    refine go ?_
    exact Kr.one (.inr rfl) rfl (Ent.cons (Ent.cons (Ent.of s.back))) ⟨rfl, rfl⟩
   ·rw [show pushNx (some ⟨b, 0, none⟩) p = .func (.func 270) #[.pointer (some ⟨b, 0, none⟩)] #[] by (unfold pushNx pushFn; rw [hd]; (first | rw [if_pos (by omega)] | rw [if_neg (by omega), if_pos (by omega)] | rw [if_neg (by omega), if_neg (by omega), if_pos (by omega)] | rw [if_neg (by omega), if_neg (by omega), if_neg (by omega)]); rfl)]
    refine go ?_
    refine Sx.ca rfl (machStep (b := b) kr_ (push_last_ (G := G) hm.1 hk hp ha hd)) ?_
    rintro v L' ⟨rfl, u, rfl⟩
    refine go ?_
    exact Kr.one (.inr rfl) rfl (Ent.cons (Ent.cons (Ent.of s.back))) ⟨rfl, rfl⟩
   ·rw [show pushNx (some ⟨b, 0, none⟩) p = .func (.func 272) #[.pointer (some ⟨b, 0, none⟩)] #[] by (unfold pushNx pushFn; rw [hd]; (first | rw [if_pos (by omega)] | rw [if_neg (by omega), if_pos (by omega)] | rw [if_neg (by omega), if_neg (by omega), if_pos (by omega)] | rw [if_neg (by omega), if_neg (by omega), if_neg (by omega)]); rfl)]
    refine go ?_
    refine Sx.ca rfl (machStep (b := b) kr_ (push_cas_ (G := G) hm.1 hk hp ha hd)) ?_
    rintro v L' ⟨rfl, u, rfl⟩
    refine go ?_
    exact Kr.one (.inr rfl) rfl (Ent.cons (Ent.cons (Ent.of s.back))) ⟨rfl, rfl⟩
theorem pushDoneC {b sb : Nat} {k : Sk} {p : PushS} {F1 : St} [tp : Take L (some ⟨b, 0, none⟩) (PushO sb k p) F1] : Fx Tryz.prog 240 [.pointer (some ⟨b, 0, none⟩)] L (fun v L' => v = .bool p.done ∧ L = L') := by
 refine Fx.kept (t := tp) ?_
 refine Fx.mk Tryz.func240 k240 nb_ ?_
 dsimp only [c240, envOf, Nat.reduceAdd]
 refine Cx.openp (t := tp) rfl ?_
 rintro ⟨⟨r, c⟩, cnt⟩
 simp only [pushL, List.cons_append, List.nil_append]
 refine Cx.liftp fun hp => ?_
 cases hd : p.done with
 | true =>
   have e : pushNx (some ⟨b, 0, none⟩) p = .nilFunc := by simp [pushNx, hd]
   rw [e]
   refine go ?_
   refine Sx.ca rfl (machDoneYes (b := b)) ?_
   rintro v L' ⟨rfl, rfl⟩
   refine go ?_
   exact Kr.one (.inr rfl) rfl (PushO.close (a := some ⟨b, 0, none⟩) (r := r) (sb := sb) (k := k) p hp e.symm rfl rfl rfl rfl) ⟨rfl, rfl⟩
 | false =>
   have e : pushNx (some ⟨b, 0, none⟩) p = .func (.func (pushFn p)) #[.pointer (some ⟨b, 0, none⟩)] #[] := by simp [pushNx, hd]
   rw [e]
   refine go ?_
   refine Sx.ca rfl (machDoneNo (b := b)) ?_
   rintro v L' ⟨rfl, rfl⟩
   refine go ?_
   exact Kr.one (.inr rfl) rfl (PushO.close (a := some ⟨b, 0, none⟩) (r := r) (sb := sb) (k := k) p hp e.symm rfl rfl rfl rfl) ⟨rfl, rfl⟩
end
end Go.Proofs.YtflalhdofhobmaaGreat


namespace Go.Proofs.YtflalhdofhobmaaGreat
open Go
attribute [local irreducible] Sx Cx Rx Fx Krg Ksq Kbl Klp Kr
section
variable {L F G : St}
theorem stashTakeI {b : Nat} {most : Int} (xs : List Int) {F : St} [t : Take L (some ⟨b, 0, none⟩) (StashO most xs) F] (hb : xs.length ≤ 1000000000) :
  Fx Tryz.prog 248 [.pointer (some ⟨b, 0, none⟩)] L (fun v L' => v = .tuple #[.int .i64 (lastI xs), .bool (decide (xs ≠ []))] ∧ L' = pt (some ⟨b, 0, none⟩) (StashO most xs.dropLast) :: F) := by
 rcases List.eq_nil_or_concat xs with rfl | ⟨ys, x, rfl⟩
 ·exact stashTakeNone
 ·rw [List.concat_eq_append] at t hb ⊢
  refine (stashTakeSome (t := t) (by simp at hb; omega)).mono ?_
  rintro v L' ⟨rfl, rfl⟩
  simp [lastI]
def supL (T : TypeId) (mp pb : Nat) (x : Cn) (s : SupS) (a : Option Addr) (y : Nat × Nat) : St :=
 [pt a (Blk T (.pointer (some ⟨mp, 0, none⟩) :: x.l ++ [.pointer (some ⟨pb, 0, none⟩), .pointer (some ⟨y.1, 0, none⟩), .pointer (some ⟨y.2, 0, none⟩)])), pt (some ⟨y.1, 0, none⟩) (StashO s.most s.xs), pt (some ⟨y.2, 0, none⟩) (LimboO s.lm)]
def SupT (T : TypeId) (mp pb : Nat) (x : Cn) (s : SupS) (a : Option Addr) : As := exs (supL T mp pb x s a)
abbrev SupO := SupT 195
theorem SupO.close {T : TypeId} {mp pb sh lm : Nat} {x : Cn} {a : Option Addr} {m : Int} {xs : List Int} {l : Lm} {F0 F1 G : St} (s : SupS)
  [t : Take L a (Blk T (.pointer (some ⟨mp, 0, none⟩) :: x.l ++ [.pointer (some ⟨pb, 0, none⟩), .pointer (some ⟨sh, 0, none⟩), .pointer (some ⟨lm, 0, none⟩)])) F0] [u : Take F0 (some ⟨sh, 0, none⟩) (StashO m xs) F1] [q : Take F1 (some ⟨lm, 0, none⟩) (LimboO l) G]
  (hm : m = s.most) (hx : xs = s.xs) (hl : l = s.lm) : Ent L (pt a (SupT T mp pb x s) :: G) := by
 subst hm; subst hx; subst hl
 refine Ent.trans (Ent.take1 (t := t) (Ent.trans (Ent.of u.out) (Ent.cons (Ent.of q.out)))) ?_
 exact Ent.close (f := supL T mp pb x s a) rfl (sh, lm)
theorem supNew {mp : Nat} {m : Mm} {x : Cn} (hx : x.ok) (hl : x.len ≤ m.ws.length) [t : Take L (some ⟨mp, 0, none⟩) (MemO m) F] :
  Fx Tryz.prog 75 [.pointer (some ⟨mp, 0, none⟩), x.v] L (fun v L' => ∃ u pb, v = .tuple #[.pointer (some ⟨u, 0, none⟩), .int .i64 0] ∧ L' = pt (some ⟨u, 0, none⟩) (SupO mp pb x (SupS.nil x.ca)) :: pt (some ⟨pb, 0, none⟩) (SkO mp x.pool) :: L) := by
 refine Fx.mk Tryz.func75 k75 nb_ ?_
 dsimp only [c75, envOf, Nat.reduceAdd]
 refine Cx.sq ?_
 refine Cx.rg ?_
 refine Sx.bx rfl rfl fun g => ?_
 refine go ?_
 refine Sx.ca rfl (chainNew (mp := mp) (m := m) hx hl) ?_
 rintro v L' ⟨c, pb, rfl, rfl⟩
 refine go ?_
 refine Cx.ordc rfl kr_ ?_
 refine ge ?_
 refine Ev.cakH kr_ rfl rfl (chainPool (g := c) (mp := mp) (sb := pb) (x := x)) ?_
 refine ge ?_
 refine Ev.caH kr_ rfl rfl (stashNew (x.ca : Int)) (.dep rfl (.dep rfl (.keep (fun v L' ⟨_, _, e⟩ => by subst e; exact Has.blk) .nil))) ?_
 rintro v L' ⟨sh, rfl, rfl⟩
 refine ge ?_
 refine Ev.caH kr_ rfl rfl limboNew (.dep rfl (.dep rfl (.keep (fun v L' ⟨_, _, e⟩ => by subst e; exact Has.blk) .nil))) ?_
 rintro v L' ⟨lm, rfl, rfl⟩
 refine ge ?_
 refine Ev.bxH kr_ rfl rfl rfl (Pres.deps kr_) fun u => ?_
 refine ge ?_
 refine go ?_
 refine Kr.two (.inr rfl) rfl rfl ?_ ⟨u, pb, rfl, rfl⟩
 refine Ent.trans (SupO.close (a := some ⟨u, 0, none⟩) (sh := sh) (lm := lm) (mp := mp) (pb := pb) (x := x) (SupS.nil x.ca) rfl rfl rfl) ?_
 refine Ent.cons ?_
 exact ent
theorem supStash {u mp pb : Nat} {x : Cn} {s : SupS} {F : St} [t : Take L (some ⟨u, 0, none⟩) (SupO mp pb x s) F] (hb : s.xs.length ≤ 1000000000) : Fx Tryz.prog 44 [.pointer (some ⟨u, 0, none⟩)] L (fun v L' => ∃ a c, v = .slice a s.xs.length c ∧ L' = pt a (Row 3 1 s.xs.length c (ints s.xs)) :: pt (some ⟨u, 0, none⟩) (SupO mp pb x s) :: F) := by
 refine Fx.mk Tryz.func44 k44 nb_ ?_
 dsimp only [c44, envOf, Nat.reduceAdd]
 refine Cx.openp (t := t) rfl ?_
 rintro ⟨sh, lm⟩
 simp only [supL, List.cons_append, List.nil_append]
 refine go ?_
 refine Sx.ca rfl (stashList (b := sh) hb) ?_
 rintro v L' ⟨a, c, rfl, rfl⟩
 refine go ?_
 exact Kr.one (.inr rfl) rfl (Ent.cons (SupO.close (a := some ⟨u, 0, none⟩) (sh := sh) (lm := lm) (mp := mp) (pb := pb) (x := x) s rfl rfl rfl)) ⟨a, c, rfl, rfl⟩
theorem supPut {u mp pb : Nat} {x : Cn} {s : SupS} {F : St} [t : Take L (some ⟨u, 0, none⟩) (SupO mp pb x s) F] {ys : List Int} {ya : Option Addr} {m c : Nat} (hr : Rd F 1 ya m (ints ys)) (hb : s.xs.length + m ≤ 1000000000) :
  Fx Tryz.prog 206 [.pointer (some ⟨u, 0, none⟩), .slice ya m c] L (fun v L' => v = .tuple #[] ∧ L' = pt (some ⟨u, 0, none⟩) (SupO mp pb x (s.give ys)) :: F) := by
 refine Fx.mk Tryz.func206 k206 nb_ ?_
 dsimp only [c206, envOf, Nat.reduceAdd]
 refine Cx.openp (t := t) rfl ?_
 rintro ⟨sh, lm⟩
 simp only [supL, List.cons_append, List.nil_append]
 refine go ?_
 refine Sx.ca rfl (stashGive (b := sh) (hr.ent (by repeat (first | exact Ent.refl _ | (refine Ent.trans Ent.drop ?_)))) hb) ?_
 rintro v L' ⟨rfl, rfl⟩
 refine go ?_
 exact Kr.none (.inl rfl) (SupO.close (a := some ⟨u, 0, none⟩) (sh := sh) (lm := lm) (mp := mp) (pb := pb) (x := x) (s.give ys) rfl rfl rfl) ⟨rfl, rfl⟩
theorem supReady {u mp pb : Nat} {x : Cn} {s : SupS} {F : St} [t : Take L (some ⟨u, 0, none⟩) (SupO mp pb x s) F] {now : Int} (hb : s.lm.size ≤ 100000000) (hx : s.xs.length ≤ 100000000) (hn : now ≤ 9223372036854775807) :
  Fx Tryz.prog 67 [.pointer (some ⟨u, 0, none⟩), .int .i64 now] L (fun v L' => v = .int .i64 (readyAll now s.lm).1.length ∧ L' = pt (some ⟨u, 0, none⟩) (SupO mp pb x (s.ready now)) :: F) := by
 have hz := size_ready now s.lm
 refine Fx.mk Tryz.func67 k67 nb_ ?_
 dsimp only [c67, envOf, Nat.reduceAdd]
 refine Cx.openp (t := t) rfl ?_
 rintro ⟨sh, lm⟩
 simp only [supL, List.cons_append, List.nil_append]
 refine go ?_
 refine Sx.ca rfl (limboReady (b := lm) (m := s.lm) (now := now) hb hn) ?_
 rintro v L' ⟨ro, co, rfl, rfl⟩
 refine Sx.rowkey (a := ro) fun hx0 hn0 _ hk0 => ?_
 refine go ?_
 refine Sx.ca rfl (stashGive (b := sh) (Rd.any (a := ro) hx0 (hk0.imp (fun h => h.2.1) id)) (by omega)) ?_
 rintro v L' ⟨rfl, rfl⟩
 refine go ?_
 refine Kr.one (.inr rfl) rfl (Ent.trans (SupO.close (a := some ⟨u, 0, none⟩) (sh := sh) (lm := lm) (mp := mp) (pb := pb) (x := x) (s.ready now) rfl rfl rfl) ?_) ⟨rfl, rfl⟩
 exact ent
end
end Go.Proofs.YtflalhdofhobmaaGreat


namespace Go.Proofs.YtflalhdofhobmaaGreat
open Go
attribute [local irreducible] Sx Cx Rx Fx Krg Ksq Kbl Klp Kr
section
variable {L F G : St}
abbrev tkB (b u : Nat) (nx n1 n2 n3 : Value) (cnt : Int) (pp : Value) (chunk seen : Int) (is_ : Bool) : As :=
 pt (some ⟨b, 0, none⟩) (Blk 274 [nx, n1, n2, n3, .int .i64 cnt, .pointer (some ⟨u, 0, none⟩), pp, .int .i64 chunk, .int .i64 seen, .bool is_])
def takeDL (T : TypeId) (u : Nat) (t : TakeS) (a : Option Addr) (y : Value × Value × Value × Value × Int) : St :=
 [pt a (Blk T [.nilFunc, y.1, y.2.1, y.2.2.1, .int .i64 y.2.2.2.2, .pointer (some ⟨u, 0, none⟩), y.2.2.2.1, .int .i64 t.chunk, .int .i64 t.seen, .bool t.is_])]
def takeLL (T : TypeId) (u : Nat) (t : TakeS) (a : Option Addr) (y : Value × Value × Value × Value × Int) : St :=
 [pt a (Blk T [.func (.func 218) #[.pointer a] #[], y.1, y.2.1, y.2.2.1, .int .i64 y.2.2.2.2, .pointer (some ⟨u, 0, none⟩), y.2.2.2.1, .int .i64 t.chunk, .int .i64 t.seen, .bool t.is_])]
def takePL (T : TypeId) (u pb : Nat) (k : Sk) (t : TakeS) (a : Option Addr) (y : Nat × Int) : St :=
 [pt a (Blk T [.func (.func 232) #[.pointer a] #[], mth 163 y.1, mth 164 y.1, .func (.func 249) #[.pointer a] #[], .int .i64 y.2, .pointer (some ⟨u, 0, none⟩), .pointer (some ⟨y.1, 0, none⟩), .int .i64 t.chunk, .int .i64 t.seen, .bool t.is_]),
  pt (some ⟨y.1, 0, none⟩) (PopO pb k t.q)]
def TakeT (T : TypeId) (u pb : Nat) (k : Sk) (t : TakeS) (a : Option Addr) : As := bif t.done then exs (takeDL T u t a) else bif Nat.beq t.at_ 0 then exs (takeLL T u t a) else exs (takePL T u pb k t a)
abbrev TakeO := TakeT 274
theorem TakeO.d {T : TypeId} {u pb : Nat} {k : Sk} {t : TakeS} {a : Option Addr} (h : t.done = true) : TakeT T u pb k t a = exs (takeDL T u t a) := by unfold TakeT; rw [h]; rfl
theorem TakeO.l {T : TypeId} {u pb : Nat} {k : Sk} {t : TakeS} {a : Option Addr} (h : t.done = false) (h0 : t.at_ = 0) : TakeT T u pb k t a = exs (takeLL T u t a) := by unfold TakeT; rw [h, h0]; rfl
theorem TakeO.p {T : TypeId} {u pb : Nat} {k : Sk} {t : TakeS} {a : Option Addr} (h : t.done = false) (h0 : t.at_ ≠ 0) : TakeT T u pb k t a = exs (takePL T u pb k t a) := by
 unfold TakeT
 have : Nat.beq t.at_ 0 = false := by
  cases hb : Nat.beq t.at_ 0 with
  | false => rfl
  | true => exact absurd (Nat.eq_of_beq_eq_true hb) h0
 rw [h, this]; rfl
theorem TakeO.closeD {b u pb : Nat} {k : Sk} (t : TakeS) (h : t.done = true) {n1 n2 n3 pp : Value} {cnt chunk seen : Int} {is_ : Bool} (hc : chunk = t.chunk) (hs : seen = t.seen) (hi : is_ = t.is_) : Ent (tkB b u .nilFunc n1 n2 n3 cnt pp chunk seen is_ :: G) (pt (some ⟨b, 0, none⟩) (TakeO u pb k t) :: G) := by
 subst hc; subst hs; subst hi
 exact Ent.close (f := takeDL 274 u t (some ⟨b, 0, none⟩)) (TakeO.d h) (n1, n2, n3, pp, cnt)
theorem TakeO.closeL {b u pb : Nat} {k : Sk} (t : TakeS) (h : t.done = false) (h0 : t.at_ = 0) {n1 n2 n3 pp : Value} {cnt chunk seen : Int} {is_ : Bool} (hc : chunk = t.chunk) (hs : seen = t.seen) (hi : is_ = t.is_) :
  Ent (tkB b u (mth 218 b) n1 n2 n3 cnt pp chunk seen is_ :: G) (pt (some ⟨b, 0, none⟩) (TakeO u pb k t) :: G) := by
 subst hc; subst hs; subst hi
 exact Ent.close (f := takeLL 274 u t (some ⟨b, 0, none⟩)) (TakeO.l h h0) (n1, n2, n3, pp, cnt)
theorem TakeO.closeP {b u pb p : Nat} {k : Sk} (t : TakeS) (h : t.done = false) (h0 : t.at_ ≠ 0) {cnt chunk seen : Int} {is_ : Bool} {q : PopS} (hc : chunk = t.chunk) (hs : seen = t.seen) (hi : is_ = t.is_) (hq : q = t.q) :
  Ent (tkB b u (mth 232 b) (mth 163 p) (mth 164 p) (mth 249 b) cnt (.pointer (some ⟨p, 0, none⟩)) chunk seen is_ :: pt (some ⟨p, 0, none⟩) (PopO pb k q) :: G) (pt (some ⟨b, 0, none⟩) (TakeO u pb k t) :: G) := by
 subst hc; subst hs; subst hi; subst hq
 exact Ent.close (f := takePL 274 u pb k t (some ⟨b, 0, none⟩)) (TakeO.p h h0) (p, cnt)
abbrev tkV (u : Nat) (nx n1 n2 n3 : Value) (cnt : Int) (pp : Value) (chunk seen : Int) (is_ : Bool) : Option Addr → As :=
 Blk 274 [nx, n1, n2, n3, .int .i64 cnt, .pointer (some ⟨u, 0, none⟩), pp, .int .i64 chunk, .int .i64 seen, .bool is_]
theorem takeKept {b u mp pb : Nat} {x : Cn} {s : SupS} {nx n1 n2 n3 pp : Value} {cnt chunk seen : Int} {is_ : Bool} {F1 : St} (hb : s.xs.length ≤ 1000000000) [t1 : Take L (some ⟨b, 0, none⟩) (tkV u nx n1 n2 n3 cnt pp chunk seen is_) F1] [t2 : Take F1 (some ⟨u, 0, none⟩) (SupO mp pb x s) G] :
  Fx Tryz.prog 216 [.pointer (some ⟨b, 0, none⟩)] L
   (fun v L' => v = .bool (decide (s.xs ≠ [])) ∧ L' = tkB b u nx n1 n2 n3 cnt pp (lastI s.xs) seen (decide (s.xs ≠ [])) :: pt (some ⟨u, 0, none⟩) (SupO mp pb x s.kept) :: G) := by
 refine Fx.mk Tryz.func216 k216 nb_ ?_
 dsimp only [c216, envOf, Nat.reduceAdd]
 refine Cx.ent (Ent.trans (Ent.of t1.out) (Ent.cons (Ent.of t2.out))) ?_
 refine Cx.openp (a := some ⟨u, 0, none⟩) rfl ?_
 rintro ⟨sh, lm⟩
 simp only [supL, List.cons_append, List.nil_append]
 refine go ?_
 refine Sx.ca rfl (stashTakeI (b := sh) s.xs hb) ?_
 rintro v L' ⟨rfl, rfl⟩
 refine go ?_
 refine Kr.one (.inr rfl) rfl ?_ ⟨rfl, rfl⟩
 refine Ent.cons ?_
 exact SupO.close (a := some ⟨u, 0, none⟩) (sh := sh) (lm := lm) (mp := mp) (pb := pb) (x := x) s.kept rfl rfl rfl
theorem takeAsk {b u mp pb : Nat} {x : Cn} {s : SupS} {n1 n2 n3 pp : Value} {cnt chunk seen : Int} {is_ : Bool} {F1 : St} (hx : x.ok) [t1 : Take L (some ⟨b, 0, none⟩) (tkV u .nilFunc n1 n2 n3 cnt pp chunk seen is_) F1] [t2 : Take F1 (some ⟨u, 0, none⟩) (SupO mp pb x s) G] :
  Fx Tryz.prog 219 [.pointer (some ⟨b, 0, none⟩)] L
   (fun v L' => L' = pt (some ⟨b, 0, none⟩) (TakeO u pb x.pool ⟨1, chunk, is_, seen, PopS.init x.ba, false⟩) :: pt (some ⟨u, 0, none⟩) (SupO mp pb x s) :: G) := by
 refine Fx.mk Tryz.func219 k219 nb_ ?_
 dsimp only [c219, envOf, Nat.reduceAdd]
 refine Cx.ent (Ent.trans (Ent.of t1.out) (Ent.cons (Ent.of t2.out))) ?_
 refine Cx.openp (a := some ⟨u, 0, none⟩) rfl ?_
 rintro ⟨sh, lm⟩
 simp only [supL, List.cons_append, List.nil_append]
 refine go ?_
 refine Cx.ordc rfl kr_ ?_
 refine ge ?_
 refine Ev.caH kr_ rfl rfl (stackPop (sb := pb) (k := x.pool) (x.ba : Int) (by have := hx.2.1; show 1 ≤ x.c; omega)) (Pres.deps kr_) ?_
 rintro v L' ⟨p, rfl, rfl⟩
 refine ge ?_
 refine Ev.stbH (b := b) kr_ rfl rfl rfl rfl rfl (by rfl) rfl (Pres.deps kr_) ?_
 refine ge ?_
 refine Cx.orde rfl kr_ ?_
 refine ge ?_
 refine Ev.caH kr_ rfl rfl (machThrough (b := b) (machOnNo (b := b) kr_ (popDoneC (b := p) (sb := pb) (k := x.pool) (q := PopS.init x.ba)))) (Pres.deps kr_) ?_
 rintro v L' ⟨rfl, w, rfl, rfl⟩
 refine ge ?_
 refine Kr.none (.inl rfl) ?_ rfl
 refine Ent.trans (Ent.cons ?_) (TakeO.closeP (p := p) ⟨1, chunk, is_, seen, PopS.init x.ba, false⟩ rfl (by simp) rfl rfl rfl rfl)
 refine Ent.cons ?_
 exact SupO.close (a := some ⟨u, 0, none⟩) (sh := sh) (lm := lm) (mp := mp) (pb := pb) (x := x) s rfl rfl rfl
theorem epochCut (w : Nat) (hw : w < 18446744073709551616) : Fx Tryz.prog 233 [wd w] L (fun v L' => v = .int .i64 (cutE w) ∧ L = L') := by
 refine Fx.mk Tryz.func233 k233 nb_ ?_
 dsimp only [c233, envOf, Nat.reduceAdd]
 refine go ?_
 refine Kr.one (.inr rfl) rfl (Ent.refl _) ⟨congrArg (Value.int .i64) ?_, rfl⟩
 rw [cond_false]
 unfold cutE
 refine Eq.trans (congrArg IntKind.i64.wrap (show _ = min (w : Int) 4611686018427387903 by split <;> omega)) ?_
 exact w64 (by omega) (by omega)
theorem takeLook {b u mp pb : Nat} {x : Cn} {s : SupS} {m : Mm} {t : TakeS} {n1 n2 n3 pp : Value} {cnt : Int} {F1 F2 : St} (hx : x.ok) (hm : m.ok) (hl : 2 < m.ws.length) (hd : t.done = false) (h0 : t.at_ = 0) (hi : t.chunk = 0 ∧ t.is_ = false)
  (hb : s.xs.length + s.lm.size ≤ 1000000) [t1 : Take L (some ⟨b, 0, none⟩) (tkV u .nilFunc n1 n2 n3 cnt pp t.chunk t.seen t.is_) F1] [t2 : Take F1 (some ⟨u, 0, none⟩) (SupO mp pb x s) F2] [t3 : Take F2 (some ⟨mp, 0, none⟩) (MemO m) G] :
  Fx Tryz.prog 218 [.pointer (some ⟨b, 0, none⟩)] L
   (fun v L' => L' = pt (some ⟨b, 0, none⟩) (TakeO u pb x.pool (takeStep x.pool x.ba m s t).2.2) :: pt (some ⟨u, 0, none⟩) (SupO mp pb x (takeStep x.pool x.ba m s t).2.1) :: pt (some ⟨mp, 0, none⟩) (MemO (takeStep x.pool x.ba m s t).1) :: G) := by
 have hlt := Mm.at_lt hm 2
 have hz := size_ready (cutE (m.at_ 2)) s.lm
 have hcut : cutE (m.at_ 2) ≤ 9223372036854775807 := by unfold cutE; omega
 refine Fx.mk Tryz.func218 k218 nb_ ?_
 dsimp only [c218, envOf, Nat.reduceAdd]
 refine Cx.ent (Ent.trans (Ent.of t1.out) (Ent.cons (Ent.trans (Ent.of t2.out) (Ent.cons (Ent.of t3.out))))) ?_
 refine Cx.openp (a := some ⟨u, 0, none⟩) rfl ?_
 rintro ⟨sh, lm⟩
 simp only [supL, List.cons_append, List.nil_append]
 refine go ?_
 refine Sx.ca rfl (cellsLoad (b := mp) (m := m) 2 hl) ?_
 rintro v L' ⟨rfl, rfl⟩
 refine go ?_
 refine Sx.ca rfl (epochCut (m.at_ 2) hlt) ?_
 rintro v L' ⟨rfl, rfl⟩
 refine go ?_
 refine Cx.ent (SupO.close (a := some ⟨u, 0, none⟩) (sh := sh) (lm := lm) (mp := mp) (pb := pb) (x := x) s rfl rfl rfl) ?_
 refine Cx.ordc rfl kr_ ?_
 refine ge ?_
 refine Ev.caH kr_ rfl rfl (supReady (u := u) (mp := mp) (pb := pb) (x := x) (s := s) (now := cutE (m.at_ 2)) (by omega) (by omega) hcut) (Pres.deps kr_) ?_
 rintro v L' ⟨rfl, rfl⟩
 refine ge ?_
 refine go ?_
 have hrl : (s.ready (cutE (m.at_ 2))).xs.length ≤ 1000000000 := by simp only [SupS.ready, List.length_append]; omega
 refine Sx.ca rfl (takeKept (b := b) (u := u) (mp := mp) (pb := pb) (x := x) (s := s.ready (cutE (m.at_ 2))) hrl) ?_
 rintro v L' ⟨rfl, rfl⟩
 by_cases hxs : (s.ready (cutE (m.at_ 2))).xs = []
 ·have e : takeStep x.pool x.ba m s t = (m.tick, s.ready (cutE (m.at_ 2)), ⟨1, 0, false, cutE (m.at_ 2), PopS.init x.ba, false⟩) := by
   unfold takeStep
   rw [hd, h0]
   simp only [Bool.false_eq_true, if_false, keepT, if_pos hxs, hi.1, hi.2]
  have hk : (s.ready (cutE (m.at_ 2))).kept = s.ready (cutE (m.at_ 2)) := by unfold SupS.kept; rw [hxs]; simp only [List.dropLast_nil]; rw [← hxs]
  rw [e, decide_eq_false (fun h : (s.ready (cutE (m.at_ 2))).xs ≠ [] => h hxs), hk, hxs]
  refine go ?_
  refine Sx.ca rfl (takeAsk (b := b) (u := u) (mp := mp) (pb := pb) (x := x) (s := s.ready (cutE (m.at_ 2))) hx) ?_
  rintro v L' rfl
  refine go ?_
  exact Kr.none (.inl rfl) (Ent.refl _) rfl
 ·have e : takeStep x.pool x.ba m s t = (m.tick, (s.ready (cutE (m.at_ 2))).kept, ⟨0, lastI (s.ready (cutE (m.at_ 2))).xs, true, cutE (m.at_ 2), t.q, true⟩) := by
   unfold takeStep
   rw [hd, h0]
   simp only [Bool.false_eq_true, if_false, keepT, if_neg hxs]
  rw [e, decide_eq_true (show (s.ready (cutE (m.at_ 2))).xs ≠ [] from hxs)]
  refine go ?_
  exact Kr.none (.inl rfl) (TakeO.closeD _ rfl rfl rfl rfl) rfl
theorem takePopped {b u mp pb p : Nat} {x : Cn} {s : SupS} {t : TakeS} {n1 n2 n3 : Value} {cnt : Int} {F1 F2 : St} {k : Sk} (hq : t.q.done = true) (hi : t.is_ = false) (hb : s.xs.length ≤ 1000000)
  [t1 : Take L (some ⟨b, 0, none⟩) (tkV u .nilFunc n1 n2 n3 cnt (.pointer (some ⟨p, 0, none⟩)) t.chunk t.seen t.is_) F1] [t2 : Take F1 (some ⟨u, 0, none⟩) (SupO mp pb x s) F2] [t3 : Take F2 (some ⟨p, 0, none⟩) (PopO pb k t.q) G] :
  Fx Tryz.prog 249 [.pointer (some ⟨b, 0, none⟩)] L
   (fun v L' => L' = pt (some ⟨b, 0, none⟩) (TakeO u pb k (popped s t).2) :: pt (some ⟨u, 0, none⟩) (SupO mp pb x (popped s t).1) :: G) := by
 refine Fx.mk Tryz.func249 k249 nb_ ?_
 dsimp only [c249, envOf, Nat.reduceAdd]
 refine Cx.ent (Ent.trans (Ent.of t1.out) (Ent.cons (Ent.trans (Ent.of t2.out) (Ent.cons (Ent.of t3.out))))) ?_
 have hlen : ∀ h, holds (tkB b u .nilFunc n1 n2 n3 cnt (.pointer (some ⟨p, 0, none⟩)) t.chunk t.seen t.is_ :: pt (some ⟨u, 0, none⟩) (SupO mp pb x s) :: pt (some ⟨p, 0, none⟩) (PopO pb k t.q) :: G) h → t.q.got.length ≤ 8 := by
  intro h hh
  have h1 := (inferInstance : Take (tkB b u .nilFunc n1 n2 n3 cnt (.pointer (some ⟨p, 0, none⟩)) t.chunk t.seen t.is_ :: pt (some ⟨u, 0, none⟩) (SupO mp pb x s) :: pt (some ⟨p, 0, none⟩) (PopO pb k t.q) :: G) (some ⟨p, 0, none⟩) (PopO pb k t.q) _).out h hh
  obtain ⟨y, hy⟩ := holds_ex.1 h1
  exact (holds_lift.1 hy).1.len
 refine Cx.pure hlen fun h8 => ?_
 refine go ?_
 refine Sx.ca rfl (popGot (b := p) (sb := pb) (k := k) (q := t.q) hq) ?_
 rintro v L' ⟨ro, co, rfl, rfl⟩
 refine go ?_
 cases hg : t.q.got with
 | nil =>
   have e : popped s t = (s, { t with done := true }) := by unfold popped; rw [hg]
   rw [e]
   refine go ?_
   refine Kr.none (.inl rfl) ?_ rfl
   refine Ent.trans ?_ (TakeO.closeD (n1 := n1) (n2 := n2) (n3 := n3) (cnt := cnt) (pp := .pointer (some ⟨p, 0, none⟩)) { t with done := true } rfl rfl rfl rfl)
   exact ent
 | cons y l =>
   have e : popped s t = (s.give l, { t with chunk := y, is_ := true, done := true }) := by unfold popped; rw [hg]
   rw [e]
   rw [hg] at h8
   simp only [List.length_cons] at h8 ⊢
   refine Cx.cyes rfl (decide_eq_true (by omega)) ?_
   refine Cx.rowkey (a := ro) fun hx0 hn0 hc0 hk0 => ?_
   obtain ⟨rg, rfl⟩ : ∃ g, ro = some ⟨g, 0, none⟩ := by
    rcases hk0 with h | h
    ·omega
    ·exact h
   refine go ?_
   refine Sx.pv rfl ⟨by omega, by omega⟩ ?_
   refine Sx.ldr (b := rg) rfl (v := .int .i64 y) rfl ?_
   refine go ?_
   refine Cx.orde rfl kr_ ?_
   refine ge ?_
   refine Ev.caH kr_ rfl rfl (supPut (u := u) (mp := mp) (pb := pb) (x := x) (s := s) (ys := l) (Rd.suffix_ (g := rg) (i := 1) hx0 hn0 (by omega)) (by omega)) (Pres.deps kr_) ?_
   rintro v L' ⟨rfl, rfl⟩
   refine ge ?_
   refine Kr.none (.inl rfl) ?_ rfl
   refine Ent.trans ?_ (TakeO.closeD (n1 := n1) (n2 := n2) (n3 := n3) (cnt := cnt) (pp := .pointer (some ⟨p, 0, none⟩)) { t with chunk := y, is_ := true, done := true } rfl rfl rfl rfl)
   exact ent
structure TakeS.ok (t : TakeS) : Prop where
 a : t.at_ ≤ 1
 i : t.done = false → t.chunk = 0 ∧ t.is_ = false
theorem takeStepC {b u mp pb : Nat} {x : Cn} {s : SupS} {m : Mm} {t : TakeS} {F1 F2 F3 : St} (hx : x.ok) (hl : x.len ≤ m.ws.length) (ht : t.ok) (hb : s.xs.length + s.lm.size ≤ 1000000)
  [t1 : Take L (some ⟨b, 0, none⟩) (TakeO u pb x.pool t) F1] [t2 : Take F1 (some ⟨u, 0, none⟩) (SupO mp pb x s) F2] [t3 : Take F2 (some ⟨mp, 0, none⟩) (MemO m) F3] [t4 : Take F3 (some ⟨pb, 0, none⟩) (SkO mp x.pool) G] :
  Fx Tryz.prog 159 [.pointer (some ⟨b, 0, none⟩)] L
   (fun v L' => v = .bool (!t.done) ∧ L' = pt (some ⟨b, 0, none⟩) (TakeO u pb x.pool (takeStep x.pool x.ba m s t).2.2) :: pt (some ⟨u, 0, none⟩) (SupO mp pb x (takeStep x.pool x.ba m s t).2.1) :: pt (some ⟨mp, 0, none⟩) (MemO (takeStep x.pool x.ba m s t).1) :: F3) := by
 have hl3 : 3 ≤ x.len := by unfold Cn.len; omega
 refine Fx.mk Tryz.func159 k159 nb_ ?_
 dsimp only [c159, envOf, Nat.reduceAdd]
 refine Cx.ent (Ent.trans (Ent.of t1.out) (Ent.cons (Ent.trans (Ent.of t2.out) (Ent.cons (Ent.trans (Ent.of t3.out) (Ent.cons (Ent.of t4.out))))))) ?_
 refine Cx.pure (memKey (b := mp) (m := m)) fun hm => ?_
 cases hd : t.done with
 | true =>
   have e : takeStep x.pool x.ba m s t = (m, s, t) := by unfold takeStep; rw [hd]; rfl
   rw [e]
   refine Cx.openp (a := some ⟨b, 0, none⟩) (TakeO.d hd) ?_
   rintro ⟨n1, n2, n3, pp, cnt⟩
   simp only [takeDL, List.cons_append, List.nil_append]
   refine go ?_
   refine Sx.ca rfl (machStepDone (b := b)) ?_
   rintro v L' ⟨rfl, rfl⟩
   refine go ?_
   exact Kr.one (.inr rfl) rfl (Ent.trans (TakeO.closeD t hd rfl rfl rfl) (Ent.cons (Ent.cons (Ent.cons (Ent.of t4.back))))) ⟨rfl, rfl⟩
 | false =>
   have ha := ht.a
   rcases (show t.at_ = 0 ∨ t.at_ = 1 by omega) with h0 | h0
   ·refine Cx.openp (a := some ⟨b, 0, none⟩) (TakeO.l hd h0) ?_
    rintro ⟨n1, n2, n3, pp, cnt⟩
    simp only [takeLL, List.cons_append, List.nil_append]
    refine go ?_
    refine Sx.ca rfl (machStep (b := b) kr_ (takeLook (b := b) (u := u) (mp := mp) (pb := pb) (x := x) (s := s) (m := m) (t := t) hx hm.1 (by omega) hd h0 (ht.i hd) hb)) ?_
    rintro v L' ⟨rfl, w, rfl⟩
    refine go ?_
    exact Kr.one (.inr rfl) rfl (Ent.cons (Ent.cons (Ent.cons (Ent.of t4.back)))) ⟨rfl, rfl⟩
   ·refine Cx.openp (a := some ⟨b, 0, none⟩) (TakeO.p hd (by omega)) ?_
    rintro ⟨p, cnt⟩
    simp only [takePL, List.cons_append, List.nil_append]
    have hk := hx.pool (n := m.ws.length) hl hm.2
    cases hq : (popStep x.pool m t.q).1.done with
    | true =>
      have e : takeStep x.pool x.ba m s t = ((popStep x.pool m t.q).2, popped s { t with q := (popStep x.pool m t.q).1 }) := by
       unfold takeStep
       rw [hd, h0]
       simp only [Bool.false_eq_true, if_false, hq, if_true]
      rw [e]
      refine go ?_
      refine Sx.ca rfl (machStep (b := b) kr_ (machGoes (b := b) kr_ (popStepC (b := p) (mp := mp) (sb := pb) (k := x.pool) (m := m) (q := t.q) hk) (R2 := fun v L' => v = .tuple #[] ∧ ∃ w : Value, L' = pt (some ⟨b, 0, none⟩) (TakeO u pb x.pool (popped s { t with q := (popStep x.pool m t.q).1 }).2) :: pt (some ⟨u, 0, none⟩) (SupO mp pb x (popped s { t with q := (popStep x.pool m t.q).1 }).1) :: pt (some ⟨mp, 0, none⟩) (MemO (popStep x.pool m t.q).2) :: pt (some ⟨pb, 0, none⟩) (SkO mp x.pool) :: G) ?_)) ?_
      ·rintro v L1 ⟨rfl, rfl⟩
       have hon := machOnYes (b := b) kr_ (fd := 164) (ft := 249) (w := .pointer (some ⟨p, 0, none⟩)) (u := .pointer (some ⟨b, 0, none⟩)) (L := pt (some ⟨p, 0, none⟩) (PopO pb x.pool (popStep x.pool m t.q).1) :: pt (some ⟨mp, 0, none⟩) (MemO (popStep x.pool m t.q).2) :: tkB b u .nilFunc (mth 163 p) (mth 164 p) (mth 249 b) (IntKind.i64.wrap (cnt + 1)) (.pointer (some ⟨p, 0, none⟩)) t.chunk t.seen t.is_ :: pt (some ⟨u, 0, none⟩) (SupO mp pb x s) :: pt (some ⟨pb, 0, none⟩) (SkO mp x.pool) :: G)
        ((popDoneC (b := p) (sb := pb) (k := x.pool) (q := (popStep x.pool m t.q).1)).mono (by rintro v L' ⟨rfl, rfl⟩; exact ⟨by rw [hq], rfl⟩)) kr_
        (takePopped (b := b) (u := u) (mp := mp) (pb := pb) (p := p) (x := x) (s := s) (t := { t with q := (popStep x.pool m t.q).1 }) (k := x.pool) hq (ht.i hd).2 (by omega))
       refine hon.mono ?_
       rintro v L' ⟨rfl, w, rfl⟩
       exact ⟨rfl, w, rfl⟩
      ·rintro v L' ⟨rfl, w, _, w2, _, w3, rfl⟩
       refine go ?_
       exact Kr.one (.inr rfl) rfl (Ent.cons (Ent.cons (Ent.cons (Ent.of t4.back)))) ⟨rfl, rfl⟩
    | false =>
      have e : takeStep x.pool x.ba m s t = ((popStep x.pool m t.q).2, s, { t with q := (popStep x.pool m t.q).1 }) := by
       unfold takeStep
       rw [hd, h0]
       simp only [Bool.false_eq_true, if_false, hq]
      rw [e]
      refine go ?_
      refine Sx.ca rfl (machStep (b := b) kr_ (machGoes (b := b) kr_ (popStepC (b := p) (mp := mp) (sb := pb) (k := x.pool) (m := m) (q := t.q) hk) (R2 := fun v L' => v = .tuple #[] ∧ L' = tkB b u (mth 232 b) (mth 163 p) (mth 164 p) (mth 249 b) (IntKind.i64.wrap (cnt + 1)) (.pointer (some ⟨p, 0, none⟩)) t.chunk t.seen t.is_ ::
       pt (some ⟨p, 0, none⟩) (PopO pb x.pool (popStep x.pool m t.q).1) :: pt (some ⟨mp, 0, none⟩) (MemO (popStep x.pool m t.q).2) :: pt (some ⟨u, 0, none⟩) (SupO mp pb x s) :: pt (some ⟨pb, 0, none⟩) (SkO mp x.pool) :: G) ?_)) ?_
      ·rintro v L1 ⟨rfl, rfl⟩
       have hon := machOnNo (b := b) kr_ (fd := 164) (w := .pointer (some ⟨p, 0, none⟩)) (L := pt (some ⟨p, 0, none⟩) (PopO pb x.pool (popStep x.pool m t.q).1) :: pt (some ⟨mp, 0, none⟩) (MemO (popStep x.pool m t.q).2) :: tkB b u .nilFunc (mth 163 p) (mth 164 p) (mth 249 b) (IntKind.i64.wrap (cnt + 1)) (.pointer (some ⟨p, 0, none⟩)) t.chunk t.seen t.is_ :: pt (some ⟨u, 0, none⟩) (SupO mp pb x s) :: pt (some ⟨pb, 0, none⟩) (SkO mp x.pool) :: G)
        ((popDoneC (b := p) (sb := pb) (k := x.pool) (q := (popStep x.pool m t.q).1)).mono (by rintro v L' ⟨rfl, rfl⟩; exact ⟨by rw [hq], rfl⟩))
       refine hon.mono ?_
       rintro v L' ⟨rfl, rfl⟩
       exact ⟨rfl, rfl⟩
      ·rintro v L' ⟨rfl, w, _, w2, _, rfl⟩
       refine go ?_
       refine Kr.one (.inr rfl) rfl ?_ ⟨rfl, rfl⟩
       refine Ent.trans (TakeO.closeP (p := p) { t with q := (popStep x.pool m t.q).1 } hd (by dsimp only; omega) rfl rfl rfl rfl) ?_
       refine Ent.cons ?_
       refine Ent.trans ?_ (Ent.cons (Ent.cons (Ent.of t4.back)))
       exact ent
theorem takeStep_ok {k : Sk} {ba : Int} {m : Mm} {s : SupS} {t : TakeS} (h : t.ok) : (takeStep k ba m s t).2.2.ok := by
 unfold takeStep
 split
 ·exact h
 ·rename_i hd
  have hd' : t.done = false := by simpa using hd
  have hi := h.i hd'
  split
  ·unfold keepT
   dsimp only
   split
   ·rename_i hr
    split at hr
    ·cases hr
    ·cases hr; exact ⟨by show t.at_ ≤ 1; exact h.a, fun h => by cases h⟩
   ·exact ⟨by simp, fun _ => ⟨hi.1, hi.2⟩⟩
  ·dsimp only
   split
   ·unfold popped
    split
    ·exact ⟨h.a, fun h => by cases h⟩
    ·exact ⟨h.a, fun h => by cases h⟩
   ·exact ⟨h.a, fun _ => hi⟩
theorem takeInit_ok {ba : Int} {s : SupS} : (takeInit ba s).2.ok := by
 unfold takeInit keepT
 split
 ·rename_i r hr
  split at hr
  ·cases hr
  ·cases hr; exact ⟨by simp [TakeS.none_], fun h => by cases h⟩
 ·split
  ·exact ⟨by simp [TakeS.none_], fun _ => ⟨rfl, rfl⟩⟩
  ·exact ⟨by simp, fun _ => ⟨rfl, rfl⟩⟩
theorem takeDone {b u pb : Nat} {k : Sk} {t : TakeS} {F1 : St} (ht : t.ok) [t1 : Take L (some ⟨b, 0, none⟩) (TakeO u pb k t) F1] : Fx Tryz.prog 160 [.pointer (some ⟨b, 0, none⟩)] L (fun v L' => v = .bool t.done ∧ L = L') := by
 refine Fx.kept (t := t1) ?_
 refine Fx.mk Tryz.func160 k160 nb_ ?_
 dsimp only [c160, envOf, Nat.reduceAdd]
 refine Cx.ent (Ent.of t1.out) ?_
 cases hd : t.done with
 | true =>
   refine Cx.openp (a := some ⟨b, 0, none⟩) (TakeO.d hd) ?_
   rintro ⟨n1, n2, n3, pp, cnt⟩
   simp only [takeDL, List.cons_append, List.nil_append]
   refine go ?_
   refine Sx.ca rfl (machDoneYes (b := b)) ?_
   rintro v L' ⟨rfl, rfl⟩
   refine go ?_
   exact Kr.one (.inr rfl) rfl (TakeO.closeD t hd rfl rfl rfl) ⟨rfl, rfl⟩
 | false =>
   have ha := ht.a
   rcases (show t.at_ = 0 ∨ t.at_ = 1 by omega) with h0 | h0
   ·refine Cx.openp (a := some ⟨b, 0, none⟩) (TakeO.l hd h0) ?_
    rintro ⟨n1, n2, n3, pp, cnt⟩
    simp only [takeLL, List.cons_append, List.nil_append]
    refine go ?_
    refine Sx.ca rfl (machDoneNo (b := b)) ?_
    rintro v L' ⟨rfl, rfl⟩
    refine go ?_
    exact Kr.one (.inr rfl) rfl (TakeO.closeL t hd h0 rfl rfl rfl) ⟨rfl, rfl⟩
   ·refine Cx.openp (a := some ⟨b, 0, none⟩) (TakeO.p hd (by omega)) ?_
    rintro ⟨p, cnt⟩
    simp only [takePL, List.cons_append, List.nil_append]
    refine go ?_
    refine Sx.ca rfl (machDoneNo (b := b)) ?_
    rintro v L' ⟨rfl, rfl⟩
    refine go ?_
    exact Kr.one (.inr rfl) rfl (TakeO.closeP (p := p) t hd (by omega) rfl rfl rfl rfl) ⟨rfl, rfl⟩
theorem takeChunk {b u pb : Nat} {k : Sk} {t : TakeS} {F1 : St} (ht : t.ok) [t1 : Take L (some ⟨b, 0, none⟩) (TakeO u pb k t) F1] : Fx Tryz.prog 220 [.pointer (some ⟨b, 0, none⟩)] L (fun v L' => v = .tuple #[.int .i64 t.chunk, .bool t.is_] ∧ L = L') := by
 refine Fx.kept (t := t1) ?_
 refine Fx.mk Tryz.func220 k220 nb_ ?_
 dsimp only [c220, envOf, Nat.reduceAdd]
 refine Cx.ent (Ent.of t1.out) ?_
 refine go ?_
 refine Sx.ca rfl (takeDone (b := b) (u := u) (pb := pb) (k := k) (t := t) ht) ?_
 rintro v L' ⟨rfl, rfl⟩
 cases hd : t.done with
 | false =>
   refine go ?_
   exact Kr.two (.inr rfl) rfl rfl (Ent.refl _) ⟨by rw [(ht.i hd).1, (ht.i hd).2], rfl⟩
 | true =>
   refine go ?_
   refine Cx.openp (a := some ⟨b, 0, none⟩) (TakeO.d hd) ?_
   rintro ⟨n1, n2, n3, pp, cnt⟩
   simp only [takeDL, List.cons_append, List.nil_append]
   refine Cx.ordc rfl kr_ ?_
   refine ge ?_
   refine go ?_
   exact Kr.two (.inr rfl) rfl rfl (TakeO.closeD t hd rfl rfl rfl) ⟨rfl, rfl⟩
end
end Go.Proofs.YtflalhdofhobmaaGreat


namespace Go.Proofs.YtflalhdofhobmaaGreat
open Go
attribute [local irreducible] Sx Cx Rx Fx Krg Ksq Kbl Klp Kr
open Classical in
noncomputable def giveInit (k : Sk) (l : List Int) : PushS := if l.Nodup ∧ ∀ x ∈ l, 0 ≤ x ∧ x < k.n then PushS.init l else ⟨l, 0, 0, true⟩
theorem giveInit_yes {k : Sk} {l : List Int} (h : l.Nodup ∧ ∀ x ∈ l, 0 ≤ x ∧ x < k.n) : giveInit k l = PushS.init l := if_pos h
theorem giveInit_no {k : Sk} {l : List Int} (h : ¬ (l.Nodup ∧ ∀ x ∈ l, 0 ≤ x ∧ x < k.n)) : giveInit k l = ⟨l, 0, 0, true⟩ := if_neg h
theorem pushStep_l (k : Sk) (m : Mm) (p : PushS) : (pushStep k m p).1.l = p.l := by
 unfold pushStep
 (repeat' split) <;> rfl
section
variable {L F G : St}
abbrev gvB (b : Nat) (nx n1 n2 n3 : Value) (cnt : Int) (sl : Value) : As := pt (some ⟨b, 0, none⟩) (Blk 248 [nx, n1, n2, n3, .int .i64 cnt, sl])
def giveDL (T : TypeId) (a : Option Addr) (y : Value × Value × Value × Int × Value) : St := [pt a (Blk T [.nilFunc, y.1, y.2.1, y.2.2.1, .int .i64 y.2.2.2.1, y.2.2.2.2])]
def givePL (T : TypeId) (pb : Nat) (k : Sk) (p : PushS) (a : Option Addr) (y : Nat × Int × (Option Addr × Nat)) : St :=
 [pt a (Blk T [.func (.func 232) #[.pointer a] #[], mth 239 y.1, mth 240 y.1, .func (.func 261) #[.pointer a] #[], .int .i64 y.2.1, .slice y.2.2.1 p.l.length y.2.2.2]),
  pt (some ⟨y.1, 0, none⟩) (PushO pb k p), pt y.2.2.1 (Row 3 1 p.l.length y.2.2.2 (ints p.l))]
def GiveT (T : TypeId) (pb : Nat) (k : Sk) (p : PushS) (a : Option Addr) : As := bif p.done then exs (giveDL T a) else exs (givePL T pb k p a)
abbrev GiveO := GiveT 248
theorem GiveO.d {T : TypeId} {pb : Nat} {k : Sk} {p : PushS} {a : Option Addr} (h : p.done = true) : GiveT T pb k p a = exs (giveDL T a) := by unfold GiveT; rw [h]; rfl
theorem GiveO.p {T : TypeId} {pb : Nat} {k : Sk} {p : PushS} {a : Option Addr} (h : p.done = false) : GiveT T pb k p a = exs (givePL T pb k p a) := by unfold GiveT; rw [h]; rfl
theorem GiveO.closeD {b pb : Nat} {k : Sk} (p : PushS) (h : p.done = true) {n1 n2 n3 sl : Value} {cnt : Int} : Ent (gvB b .nilFunc n1 n2 n3 cnt sl :: G) (pt (some ⟨b, 0, none⟩) (GiveO pb k p) :: G) :=
 Ent.close (f := giveDL 248 (some ⟨b, 0, none⟩)) (GiveO.d h) (n1, n2, n3, cnt, sl)
theorem GiveO.closeP {b pb g : Nat} {k : Sk} {r : Option Addr} {c n : Nat} {vs : List Value} {q : PushS} (p : PushS) (h : p.done = false) {cnt : Int} (hq : q = p) (hn : n = p.l.length) (hv : vs = ints p.l) :
  Ent (gvB b (mth 232 b) (mth 239 g) (mth 240 g) (mth 261 b) cnt (.slice r n c) :: pt (some ⟨g, 0, none⟩) (PushO pb k q) :: pt r (Row 3 1 n c vs) :: G) (pt (some ⟨b, 0, none⟩) (GiveO pb k p) :: G) := by
 subst hq; subst hn; subst hv
 exact Ent.close (f := givePL 248 pb k q (some ⟨b, 0, none⟩)) (GiveO.p h) (g, cnt, r, c)
theorem giveEnd {v : Value} : Fx Tryz.prog 261 [v] L (fun v L' => v = .tuple #[] ∧ L = L') := by
 refine Fx.mk Tryz.func261 k261 nb_ ?_
 dsimp only [c261, envOf, Nat.reduceAdd]
 refine Cx.sk ?_
 exact Kr.none (.inl rfl) (Ent.refl _) ⟨rfl, rfl⟩
theorem supGive {u mp pb : Nat} {x : Cn} {s : SupS} {l : List Int} {r : Option Addr} {n c : Nat} {F : St} (hl : n = l.length) (hn : n ≤ 1000000000) [t : Take L (some ⟨u, 0, none⟩) (SupO mp pb x s) F] [tr : Take F r (Row 3 1 n c (ints l)) G] {F3 : St} [tb : Take G (some ⟨pb, 0, none⟩) (SkO mp x.pool) F3] :
  Fx Tryz.prog 245 [.pointer (some ⟨u, 0, none⟩), .slice r n c] L (fun v L' => ∃ b, v = .pointer (some ⟨b, 0, none⟩) ∧ L' = pt (some ⟨b, 0, none⟩) (GiveO pb x.pool (giveInit x.pool l)) :: pt (some ⟨u, 0, none⟩) (SupO mp pb x s) :: G) := by
 subst hl
 refine Fx.mk Tryz.func245 k245 nb_ ?_
 dsimp only [c245, envOf, Nat.reduceAdd]
 refine Cx.ent (Ent.trans (Ent.of t.out) (Ent.cons (Ent.of tr.out))) ?_
 refine Cx.openp (a := some ⟨u, 0, none⟩) rfl ?_
 rintro ⟨sh, lm⟩
 simp only [supL, List.cons_append, List.nil_append]
 refine Cx.rowkey (a := r) fun hxl hc1 _ hkr => ?_
 refine go ?_
 refine Sx.bx rfl rfl fun b => ?_
 refine go ?_
 refine Sx.ca rfl (stackPush (sb := pb) (mp := mp) (k := x.pool) (l := l) (Rd.any (a := r) hxl (hkr.imp (fun h => h.2.1) id)) hc1 hn) ?_
 rintro v L' (⟨hno, rfl, rfl⟩ | ⟨hyes, g, rfl, rfl⟩)
 ·rw [giveInit_no hno]
  refine go ?_
  refine Kr.one (.inr rfl) rfl ?_ ⟨b, rfl, rfl⟩
  refine Ent.trans (GiveO.closeD ⟨l, 0, 0, true⟩ rfl) (Ent.cons ?_)
  refine Ent.trans (SupO.close (a := some ⟨u, 0, none⟩) (sh := sh) (lm := lm) (mp := mp) (pb := pb) (x := x) s rfl rfl rfl) (Ent.cons ?_)
  exact ent
 ·rw [giveInit_yes hyes]
  refine go ?_
  by_cases hl0 : l = []
  ·have hd : (PushS.init l).done = true := by simp [PushS.init, hl0]
   refine Sx.ca rfl (machThrough (b := b) (machOnYes (b := b) kr_ ((pushDoneC (b := g) (sb := pb) (k := x.pool) (p := PushS.init l)).mono (by rintro v L' ⟨rfl, rfl⟩; exact ⟨by rw [hd], rfl⟩)) kr_ giveEnd)) ?_
   rintro v L' ⟨rfl, w, rfl, w2, rfl, rfl⟩
   refine go ?_
   refine Kr.one (.inr rfl) rfl ?_ ⟨b, rfl, rfl⟩
   refine Ent.trans (GiveO.closeD (PushS.init l) hd) (Ent.cons ?_)
   refine Ent.trans Ent.drop ?_
   refine Ent.trans (SupO.close (a := some ⟨u, 0, none⟩) (sh := sh) (lm := lm) (mp := mp) (pb := pb) (x := x) s rfl rfl rfl) (Ent.cons ?_)
   exact ent
  ·have hd : (PushS.init l).done = false := by simp [PushS.init, hl0]
   refine Sx.ca rfl (machThrough (b := b) (machOnNo (b := b) kr_ ((pushDoneC (b := g) (sb := pb) (k := x.pool) (p := PushS.init l)).mono (by rintro v L' ⟨rfl, rfl⟩; exact ⟨by rw [hd], rfl⟩)))) ?_
   rintro v L' ⟨rfl, w, rfl, rfl⟩
   refine go ?_
   refine Kr.one (.inr rfl) rfl ?_ ⟨b, rfl, rfl⟩
   refine Ent.trans (Ent.cons (Ent.cons (Ent.take (a := r)))) ?_
   refine Ent.trans (GiveO.closeP (PushS.init l) hd rfl rfl rfl) (Ent.cons ?_)
   refine Ent.trans (SupO.close (a := some ⟨u, 0, none⟩) (sh := sh) (lm := lm) (mp := mp) (pb := pb) (x := x) s rfl rfl rfl) (Ent.cons ?_)
   exact ent
theorem supSpill {u mp pb : Nat} {x : Cn} {s : SupS} {F : St} (hn : s.xs.length ≤ 1000000000) (hm : 0 ≤ s.most) (hm2 : s.most ≤ 64) [t : Take L (some ⟨u, 0, none⟩) (SupO mp pb x s) F] {F3 : St} [tb : Take F (some ⟨pb, 0, none⟩) (SkO mp x.pool) F3] :
  Fx Tryz.prog 207 [.pointer (some ⟨u, 0, none⟩)] L (fun v L' => ∃ b, v = .pointer (some ⟨b, 0, none⟩) ∧ L' = pt (some ⟨b, 0, none⟩) (GiveO pb x.pool (giveInit x.pool (s.xs.take (overK s.most s.xs)))) :: pt (some ⟨u, 0, none⟩) (SupO mp pb x { s with xs := s.xs.drop (overK s.most s.xs) }) :: F) := by
 have hov : overK s.most s.xs ≤ s.xs.length := by unfold overK; omega
 refine Fx.mk Tryz.func207 k207 nb_ ?_
 dsimp only [c207, envOf, Nat.reduceAdd]
 refine Cx.ent (Ent.of t.out) ?_
 refine Cx.openp (a := some ⟨u, 0, none⟩) rfl ?_
 rintro ⟨sh, lm⟩
 simp only [supL, List.cons_append, List.nil_append]
 refine go ?_
 refine Sx.ca rfl (stashOver (b := sh) (most := s.most) (xs := s.xs) hn hm hm2) ?_
 rintro v L' ⟨r, c, rfl, rfl⟩
 refine Sx.ent (Ent.trans (Ent.cons (SupO.close (a := some ⟨u, 0, none⟩) (sh := sh) (lm := lm) (mp := mp) (pb := pb) (x := x) { s with xs := s.xs.drop (overK s.most s.xs) } rfl rfl rfl)) Ent.swap) ?_
 refine go ?_
 refine Sx.ca rfl (supGive (u := u) (mp := mp) (pb := pb) (x := x) (s := { s with xs := s.xs.drop (overK s.most s.xs) }) (l := s.xs.take (overK s.most s.xs)) (r := r) (by rw [List.length_take]; omega) (by omega)) ?_
 rintro v L' ⟨b, rfl, rfl⟩
 refine go ?_
 exact Kr.one (.inr rfl) rfl (Ent.refl _) ⟨b, rfl, rfl⟩
theorem giveStep {b mp pb : Nat} {k : Sk} {m : Mm} {p : PushS} {F1 F2 : St} (hk : k.ok m.ws.length) [t1 : Take L (some ⟨b, 0, none⟩) (GiveO pb k p) F1] [t2 : Take F1 (some ⟨mp, 0, none⟩) (MemO m) F2] [t3 : Take F2 (some ⟨pb, 0, none⟩) (SkO mp k) G] :
  Fx Tryz.prog 208 [.pointer (some ⟨b, 0, none⟩)] L (fun v L' => v = .bool (!p.done) ∧ L' = pt (some ⟨b, 0, none⟩) (GiveO pb k (pushStep k m p).1) :: pt (some ⟨mp, 0, none⟩) (MemO (pushStep k m p).2) :: F2) := by
 refine Fx.mk Tryz.func208 k208 nb_ ?_
 dsimp only [c208, envOf, Nat.reduceAdd]
 refine Cx.ent (Ent.trans (Ent.of t1.out) (Ent.cons (Ent.trans (Ent.of t2.out) (Ent.cons (Ent.of t3.out))))) ?_
 cases hd : p.done with
 | true =>
   have e : pushStep k m p = (p, m) := by unfold pushStep; rw [hd]; rfl
   rw [e]
   refine Cx.openp (a := some ⟨b, 0, none⟩) (GiveO.d hd) ?_
   rintro ⟨n1, n2, n3, cnt, sl⟩
   simp only [giveDL, List.cons_append, List.nil_append]
   refine go ?_
   refine Sx.ca rfl (machStepDone (b := b)) ?_
   rintro v L' ⟨rfl, rfl⟩
   refine go ?_
   exact Kr.one (.inr rfl) rfl (Ent.trans (GiveO.closeD p hd) (Ent.cons (Ent.cons (Ent.of t3.back)))) ⟨rfl, rfl⟩
 | false =>
   refine Cx.openp (a := some ⟨b, 0, none⟩) (GiveO.p hd) ?_
   rintro ⟨g, cnt, r, c⟩
   simp only [givePL, List.cons_append, List.nil_append]
   have hpl := pushStep_l k m p
   cases hq : (pushStep k m p).1.done with
   | true =>
     refine go ?_
     refine Sx.ca rfl (machStep (b := b) kr_ (machGoes (b := b) kr_ (pushStepC (b := g) (mp := mp) (sb := pb) (k := k) (m := m) (p := p) hk) (R2 := fun v L' => v = .tuple #[] ∧ ∃ w : Value, w = .tuple #[] ∧ pt (some ⟨g, 0, none⟩) (PushO pb k (pushStep k m p).1) :: pt (some ⟨mp, 0, none⟩) (MemO (pushStep k m p).2) :: gvB b .nilFunc (mth 239 g) (mth 240 g) (mth 261 b) (IntKind.i64.wrap (cnt + 1)) (.slice r p.l.length c) :: pt r (Row 3 1 p.l.length c (ints p.l)) :: pt (some ⟨pb, 0, none⟩) (SkO mp k) :: G = L') ?_)) ?_
     ·rintro v L1 ⟨rfl, rfl⟩
      exact machOnYes (b := b) kr_ ((pushDoneC (b := g) (sb := pb) (k := k) (p := (pushStep k m p).1)).mono (by rintro v L' ⟨rfl, rfl⟩; exact ⟨by rw [hq], rfl⟩)) kr_ giveEnd
     ·rintro v L' ⟨rfl, w, rfl, w2, _, w3, _, rfl⟩
      refine go ?_
      refine Kr.one (.inr rfl) rfl ?_ ⟨rfl, rfl⟩
      refine Ent.trans (Ent.take (a := some ⟨b, 0, none⟩)) ?_
      refine Ent.trans (GiveO.closeD (pushStep k m p).1 hq) (Ent.cons ?_)
      refine Ent.trans (Ent.take (a := some ⟨mp, 0, none⟩)) (Ent.cons ?_)
      refine Ent.trans ?_ (Ent.of t3.back)
      exact ent
   | false =>
     refine go ?_
     refine Sx.ca rfl (machStep (b := b) kr_ (machGoes (b := b) kr_ (pushStepC (b := g) (mp := mp) (sb := pb) (k := k) (m := m) (p := p) hk) (R2 := fun v L' => v = .tuple #[] ∧ L' = gvB b (mth 232 b) (mth 239 g) (mth 240 g) (mth 261 b) (IntKind.i64.wrap (cnt + 1)) (.slice r p.l.length c) ::
       pt (some ⟨g, 0, none⟩) (PushO pb k (pushStep k m p).1) :: pt (some ⟨mp, 0, none⟩) (MemO (pushStep k m p).2) :: pt r (Row 3 1 p.l.length c (ints p.l)) :: pt (some ⟨pb, 0, none⟩) (SkO mp k) :: G) ?_)) ?_
     ·rintro v L1 ⟨rfl, rfl⟩
      refine (machOnNo (b := b) kr_ ((pushDoneC (b := g) (sb := pb) (k := k) (p := (pushStep k m p).1)).mono (by rintro v L' ⟨rfl, rfl⟩; exact ⟨by rw [hq], rfl⟩))).mono ?_
      rintro v L' ⟨rfl, rfl⟩
      exact ⟨rfl, rfl⟩
     ·rintro v L' ⟨rfl, w, _, w2, _, rfl⟩
      refine go ?_
      refine Kr.one (.inr rfl) rfl ?_ ⟨rfl, rfl⟩
      refine Ent.trans (Ent.cons (Ent.cons (Ent.take (a := r)))) ?_
      refine Ent.trans (GiveO.closeP (pushStep k m p).1 hq rfl (by rw [hpl]) (by rw [hpl])) (Ent.cons ?_)
      refine Ent.cons ?_
      exact Ent.of t3.back
theorem giveDone {b pb : Nat} {k : Sk} {p : PushS} {F1 : St} [t1 : Take L (some ⟨b, 0, none⟩) (GiveO pb k p) F1] : Fx Tryz.prog 188 [.pointer (some ⟨b, 0, none⟩)] L (fun v L' => v = .bool p.done ∧ L = L') := by
 refine Fx.kept (t := t1) ?_
 refine Fx.mk Tryz.func188 k188 nb_ ?_
 dsimp only [c188, envOf, Nat.reduceAdd]
 refine Cx.ent (Ent.of t1.out) ?_
 cases hd : p.done with
 | true =>
   refine Cx.openp (a := some ⟨b, 0, none⟩) (GiveO.d hd) ?_
   rintro ⟨n1, n2, n3, cnt, sl⟩
   simp only [giveDL, List.cons_append, List.nil_append]
   refine go ?_
   refine Sx.ca rfl (machDoneYes (b := b)) ?_
   rintro v L' ⟨rfl, rfl⟩
   refine go ?_
   exact Kr.one (.inr rfl) rfl (GiveO.closeD p hd) ⟨rfl, rfl⟩
 | false =>
   refine Cx.openp (a := some ⟨b, 0, none⟩) (GiveO.p hd) ?_
   rintro ⟨g, cnt, r, c⟩
   simp only [givePL, List.cons_append, List.nil_append]
   refine go ?_
   refine Sx.ca rfl (machDoneNo (b := b)) ?_
   rintro v L' ⟨rfl, rfl⟩
   refine go ?_
   exact Kr.one (.inr rfl) rfl (GiveO.closeP p hd rfl rfl rfl) ⟨rfl, rfl⟩
end
end Go.Proofs.YtflalhdofhobmaaGreat


namespace Go.Proofs.YtflalhdofhobmaaGreat
theorem crIt_idle {k : Sk} {ro cl : Nat} {r : CreS × Mm} {j : Nat} (h : (crIt k ro cl j r).1.done = true) : ∀ i, crIt k ro cl (j + i) r = crIt k ro cl j r
 | 0 => rfl
 | i + 1 => by
   show crStep k ro cl (crIt k ro cl (j + i) r).2 (crIt k ro cl (j + i) r).1 = _
   rw [crIt_idle h i]
   unfold crStep
   rw [if_pos h]
theorem cr_pop {k : Sk} {ro cl : Nat} {m : Mm} : ∀ j, (∀ i, i ≤ j → (popIt k i (PopS.init 1, m)).1.done = false) →
  crIt k ro cl j (CreS.init, m) = ({ CreS.init with cnt := j, q := (popIt k j (PopS.init 1, m)).1 }, (popIt k j (PopS.init 1, m)).2)
 | 0, _ => rfl
 | j + 1, h => by
   have ih := cr_pop (k := k) (ro := ro) (cl := cl) (m := m) j (fun i hi => h i (by omega))
   have hd := h (j + 1) (Nat.le_refl _)
   rw [popIt_succ] at hd
   show crStep k ro cl (crIt k ro cl j (CreS.init, m)).2 (crIt k ro cl j (CreS.init, m)).1 = _
   rw [ih, popIt_succ]
   unfold crStep
   simp only [CreS.init, Bool.false_eq_true, if_false, hd]
theorem cr_alone {k : Sk} {ro cl len : Nat} {m : Mm} {l : List Int} {s : Int} (hk : k.ok len) (hml : m.ws.length = len) (hm : m.ok) (hp : Pool k m (s :: l)) (hr : ro + k.n ≤ k.links) (hrh : k.head < ro) (hcl : cl ≤ 3) :
  ∃ c m', crIt k ro cl 10 (CreS.init, m) = (c, m') ∧ c.done = true ∧ c.code = 0 ∧ c.slot = s ∧ c.at_ = 2 ∧ c.was = m.at_ (ro + s.toNat) ∧ m'.n = m.n + 5 ∧ m'.ws.length = len ∧ m'.ok ∧ Pool k m' l ∧
   m'.at_ (ro + s.toNat) = (nextRt cl (m.at_ (ro + s.toNat))).w ∧ (∀ a, a ≠ k.head → a ≠ ro + s.toNat → m'.at_ a = m.at_ a) := by
 obtain ⟨hs0, hs1, hs2, hs3⟩ := hp.c
 obtain ⟨m1, e1, n1, l1, p1, a1, d1⟩ := pop_alone hk hml hp 1 (by omega) (by omega) (by simp) 1 (by simp; omega)
 simp only [List.drop_succ_cons, List.drop_zero, List.take_succ_cons, List.take_zero] at e1 p1
 have hl := hk.l
 have hok1 : m1.ok := by
  have : ∀ j, (popIt k j (PopS.init 1, m)).2.ok ∧ (popIt k j (PopS.init 1, m)).1.ok k := by
   intro j
   induction j with
   | zero => exact ⟨hm, PopS.ok_init hk.n1 1⟩
   | succ j ih =>
     rw [popIt_succ]
     exact ⟨(popStep_mem hk ih.1 ih.2).1, popStep_ok hk ih.1 ih.2⟩
  have := (this (1 + 2)).1
  rw [e1] at this
  exact this
 have hw1 := Mm.at_lt hok1 (ro + s.toNat)
 have c2 := cr_pop (k := k) (ro := ro) (cl := cl) (m := m) 2 (fun i hi => d1 i (by omega))
 have c3 : crIt k ro cl 3 (CreS.init, m) = (⟨1, 3, s, 3, 0, 0, (popIt k 3 (PopS.init 1, m)).1, false⟩, m1) := by
  show crStep k ro cl (crIt k ro cl 2 (CreS.init, m)).2 (crIt k ro cl 2 (CreS.init, m)).1 = _
  have e2 : popStep k (popIt k 2 (PopS.init 1, m)).2 (popIt k 2 (PopS.init 1, m)).1 = (⟨1, 0, l.headD (-1), m.at_ k.head, [s], true⟩, m1) := by rw [← popIt_succ]; exact e1
  rw [c2]
  unfold crStep
  simp only [CreS.init, Bool.false_eq_true, if_false, e2, if_true, crPopped]
  rw [show (1 + 2 : Nat) = 3 from rfl] at e1
  rw [e1]
 have c4 : crIt k ro cl 4 (CreS.init, m) = (⟨2, 4, s, 3, m1.at_ (ro + s.toNat), 0, (popIt k 3 (PopS.init 1, m)).1, false⟩, m1.tick) := by
  show crStep k ro cl (crIt k ro cl 3 (CreS.init, m)).2 (crIt k ro cl 3 (CreS.init, m)).1 = _
  rw [c3]; rfl
 have c5 : crIt k ro cl 5 (CreS.init, m) = (⟨2, 5, s, 3, m1.at_ (ro + s.toNat), 0, (popIt k 3 (PopS.init 1, m)).1, true⟩, m1.tick.put (ro + s.toNat) (nextRt cl (m1.at_ (ro + s.toNat))).w) := by
  show crStep k ro cl (crIt k ro cl 4 (CreS.init, m)).2 (crIt k ro cl 4 (CreS.init, m)).1 = _
  rw [c4]; rfl
 have hin : ro + s.toNat < m1.tick.ws.length := by show _ < m1.ws.length; omega
 have hro : m1.at_ (ro + s.toNat) = m.at_ (ro + s.toNat) := a1 _ (by omega)
 have hput : ∀ a v, (m1.tick.put (ro + s.toNat) v).at_ a = if ro + s.toNat = a then v else m1.at_ a := fun a v => Mm.at_put a hin
 refine ⟨_, _, (crIt_idle (by rw [c5]) 5).trans c5, rfl, rfl, rfl, rfl, hro, ?_, ?_, ?_, ⟨?_, p1.nd⟩, ?_, ?_⟩
 ·show m1.n + 1 + 1 = _; omega
 ·rw [Mm.len_put]; exact l1
 ·exact Mm.ok_put (Mm.ok_tick hok1) (Rt.w_lt (nextRt_ok hw1 hcl))
 ·rw [hput, if_neg (by omega)]
  refine p1.c.congr fun y hy => ?_
  have := p1.c.mem y hy
  rw [hput, if_neg (by omega)]
 ·rw [hput, if_pos rfl, hro]
 ·intro a h1 h2
  rw [hput, if_neg (fun h => h2 h.symm)]
  exact a1 a h1
structure AlP where
 k : Sk
 ro : Nat
 wo : Nat
 wd : Nat
 ba : Int
 slot : Nat
 gen : Int
 n : Nat
abbrev gNone : PushS := ⟨[], 0, 0, true⟩
def TakeS.zero : TakeS := ⟨0, 0, false, 0, PopS.init 1, true⟩
noncomputable def alClose (k : Sk) (s : SupS) (v : AlV) (t : TakeS) (code : Nat) (o : Hd) : SupS × AlS :=
 let s1 := if 0 ≤ v.hand then s.give [v.hand] else s
 let g := giveInit k (s1.xs.take (overK s1.most s1.xs))
 ({ s1 with xs := s1.xs.drop (overK s1.most s1.xs) }, ⟨6, { v with code := code, obj := o, point := v.cnt, ends := true, hand := -1 }, t, g, g.done⟩)
def alTaken (v : AlV) (t : TakeS) : AlS := if t.is_ then ⟨3, { v with hand := t.chunk }, t, gNone, false⟩ else ⟨0, v, t, gNone, false⟩
noncomputable def alSeen (p : AlP) (s : SupS) (v : AlV) (t : TakeS) : SupS × AlS :=
 if (rtOf v.was).live p.gen then
  let v1 : AlV := { v with need := roundS (rtOf v.was).cl p.n }
  if 2 ≤ (rtOf v.was).mrk ∧ fitsS p.wd (rtOf v.was).off (roundS (rtOf v.was).cl p.n) then (s, ⟨1, v1, t, gNone, false⟩)
  else if 0 ≤ v.hand then (s, ⟨4, v1, t, gNone, false⟩)
  else if v.asked then alClose p.k s v1 t 6 Hd.zero
  else if (takeInit p.ba s).2.done then ((takeInit p.ba s).1, alTaken { v1 with asked := true } (takeInit p.ba s).2)
  else ((takeInit p.ba s).1, ⟨2, { v1 with asked := true }, (takeInit p.ba s).2, gNone, false⟩)
 else alClose p.k s v t 3 Hd.zero
noncomputable def alStep (p : AlP) (m : Mm) (s : SupS) (a : AlS) : Mm × SupS × AlS :=
 if a.done then (m, s, a) else
 let v : AlV := { a.v with cnt := a.v.cnt + 1 }
 let w := rtOf a.v.was
 match a.at_ with
 | 0 => (m.tick, alSeen p s { v with was := m.at_ (p.ro + p.slot) } a.t)
 | 1 => if m.at_ (p.ro + p.slot) = a.v.was then (m.put (p.ro + p.slot) (Rt.w ⟨w.gen, w.mrk, w.cl, w.off + v.need⟩), alClose p.k s v a.t 0 ⟨p.slot, p.gen, w.chunk, w.off, p.n⟩) else (m.tick, s, ⟨0, v, a.t, gNone, false⟩)
 | 2 => ((takeStep p.k p.ba m s a.t).1, (takeStep p.k p.ba m s a.t).2.1, if (takeStep p.k p.ba m s a.t).2.2.done then alTaken v (takeStep p.k p.ba m s a.t).2.2 else ⟨2, v, (takeStep p.k p.ba m s a.t).2.2, gNone, false⟩)
 | 3 => (m.put (p.wo + v.hand.toNat * p.wd + v.zat) 0, s, ⟨if v.zat + 1 < p.wd then 3 else 4, { v with zat := v.zat + 1 }, a.t, gNone, false⟩)
 | 4 => (m.put (p.k.links + v.hand.toNat) (w.chunk + 1).toNat, s, ⟨5, v, a.t, gNone, false⟩)
 | 5 => if m.at_ (p.ro + p.slot) = a.v.was then (m.put (p.ro + p.slot) (Rt.w ⟨w.gen, 2 + v.hand.toNat, w.cl, afterS p.wd v.need⟩), alClose p.k s { v with hand := -1 } a.t 0 ⟨p.slot, p.gen, v.hand, 0, p.n⟩) else (m.tick, s, ⟨0, v, a.t, gNone, false⟩)
 | _ => ((pushStep p.k m a.g).2, s, ⟨6, v, a.t, (pushStep p.k m a.g).1, (pushStep p.k m a.g).1.done⟩)
def AlS.init : AlS := ⟨0, AlV.init, TakeS.zero, gNone, false⟩
noncomputable def alIt (p : AlP) : Nat → Mm × SupS × AlS → Mm × SupS × AlS
 | 0, r => r
 | j + 1, r => alStep p (alIt p j r).1 (alIt p j r).2.1 (alIt p j r).2.2
end Go.Proofs.YtflalhdofhobmaaGreat


namespace Go.Proofs.YtflalhdofhobmaaGreat
open Go
attribute [local irreducible] Sx Cx Rx Fx Krg Ksq Kbl Klp Kr
section
variable {L F G : St}
theorem supTake {u mp pb : Nat} {x : Cn} {s : SupS} {F : St} (hx : x.ok) (hb : s.xs.length + s.lm.size ≤ 1000000) [t : Take L (some ⟨u, 0, none⟩) (SupO mp pb x s) F] :
  Fx Tryz.prog 158 [.pointer (some ⟨u, 0, none⟩)] L (fun v L' => ∃ b, v = .pointer (some ⟨b, 0, none⟩) ∧ L' = pt (some ⟨b, 0, none⟩) (TakeO u pb x.pool (takeInit x.ba s).2) :: pt (some ⟨u, 0, none⟩) (SupO mp pb x (takeInit x.ba s).1) :: F) := by
 refine Fx.mk Tryz.func158 k158 nb_ ?_
 dsimp only [c158, envOf, Nat.reduceAdd]
 refine Cx.ent (Ent.of t.out) ?_
 refine go ?_
 refine Sx.bx rfl rfl fun b => ?_
 refine go ?_
 refine Sx.ca rfl (takeKept (b := b) (u := u) (mp := mp) (pb := pb) (x := x) (s := s) (by omega)) ?_
 rintro v L' ⟨rfl, rfl⟩
 by_cases hxs : s.xs = []
 ·have hk : s.kept = s := by unfold SupS.kept; rw [hxs]; simp only [List.dropLast_nil]; rw [← hxs]
  rw [decide_eq_false (fun h : s.xs ≠ [] => h hxs), hk, show lastI s.xs = 0 by rw [hxs]; rfl]
  refine go ?_
  refine Sx.openp (a := some ⟨u, 0, none⟩) rfl ?_
  rintro ⟨sh, lm⟩
  simp only [supL, List.cons_append, List.nil_append]
  refine go ?_
  refine Sx.ca rfl (limboLen (b := lm) (m := s.lm) (by omega)) ?_
  rintro v L' ⟨rfl, rfl⟩
  refine go ?_
  by_cases hz : 0 < s.lm.size
  ·have e : takeInit x.ba s = (s, TakeS.none_) := by unfold takeInit keepT; rw [if_pos hxs]; simp only [if_pos hz]
   rw [e]
   refine Cx.cyes rfl (decide_eq_true (by omega)) ?_
   refine go ?_
   refine Sx.ca rfl (machGo (b := b)) ?_
   rintro v L' ⟨rfl, rfl⟩
   refine go ?_
   refine Kr.one (.inr rfl) rfl ?_ ⟨b, rfl, rfl⟩
   refine Ent.trans ?_ (TakeO.closeL (n1 := .nilFunc) (n2 := .nilFunc) (n3 := .nilFunc) (pp := .pointer none) (cnt := 0) TakeS.none_ rfl rfl rfl rfl rfl)
   refine Ent.cons ?_
   refine Ent.trans (SupO.close (a := some ⟨u, 0, none⟩) (sh := sh) (lm := lm) (mp := mp) (pb := pb) (x := x) s rfl rfl rfl) (Ent.refl _)
  ·have e : takeInit x.ba s = (s, { TakeS.none_ with at_ := 1, q := PopS.init x.ba }) := by unfold takeInit keepT; rw [if_pos hxs]; simp only [if_neg hz]
   rw [e]
   refine Cx.cno rfl (decide_eq_false (by omega)) ?_
   refine Cx.ent (Ent.trans (Ent.swap) (Ent.trans (Ent.cons (Ent.refl _)) (SupO.close (a := some ⟨u, 0, none⟩) (sh := sh) (lm := lm) (mp := mp) (pb := pb) (x := x) s rfl rfl rfl))) ?_
   refine go ?_
   refine Sx.ca rfl (takeAsk (b := b) (u := u) (mp := mp) (pb := pb) (x := x) (s := s) hx) ?_
   rintro v L' rfl
   refine go ?_
   refine Kr.one (.inr rfl) rfl ?_ ⟨b, rfl, rfl⟩
   exact Ent.refl _
 ·have e : takeInit x.ba s = (s.kept, { TakeS.none_ with chunk := lastI s.xs, is_ := true, done := true }) := by unfold takeInit keepT; rw [if_neg hxs]
  rw [e, decide_eq_true (show s.xs ≠ [] from hxs)]
  refine go ?_
  exact Kr.one (.inr rfl) rfl (TakeO.closeD _ rfl rfl rfl rfl) ⟨b, rfl, rfl⟩
end
end Go.Proofs.YtflalhdofhobmaaGreat


namespace Go.Proofs.YtflalhdofhobmaaGreat
open Go
attribute [local irreducible] Sx Cx Rx Fx Krg Ksq Kbl Klp Kr
section
variable {L F G : St}
abbrev Cn.al (x : Cn) (slot : Nat) (gen : Int) (n : Nat) : AlP := ⟨x.pool, x.root, x.word, x.wd, x.ba, slot, gen, n⟩
abbrev hdL (o : Hd) : List Value := [.int .i64 o.slot, .int .i64 o.gen, .int .i64 o.chunk, .int .i64 o.off, .int .i64 o.len]
abbrev hdA (o : Hd) : Value := .agg #[.int .i64 o.slot, .int .i64 o.gen, .int .i64 o.chunk, .int .i64 o.off, .int .i64 o.len]
abbrev alF (nx n1 n2 n3 : Value) (g u slot : Nat) (gen : Int) (n : Nat) (cnt : Int) (v : AlV) (rt : Rt) (tp gp : Value) : List Value :=
 [nx, n1, n2, n3, .int .i64 cnt, .pointer (some ⟨g, 0, none⟩), .pointer (some ⟨u, 0, none⟩), .int .i64 (slot : Nat), .int .i64 gen, .int .i64 (n : Nat), .int .i64 v.hand, .int .i64 (v.zat : Nat), .bool v.asked, .bool v.ends, .int .i64 (v.need : Nat), .int .i64 (v.point : Nat), wd v.was,
  .int .i64 (rt.gen : Nat), .int .i64 (rt.mrk : Nat), .int .i64 (rt.cl : Nat), .int .i64 (rt.off : Nat), tp, gp, .int .i64 (v.code : Nat), .int .i64 v.obj.slot, .int .i64 v.obj.gen, .int .i64 v.obj.chunk, .int .i64 v.obj.off, .int .i64 v.obj.len]
abbrev alB (b : Nat) (nx n1 n2 n3 : Value) (g u slot : Nat) (gen : Int) (n : Nat) (cnt : Int) (v : AlV) (rt : Rt) (tp gp : Value) : As := pt (some ⟨b, 0, none⟩) (Blk 152 (alF nx n1 n2 n3 g u slot gen n cnt v rt tp gp))
def alFn : Nat → FuncId
 | 0 => 80
 | 1 => 156
 | 3 => 221
 | 4 => 157
 | _ => 215
def alSL (f : FuncId) (T : TypeId) (g u slot : Nat) (gen : Int) (n : Nat) (s : AlS) (a : Option Addr) (y : Value × Value × Value × Value) : St :=
 [pt a (Blk T (alF (.func (.func f) #[.pointer a] #[]) y.1 y.2.1 y.2.2.1 g u slot gen n (s.v.cnt : Nat) s.v (rtOf s.v.was) y.2.2.2 (.pointer none)))]
def alTL (T : TypeId) (g u pb : Nat) (x : Cn) (slot : Nat) (gen : Int) (n : Nat) (s : AlS) (a : Option Addr) (y : Nat) : St :=
 [pt a (Blk T (alF (.func (.func 232) #[.pointer a] #[]) (mth 159 y) (mth 160 y) (.func (.func 161) #[.pointer a] #[]) g u slot gen n (s.v.cnt : Nat) s.v (rtOf s.v.was) (.pointer (some ⟨y, 0, none⟩)) (.pointer none))),
  pt (some ⟨y, 0, none⟩) (TakeO u pb x.pool s.t)]
def alGL (T : TypeId) (g u pb : Nat) (x : Cn) (slot : Nat) (gen : Int) (n : Nat) (s : AlS) (a : Option Addr) (y : Nat × Value) : St :=
 [pt a (Blk T (alF (.func (.func 232) #[.pointer a] #[]) (mth 208 y.1) (mth 188 y.1) (.func (.func 209) #[.pointer a] #[]) g u slot gen n (s.v.cnt : Nat) s.v (rtOf s.v.was) y.2 (.pointer (some ⟨y.1, 0, none⟩)))),
  pt (some ⟨y.1, 0, none⟩) (GiveO pb x.pool s.g)]
def alDL (T : TypeId) (g u pb : Nat) (x : Cn) (slot : Nat) (gen : Int) (n : Nat) (s : AlS) (a : Option Addr) (y : Nat × Value × Value × Value × Value) : St :=
 [pt a (Blk T (alF .nilFunc y.2.1 y.2.2.1 y.2.2.2.1 g u slot gen n (s.v.cnt : Nat) s.v (rtOf s.v.was) y.2.2.2.2 (.pointer (some ⟨y.1, 0, none⟩)))), pt (some ⟨y.1, 0, none⟩) (GiveO pb x.pool s.g)]
def AlT (T : TypeId) (g u pb : Nat) (x : Cn) (slot : Nat) (gen : Int) (n : Nat) (s : AlS) (a : Option Addr) : As := bif s.done then exs (alDL T g u pb x slot gen n s a) else match s.at_ with
 | 2 => exs (alTL T g u pb x slot gen n s a) | 6 => exs (alGL T g u pb x slot gen n s a) | k => exs (alSL (alFn k) T g u slot gen n s a)
abbrev AlO := AlT 152
section
variable {T : TypeId} {g u pb : Nat} {x : Cn} {slot : Nat} {gen : Int} {n : Nat} {s : AlS} {a : Option Addr}
theorem AlO.dd_ (h : s.done = true) : AlT T g u pb x slot gen n s a = exs (alDL T g u pb x slot gen n s a) := by unfold AlT; rw [h]; rfl
theorem AlO.tt_ (h : s.done = false) (h0 : s.at_ = 2) : AlT T g u pb x slot gen n s a = exs (alTL T g u pb x slot gen n s a) := by unfold AlT; rw [h, h0]; rfl
theorem AlO.gg_ (h : s.done = false) (h0 : s.at_ = 6) : AlT T g u pb x slot gen n s a = exs (alGL T g u pb x slot gen n s a) := by unfold AlT; rw [h, h0]; rfl
theorem AlO.ss_ (h : s.done = false) (h2 : s.at_ ≠ 2) (h6 : s.at_ ≠ 6) : AlT T g u pb x slot gen n s a = exs (alSL (alFn s.at_) T g u slot gen n s a) := by
 unfold AlT
 rw [h]
 split
 ·exact absurd ‹_› h2
 ·exact absurd ‹_› h6
 ·rfl
end
theorem AlO.closeS {b g u pb : Nat} {x : Cn} {slot : Nat} {gen : Int} {n : Nat} {n1 n2 n3 tp : Value} {cnt : Int} {v : AlV} {rt : Rt} {f : FuncId} (s : AlS) (h : s.done = false) (h2' : Nat.beq s.at_ 2 = false) (h6' : Nat.beq s.at_ 6 = false) (hf : f = alFn s.at_) (hc : cnt = (s.v.cnt : Nat)) (hv : { v with cnt := s.v.cnt } = s.v) (hr : rt = rtOf s.v.was) :
  Ent (alB b (mth f b) n1 n2 n3 g u slot gen n cnt v rt tp (.pointer none) :: G) (pt (some ⟨b, 0, none⟩) (AlO g u pb x slot gen n s) :: G) := by
 subst hf hc hr
 have h2 : s.at_ ≠ 2 := fun e => by rw [e] at h2'; cases h2'
 have h6 : s.at_ ≠ 6 := fun e => by rw [e] at h6'; cases h6'
 obtain ⟨a1, v0, t0, g0, d0⟩ := s
 obtain ⟨c1, c2, c3, c4, c5, c6, c7, c8, c9, c10⟩ := v0
 obtain ⟨e1, e2, e3, e4, e5, e6, e7, e8, e9, e10⟩ := v
 dsimp only at hv
 cases hv
 exact Ent.close (f := alSL (alFn a1) 152 g u slot gen n _ (some ⟨b, 0, none⟩)) (AlO.ss_ h h2 h6) (n1, n2, n3, tp)
theorem AlO.closeT {b g u pb q : Nat} {x : Cn} {slot : Nat} {gen : Int} {n : Nat} {cnt : Int} {v : AlV} {rt : Rt} {t : TakeS} (s : AlS) (h : s.done = false) (h2 : s.at_ = 2) (hc : cnt = (s.v.cnt : Nat)) (hv : { v with cnt := s.v.cnt } = s.v) (hr : rt = rtOf s.v.was) (ht : t = s.t) :
  Ent (alB b (mth 232 b) (mth 159 q) (mth 160 q) (mth 161 b) g u slot gen n cnt v rt (.pointer (some ⟨q, 0, none⟩)) (.pointer none) :: pt (some ⟨q, 0, none⟩) (TakeO u pb x.pool t) :: G) (pt (some ⟨b, 0, none⟩) (AlO g u pb x slot gen n s) :: G) := by
 subst hc hr ht
 obtain ⟨a1, v0, t0, g0, d0⟩ := s
 obtain ⟨c1, c2, c3, c4, c5, c6, c7, c8, c9, c10⟩ := v0
 obtain ⟨e1, e2, e3, e4, e5, e6, e7, e8, e9, e10⟩ := v
 dsimp only at hv
 cases hv
 exact Ent.close (f := alTL 152 g u pb x slot gen n _ (some ⟨b, 0, none⟩)) (AlO.tt_ h h2) q
theorem AlO.closeG {b g u pb q : Nat} {x : Cn} {slot : Nat} {gen : Int} {n : Nat} {tp : Value} {cnt : Int} {v : AlV} {rt : Rt} {p : PushS} (s : AlS) (h : s.done = false) (h2 : s.at_ = 6) (hc : cnt = (s.v.cnt : Nat)) (hv : { v with cnt := s.v.cnt } = s.v) (hr : rt = rtOf s.v.was) (ht : p = s.g) :
  Ent (alB b (mth 232 b) (mth 208 q) (mth 188 q) (mth 209 b) g u slot gen n cnt v rt tp (.pointer (some ⟨q, 0, none⟩)) :: pt (some ⟨q, 0, none⟩) (GiveO pb x.pool p) :: G) (pt (some ⟨b, 0, none⟩) (AlO g u pb x slot gen n s) :: G) := by
 subst hc hr ht
 obtain ⟨a1, v0, t0, g0, d0⟩ := s
 obtain ⟨c1, c2, c3, c4, c5, c6, c7, c8, c9, c10⟩ := v0
 obtain ⟨e1, e2, e3, e4, e5, e6, e7, e8, e9, e10⟩ := v
 dsimp only at hv
 cases hv
 exact Ent.close (f := alGL 152 g u pb x slot gen n _ (some ⟨b, 0, none⟩)) (AlO.gg_ h h2) (q, tp)
theorem AlO.closeD {b g u pb q : Nat} {x : Cn} {slot : Nat} {gen : Int} {n : Nat} {n1 n2 n3 tp : Value} {cnt : Int} {v : AlV} {rt : Rt} {p : PushS} (s : AlS) (h : s.done = true) (hc : cnt = (s.v.cnt : Nat)) (hv : { v with cnt := s.v.cnt } = s.v) (hr : rt = rtOf s.v.was) (ht : p = s.g) :
  Ent (alB b .nilFunc n1 n2 n3 g u slot gen n cnt v rt tp (.pointer (some ⟨q, 0, none⟩)) :: pt (some ⟨q, 0, none⟩) (GiveO pb x.pool p) :: G) (pt (some ⟨b, 0, none⟩) (AlO g u pb x slot gen n s) :: G) := by
 subst hc hr ht
 obtain ⟨a1, v0, t0, g0, d0⟩ := s
 obtain ⟨c1, c2, c3, c4, c5, c6, c7, c8, c9, c10⟩ := v0
 obtain ⟨e1, e2, e3, e4, e5, e6, e7, e8, e9, e10⟩ := v
 dsimp only at hv
 cases hv
 exact Ent.close (f := alDL 152 g u pb x slot gen n _ (some ⟨b, 0, none⟩)) (AlO.dd_ h) (q, n1, n2, n3, tp)
theorem alEnd {v : Value} : Fx Tryz.prog 209 [v] L (fun v L' => v = .tuple #[] ∧ L = L') := by
 refine Fx.mk Tryz.func209 k209 nb_ ?_
 dsimp only [c209, envOf, Nat.reduceAdd]
 refine Cx.sk ?_
 exact Kr.none (.inl rfl) (Ent.refl _) ⟨rfl, rfl⟩
theorem grantAlloc {g u mp pb : Nat} {x : Cn} (slot : Nat) (gen : Int) (n : Nat) (hs : slot < x.sl) (hn : 1 ≤ n) (hn2 : n ≤ x.wd) [t : Take L (some ⟨g, 0, none⟩) (GrO mp x) F] :
  Fx Tryz.prog 19 [.pointer (some ⟨g, 0, none⟩), .pointer (some ⟨u, 0, none⟩), .int .i64 slot, .int .i64 gen, .int .i64 n] L (fun v L' => ∃ b, v = .tuple #[.pointer (some ⟨b, 0, none⟩), .int .i64 0] ∧ L' = pt (some ⟨b, 0, none⟩) (AlO g u pb x slot gen n AlS.init) :: L) := by
 refine Fx.mk Tryz.func19 k19 nb_ ?_
 dsimp only [c19, envOf, Nat.reduceAdd]
 refine go ?_
 refine Cx.cno rfl (decide_eq_false (by omega)) ?_
 refine go ?_
 refine Sx.gyes rfl (decide_eq_false (by omega)) ?_
 refine go ?_
 refine Cx.cno rfl (decide_eq_false (by omega)) ?_
 refine go ?_
 refine Sx.bx rfl rfl fun b => ?_
 refine Sx.re (alF .nilFunc .nilFunc .nilFunc .nilFunc g u slot gen n 0 AlV.init ⟨0, 0, 0, 0⟩ (.pointer none) (.pointer none)) rfl ?_
 refine go ?_
 refine Sx.ca rfl (machGo (b := b)) ?_
 rintro v L' ⟨rfl, rfl⟩
 refine go ?_
 refine Kr.two (.inr rfl) rfl rfl ?_ ⟨b, rfl, rfl⟩
 exact AlO.closeS (b := b) (g := g) (u := u) (pb := pb) (x := x) (slot := slot) (gen := gen) (n := n) (v := AlV.init) (rt := ⟨0, 0, 0, 0⟩) AlS.init rfl rfl rfl rfl rfl rfl rfl
end
end Go.Proofs.YtflalhdofhobmaaGreat


namespace Go.Proofs.YtflalhdofhobmaaGreat
open Go
attribute [local irreducible] Sx Cx Rx Fx Krg Ksq Kbl Klp Kr
section
variable {L F G : St}
set_option maxHeartbeats 4000000 in
theorem alClose_ {b g u mp pb : Nat} {x : Cn} {slot : Nat} {gen : Int} {n : Nat} {v : AlV} {rt : Rt} {n1 n2 n3 tp : Value} {S : SupS} {cnt : Int} (code : Nat) (o : Hd) (t : TakeS) (hcnt : cnt = (v.cnt : Nat)) (hh : -1 ≤ v.hand) (hb : S.xs.length ≤ 1000000) (hm0 : 0 ≤ S.most) (hm2 : S.most ≤ 64) (hr : rt = rtOf v.was) :
  Fx Tryz.prog 153 [.pointer (some ⟨b, 0, none⟩), .int .i64 (code : Nat), hdA o] (alB b .nilFunc n1 n2 n3 g u slot gen n cnt v rt tp (.pointer none) :: pt (some ⟨u, 0, none⟩) (SupO mp pb x S) :: pt (some ⟨pb, 0, none⟩) (SkO mp x.pool) :: G)
   (fun _ L' => L' = pt (some ⟨b, 0, none⟩) (AlO g u pb x slot gen n (alClose x.pool S v t code o).2) :: pt (some ⟨u, 0, none⟩) (SupO mp pb x (alClose x.pool S v t code o).1) :: pt (some ⟨pb, 0, none⟩) (SkO mp x.pool) :: G) := by
 subst hcnt
 subst hr
 refine Fx.mk Tryz.func153 k153 nb_ ?_
 dsimp only [c153, envOf, Nat.reduceAdd]
 refine Cx.sq ?_
 refine Cx.rg ?_
 refine Sx.bx rfl rfl fun q => ?_
 refine go ?_
 refine Cx.ordc rfl kr_ ?_
 refine ge ?_
 refine Ev.cakH kr_ rfl rfl (machCount (b := b)) ?_
 refine ge ?_
 refine Ev.stbH (b := b) kr_ rfl rfl rfl rfl rfl (by rfl) rfl (.dep rfl (.keep (fun v L' ⟨_, e⟩ => by subst e; exact Has.blk) .nil)) ?_
 refine ge ?_
 refine Ev.stnH (b := b) (alF .nilFunc n1 n2 n3 g u slot gen n (v.cnt : Nat) { v with code := code, obj := o } (rtOf v.was) tp (.pointer none)) kr_ rfl rfl rfl rfl rfl rfl rfl rfl (Pres.deps kr_) ?_
 refine ge ?_
 refine Ev.stbH (b := b) kr_ rfl rfl rfl rfl rfl (by rfl) rfl (Pres.deps kr_) ?_
 refine ge ?_
 refine Ev.stbH (b := b) kr_ rfl rfl rfl rfl rfl (by rfl) rfl (Pres.deps kr_) ?_
 refine ge ?_
 obtain ⟨S1, hS1⟩ : ∃ S1, S1 = (if 0 ≤ v.hand then S.give [v.hand] else S) := ⟨_, rfl⟩
 obtain ⟨V, hV⟩ : ∃ V : AlV, V = { v with code := code, obj := o, point := v.cnt, ends := true, hand := -1 } := ⟨_, rfl⟩
 obtain ⟨gi, hgi⟩ : ∃ gi, gi = giveInit x.pool (S1.xs.take (overK S1.most S1.xs)) := ⟨_, rfl⟩
 have hcl : alClose x.pool S v t code o = ({ S1 with xs := S1.xs.drop (overK S1.most S1.xs) }, ⟨6, V, t, gi, gi.done⟩) := by
  unfold alClose; rw [hgi, hV, hS1]
 rw [hcl]
 have hSm : S1.most = S.most := by rw [hS1]; split <;> rfl
 have hSl : S1.xs.length ≤ 1000001 := by
  rw [hS1]; split
  ·simp [SupS.give]; omega
  ·omega
 refine Cx.sq ?_
 refine Cx.jn (β := Unit) (fun _ => [(0, .pointer (some ⟨b, 0, none⟩))])
  (fun _ => alB b .nilFunc n1 n2 n3 g u slot gen n (v.cnt : Nat) V (rtOf v.was) tp (.pointer none) :: pt (some ⟨u, 0, none⟩) (SupO mp pb x S1) :: pt (some ⟨pb, 0, none⟩) (SkO mp x.pool) :: G) ?_ ?_
 ·refine go ?_
  refine Cx.ifp rfl (fun h => ?_) (fun h => ?_)
  ·rw [if_pos (by omega)] at hS1
   refine go ?_
   refine Cx.ordc rfl kr_ ?_
   refine ge ?_
   refine Ev.bsH (sz := 1) kr_ rfl rfl rfl (.dep rfl (.keep (fun v L' ⟨_, _, e⟩ => by subst e; exact Has.cell rfl) .nil)) fun r => ?_
   refine ge ?_
   refine Ev.caH kr_ rfl rfl (supPut (u := u) (mp := mp) (pb := pb) (x := x) (s := S) (ys := [v.hand]) (Rd.row (b := r) (E := 3) (cap := 1) rfl) (by omega)) (Pres.deps kr_) ?_
   rintro v' L' ⟨rfl, rfl⟩
   refine ge ?_
   refine go ?_
   refine Kjn.nm () (sub.cons rfl sub.nil) ?_
   rw [hV, hS1]
   exact ent
  ·rw [if_neg (by omega)] at hS1
   refine go ?_
   refine Kjn.nm () (sub.cons rfl sub.nil) ?_
   have e : v.hand = -1 := by dsimp only at h; omega
   rw [hV, hS1]
   simp only [e]
   exact ent
 rintro ⟨⟩
 refine go ?_
 refine Sx.ca rfl (supSpill (u := u) (mp := mp) (pb := pb) (x := x) (s := S1) (by omega) (by omega) (by omega)) ?_
 rintro v' L' ⟨r, rfl, rfl⟩
 refine go ?_
 refine Cx.orde rfl kr_ ?_
 refine ge ?_
 rw [← hgi]
 cases hg : gi.done with
 | true =>
   refine Ev.caH kr_ rfl rfl (machThrough (b := b) (machOnYes (b := b) kr_ ((giveDone (b := r) (pb := pb) (k := x.pool) (p := gi)).mono (by rintro v L' ⟨rfl, rfl⟩; exact ⟨by rw [hg], rfl⟩)) kr_ alEnd)) (Pres.deps kr_) ?_
   rintro v' L' ⟨rfl, w, rfl, w2, rfl, rfl⟩
   refine ge ?_
   refine Kr.none (.inl rfl) ?_ rfl
   refine Ent.trans (Ent.take (a := some ⟨b, 0, none⟩)) ?_
   refine Ent.trans (Ent.cons (Ent.take (a := some ⟨r, 0, none⟩))) ?_
   refine Ent.trans (AlO.closeD (v := V) (rt := rtOf v.was) ⟨6, V, t, gi, true⟩ rfl (by rw [hV]) rfl (by rw [hV]) rfl) (Ent.cons ?_)
   exact ent
 | false =>
   refine Ev.caH kr_ rfl rfl (machThrough (b := b) (machOnNo (b := b) kr_ ((giveDone (b := r) (pb := pb) (k := x.pool) (p := gi)).mono (by rintro v L' ⟨rfl, rfl⟩; exact ⟨by rw [hg], rfl⟩)))) (Pres.deps kr_) ?_
   rintro v' L' ⟨rfl, w, rfl, rfl⟩
   refine ge ?_
   refine Kr.none (.inl rfl) ?_ rfl
   refine Ent.trans (Ent.take (a := some ⟨b, 0, none⟩)) ?_
   refine Ent.trans (Ent.cons (Ent.take (a := some ⟨r, 0, none⟩))) ?_
   refine Ent.trans (AlO.closeG (v := V) (rt := rtOf v.was) ⟨6, V, t, gi, false⟩ rfl rfl (by rw [hV]) rfl (by rw [hV]) rfl) (Ent.cons ?_)
   exact ent
theorem alCloseC {b g u mp pb : Nat} {x : Cn} {slot : Nat} {gen : Int} {n : Nat} {v : AlV} {rt : Rt} {n1 n2 n3 tp : Value} {S : SupS} {cnt : Int} {F1 F2 F3 : St} (code : Nat) (o : Hd) (t : TakeS) (hcnt : cnt = (v.cnt : Nat)) (hh : -1 ≤ v.hand) (hb : S.xs.length ≤ 1000000) (hm0 : 0 ≤ S.most) (hm2 : S.most ≤ 64) (hr : rt = rtOf v.was)
  [t1 : Take L (some ⟨b, 0, none⟩) (Blk 152 (alF .nilFunc n1 n2 n3 g u slot gen n cnt v rt tp (.pointer none))) F1] [t2 : Take F1 (some ⟨u, 0, none⟩) (SupO mp pb x S) F2] [t3 : Take F2 (some ⟨pb, 0, none⟩) (SkO mp x.pool) F3] :
  Fx Tryz.prog 153 [.pointer (some ⟨b, 0, none⟩), .int .i64 (code : Nat), hdA o] L
   (fun _ L' => L' = pt (some ⟨b, 0, none⟩) (AlO g u pb x slot gen n (alClose x.pool S v t code o).2) :: pt (some ⟨u, 0, none⟩) (SupO mp pb x (alClose x.pool S v t code o).1) :: pt (some ⟨pb, 0, none⟩) (SkO mp x.pool) :: F3) :=
 Fx.ent (Ent.trans (Ent.of t1.out) (Ent.cons (Ent.trans (Ent.of t2.out) (Ent.cons (Ent.of t3.out))))) (alClose_ code o t hcnt hh hb hm0 hm2 hr)
end
end Go.Proofs.YtflalhdofhobmaaGreat


namespace Go.Proofs.YtflalhdofhobmaaGreat
open Go
attribute [local irreducible] Sx Cx Rx Fx Krg Ksq Kbl Klp Kr
section
variable {L F G : St}
set_option maxHeartbeats 1000000 in
theorem alTaken_ {b g u pb q : Nat} {x : Cn} {slot : Nat} {gen : Int} {n : Nat} {v : AlV} {n1 n2 n3 : Value} {t : TakeS} {cnt : Int} (hcnt : cnt = (v.cnt : Nat)) (ht : t.ok) :
  Fx Tryz.prog 161 [.pointer (some ⟨b, 0, none⟩)] (alB b .nilFunc n1 n2 n3 g u slot gen n cnt v (rtOf v.was) (.pointer (some ⟨q, 0, none⟩)) (.pointer none) :: pt (some ⟨q, 0, none⟩) (TakeO u pb x.pool t) :: G)
   (fun v' L' => L' = pt (some ⟨b, 0, none⟩) (AlO g u pb x slot gen n (alTaken v t)) :: G) := by
 subst hcnt
 refine Fx.mk Tryz.func161 k161 nb_ ?_
 dsimp only [c161, envOf, Nat.reduceAdd]
 refine go ?_
 refine Sx.ca rfl (takeChunk (b := q) (u := u) (pb := pb) (k := x.pool) (t := t) ht) ?_
 rintro v' L' ⟨rfl, rfl⟩
 refine go ?_
 cases hi : t.is_ with
 | false =>
   have e : alTaken v t = ⟨0, v, t, gNone, false⟩ := by unfold alTaken; rw [hi]; rfl
   rw [e]
   refine go ?_
   refine Sx.ca rfl (machGo (b := b)) ?_
   rintro v' L' ⟨rfl, rfl⟩
   refine go ?_
   refine Kr.none (.inr rfl) ?_ rfl
   refine Ent.trans (AlO.closeS (v := v) (rt := rtOf v.was) ⟨0, v, t, gNone, false⟩ rfl rfl rfl rfl rfl rfl rfl) (Ent.cons ?_)
   exact ent
 | true =>
   have e : alTaken v t = ⟨3, { v with hand := t.chunk }, t, gNone, false⟩ := by unfold alTaken; rw [hi]; rfl
   rw [e]
   refine go ?_
   refine Sx.ca rfl (machGo (b := b)) ?_
   rintro v' L' ⟨rfl, rfl⟩
   refine go ?_
   refine Kr.none (.inl rfl) ?_ rfl
   refine Ent.trans (AlO.closeS (v := { v with hand := t.chunk }) (rt := rtOf v.was) ⟨3, { v with hand := t.chunk }, t, gNone, false⟩ rfl rfl rfl rfl rfl rfl rfl) (Ent.cons ?_)
   exact ent
set_option maxHeartbeats 4000000 in
theorem alLook_ {b g u mp pb : Nat} {x : Cn} {slot : Nat} {gen : Int} {n : Nat} {v : AlV} {rt : Rt} {n1 n2 n3 tp : Value} {S : SupS} {m : Mm} {cnt : Int} (t : TakeS) (hcnt : cnt = (v.cnt : Nat)) (hx : x.ok) (hm : m.ok) (hl : x.len ≤ m.ws.length) (hs : slot < x.sl) (hn : 1 ≤ n) (hn2 : n ≤ x.wd) (hw8 : x.wd % 8 = 0)
  (hh : -1 ≤ v.hand) (hok : (rtOf (m.at_ (x.root + slot))).ok) (hb : S.xs.length + S.lm.size ≤ 1000000) (hm0 : 0 ≤ S.most) (hm2 : S.most ≤ 64) :
  Fx Tryz.prog 80 [.pointer (some ⟨b, 0, none⟩)] (alB b .nilFunc n1 n2 n3 g u slot gen n cnt v rt tp (.pointer none) :: pt (some ⟨u, 0, none⟩) (SupO mp pb x S) :: pt (some ⟨mp, 0, none⟩) (MemO m) :: pt (some ⟨pb, 0, none⟩) (SkO mp x.pool) :: pt (some ⟨g, 0, none⟩) (GrO mp x) :: G)
   (fun _ L' => L' = pt (some ⟨b, 0, none⟩) (AlO g u pb x slot gen n (alSeen (x.al slot gen n) S { v with was := m.at_ (x.root + slot) } t).2) :: pt (some ⟨u, 0, none⟩) (SupO mp pb x (alSeen (x.al slot gen n) S { v with was := m.at_ (x.root + slot) } t).1) :: pt (some ⟨mp, 0, none⟩) (MemO m.tick) :: pt (some ⟨pb, 0, none⟩) (SkO mp x.pool) :: pt (some ⟨g, 0, none⟩) (GrO mp x) :: G) := by
 subst hcnt
 obtain ⟨b1, b2, b3, b4, b5, b6, b7⟩ := show MayC (x.w : Int) x.c x.wd x.sl x.ca x.ba from hx
 have hsz : x.root + x.sl ≤ x.len := by unfold Cn.root Cn.len; omega
 have hwl := Mm.at_lt hm (x.root + slot)
 obtain ⟨W, hW⟩ : ∃ W, m.at_ (x.root + slot) = W := ⟨_, rfl⟩
 rw [hW] at hok hwl ⊢
 refine Fx.mk Tryz.func80 k80 nb_ ?_
 dsimp only [c80, envOf, Nat.reduceAdd]
 refine Cx.sq ?_
 refine Cx.ordc rfl kr_ ?_
 refine ge ?_
 refine Ev.cakH kr_ rfl rfl (layRootN hx slot hs) ?_
 refine ge ?_
 refine Ev.caH kr_ rfl rfl (cellsLoad (b := mp) (m := m) (x.root + slot) (by omega)) (Pres.deps kr_) ?_
 rintro v' L' ⟨rfl, rfl⟩
 rw [hW]
 refine ge ?_
 refine Ev.stbH (b := b) kr_ rfl rfl rfl rfl rfl (by rfl) rfl (Pres.deps kr_) ?_
 refine ge ?_
 refine go ?_
 refine Sx.ca rfl (getRoot W hwl) ?_
 rintro v' L' ⟨rfl, rfl⟩
 refine go ?_
 refine Sx.st (b := b) rfl rfl rfl rfl rfl rfl ?_
 refine Sx.re (alF .nilFunc n1 n2 n3 g u slot gen n (v.cnt : Nat) { v with was := W } (rtOf W) tp (.pointer none)) rfl ?_
 refine go ?_
 refine Cx.ordc rfl kr_ ?_
 refine ge ?_
 refine Ev.cakH kr_ rfl rfl (wordLive (rtOf W) gen) ?_
 refine ge ?_
 by_cases hlive : (rtOf W).live gen
 case neg =>
  have e : alSeen (x.al slot gen n) S { v with was := W } t = alClose x.pool S { v with was := W } t 3 Hd.zero := by
   unfold alSeen; rw [if_neg hlive]
  rw [e, decide_eq_false hlive]
  refine go ?_
  refine Sx.ca rfl (alCloseC (b := b) (g := g) (u := u) (mp := mp) (pb := pb) (x := x) (slot := slot) (gen := gen) (n := n) (v := { v with was := W }) (rt := rtOf W) (S := S) 3 Hd.zero t rfl hh (by omega) hm0 hm2 rfl) ?_
  rintro v' L' rfl
  refine go ?_
  refine Kr.none (.inr rfl) ?_ rfl
  exact ent
 case pos =>
  rw [decide_eq_true hlive]
  refine go ?_
  refine Cx.ordc rfl kr_ ?_
  refine ge ?_
  have hrl := roundS_le hok.c hn2 hw8
  have hrg := roundS_ge (n := n) hok.c
  refine Ev.cakH kr_ rfl rfl (sizeRound (rtOf W).cl n hok.c hn (by omega)) ?_
  obtain ⟨need, hneed⟩ : ∃ need, roundS (rtOf W).cl n = need := ⟨_, rfl⟩
  rw [hneed] at hrl hrg ⊢
  refine ge ?_
  refine Ev.stbH (b := b) kr_ rfl rfl rfl rfl rfl (by rfl) rfl (Pres.deps kr_) ?_
  refine ge ?_
  refine go ?_
  refine Cx.ordc rfl kr_ ?_
  refine ge ?_
  rcases (show (2 ≤ (rtOf W).mrk ∧ fitsS x.wd (rtOf W).off need) ∨ (2 ≤ (rtOf W).mrk ∧ ¬ fitsS x.wd (rtOf W).off need) ∨ ¬ 2 ≤ (rtOf W).mrk from by
   by_cases h1 : 2 ≤ (rtOf W).mrk
   ·by_cases h2 : fitsS x.wd (rtOf W).off need
    ·exact .inl ⟨h1, h2⟩
    ·exact .inr (.inl ⟨h1, h2⟩)
   ·exact .inr (.inr h1)) with ⟨hmk, hf⟩ | ⟨hmk, hf⟩ | hmk
  ·refine Ev.yes 96 rfl (decide_eq_true (by omega)) ?_
   refine ge ?_
   refine Ev.cakH kr_ rfl rfl (sizeFits x.wd (rtOf W).off need (by omega) (by omega) (by omega) hrl) ?_
   refine ge ?_
   rw [decide_eq_true hf]
   have e : alSeen (x.al slot gen n) S { v with was := W } t = (S, ⟨1, { v with was := W, need := need }, t, gNone, false⟩) := by
    unfold alSeen; rw [if_pos hlive]; dsimp only; rw [hneed, if_pos ⟨hmk, hf⟩]
   rw [e]
   refine go ?_
   refine Sx.ca rfl (machGo (b := b)) ?_
   rintro v' L' ⟨rfl, rfl⟩
   refine go ?_
   refine Kr.none (.inl rfl) ?_ rfl
   refine Ent.trans (Ent.take (a := some ⟨b, 0, none⟩)) ?_
   refine Ent.trans (AlO.closeS (v := { v with was := W, need := need }) (rt := rtOf W) ⟨1, { v with was := W, need := need }, t, gNone, false⟩ rfl rfl rfl rfl rfl rfl rfl) (Ent.cons ?_)
   exact ent
  ·have hnf : ¬ (2 ≤ (rtOf W).mrk ∧ fitsS x.wd (rtOf W).off need) := fun h => by first | exact hf h.2 | exact hmk h.1
   first
    | (refine Ev.yes 96 rfl (decide_eq_true (by omega)) ?_
       refine ge ?_
       refine Ev.cakH kr_ rfl rfl (sizeFits x.wd (rtOf W).off need (by omega) (by omega) (by omega) hrl) ?_
       refine ge ?_
       rw [decide_eq_false hf])
    | (refine Ev.no 96 rfl (decide_eq_false (by omega)) ?_
       refine ge ?_)
   refine go ?_
   refine Cx.ifp rfl (fun h => ?_) (fun h => ?_)
   ·have e : alSeen (x.al slot gen n) S { v with was := W } t = (S, ⟨4, { v with was := W, need := need }, t, gNone, false⟩) := by
     unfold alSeen; rw [if_pos hlive]; dsimp only; rw [hneed, if_neg hnf, if_pos (by exact h)]
    rw [e]
    refine go ?_
    refine Sx.ca rfl (machGo (b := b)) ?_
    rintro v' L' ⟨rfl, rfl⟩
    refine go ?_
    refine Kr.none (.inl rfl) ?_ rfl
    refine Ent.trans (Ent.take (a := some ⟨b, 0, none⟩)) ?_
    refine Ent.trans (AlO.closeS (v := { v with was := W, need := need }) (rt := rtOf W) ⟨4, { v with was := W, need := need }, t, gNone, false⟩ rfl rfl rfl rfl rfl rfl rfl) (Ent.cons ?_)
    exact ent
   ·dsimp only at h
    cases hask : v.asked with
    | true =>
      have e : alSeen (x.al slot gen n) S { v with was := W } t = alClose x.pool S { v with was := W, need := need, asked := true } t 6 Hd.zero := by
       unfold alSeen; rw [if_pos hlive]; dsimp only; rw [hneed, if_neg hnf, if_neg h, if_pos hask, hask]
      rw [hask] at e
      rw [e]
      refine go ?_
      refine Sx.ca rfl (alCloseC (b := b) (g := g) (u := u) (mp := mp) (pb := pb) (x := x) (slot := slot) (gen := gen) (n := n) (v := { v with was := W, need := need, asked := true }) (rt := rtOf W) (S := S) 6 Hd.zero t rfl hh (by omega) hm0 hm2 rfl) ?_
      rintro v' L' rfl
      refine go ?_
      refine Kr.none (.inl rfl) ?_ rfl
      exact ent
    | false =>
      obtain ⟨T, hT⟩ : ∃ T, takeInit x.ba S = T := ⟨_, rfl⟩
      have hst := supTake (u := u) (mp := mp) (pb := pb) (x := x) (s := S) hx hb (L := pt (some ⟨b, 0, none⟩) (Blk 152 (alF .nilFunc n1 n2 n3 g u slot gen n (v.cnt : Nat) { v with was := W, need := need, asked := true } (rtOf W) tp (.pointer none))) :: pt (some ⟨u, 0, none⟩) (SupO mp pb x S) :: pt (some ⟨mp, 0, none⟩) (MemO m.tick) :: pt (some ⟨pb, 0, none⟩) (SkO mp x.pool) :: pt (some ⟨g, 0, none⟩) (GrO mp x) :: G)
      have htok := takeInit_ok (ba := x.ba) (s := S)
      rw [hT] at hst htok
      refine go ?_
      refine Sx.ent ?_ (Sx.ca rfl hst ?_)
      ·exact ent
      rintro v' L' ⟨q, rfl, rfl⟩
      refine go ?_
      cases hd : T.2.done with
      | true =>
        have e : alSeen (x.al slot gen n) S { v with was := W } t = (T.1, alTaken { v with was := W, need := need, asked := true } T.2) := by
         unfold alSeen; rw [if_pos hlive]; dsimp only; rw [hneed, if_neg hnf, if_neg h, if_neg (by rw [hask]; decide), hT, if_pos hd]
        rw [hask] at e
        rw [e]
        refine Cx.orde rfl kr_ ?_
        refine ge ?_
        refine Ev.caH kr_ rfl rfl (machThrough (b := b) (machOnYes (b := b) kr_ ((takeDone (b := q) (u := u) (pb := pb) (k := x.pool) (t := T.2) htok).mono (by rintro v L' ⟨rfl, rfl⟩; exact ⟨by rw [hd], rfl⟩)) kr_
         (alTaken_ (b := b) (q := q) (g := g) (u := u) (pb := pb) (x := x) (slot := slot) (gen := gen) (n := n) (v := { v with was := W, need := need, asked := true }) (t := T.2) rfl htok))) (Pres.deps kr_) ?_
        rintro v' L' ⟨rfl, w, ⟨_, w2, rfl⟩⟩
        refine ge ?_
        refine go ?_
        refine Kr.none (.inl rfl) ?_ rfl
        exact ent
      | false =>
        have e : alSeen (x.al slot gen n) S { v with was := W } t = (T.1, ⟨2, { v with was := W, need := need, asked := true }, T.2, gNone, false⟩) := by
         unfold alSeen; rw [if_pos hlive]; dsimp only; rw [hneed, if_neg hnf, if_neg h, if_neg (by rw [hask]; decide), hT, if_neg (by rw [hd]; decide)]
        rw [hask] at e
        rw [e]
        refine Cx.orde rfl kr_ ?_
        refine ge ?_
        refine Ev.caH kr_ rfl rfl (machThrough (b := b) (machOnNo (b := b) kr_ ((takeDone (b := q) (u := u) (pb := pb) (k := x.pool) (t := T.2) htok).mono (by rintro v L' ⟨rfl, rfl⟩; exact ⟨by rw [hd], rfl⟩)))) (Pres.deps kr_) ?_
        rintro v' L' ⟨rfl, w, ⟨_, rfl⟩⟩
        refine ge ?_
        refine go ?_
        refine Kr.none (.inl rfl) ?_ rfl
        refine Ent.trans (Ent.take (a := some ⟨b, 0, none⟩)) ?_
        refine Ent.trans (Ent.cons (Ent.take (a := some ⟨q, 0, none⟩))) ?_
        refine Ent.trans (AlO.closeT (v := { v with was := W, need := need, asked := true }) (rt := rtOf W) ⟨2, { v with was := W, need := need, asked := true }, T.2, gNone, false⟩ rfl rfl rfl rfl rfl rfl) (Ent.cons ?_)
        exact ent
  ·have hnf : ¬ (2 ≤ (rtOf W).mrk ∧ fitsS x.wd (rtOf W).off need) := fun h => by first | exact hf h.2 | exact hmk h.1
   first
    | (refine Ev.yes 96 rfl (decide_eq_true (by omega)) ?_
       refine ge ?_
       refine Ev.cakH kr_ rfl rfl (sizeFits x.wd (rtOf W).off need (by omega) (by omega) (by omega) hrl) ?_
       refine ge ?_
       rw [decide_eq_false hf])
    | (refine Ev.no 96 rfl (decide_eq_false (by omega)) ?_
       refine ge ?_)
   refine go ?_
   refine Cx.ifp rfl (fun h => ?_) (fun h => ?_)
   ·have e : alSeen (x.al slot gen n) S { v with was := W } t = (S, ⟨4, { v with was := W, need := need }, t, gNone, false⟩) := by
     unfold alSeen; rw [if_pos hlive]; dsimp only; rw [hneed, if_neg hnf, if_pos (by exact h)]
    rw [e]
    refine go ?_
    refine Sx.ca rfl (machGo (b := b)) ?_
    rintro v' L' ⟨rfl, rfl⟩
    refine go ?_
    refine Kr.none (.inl rfl) ?_ rfl
    refine Ent.trans (Ent.take (a := some ⟨b, 0, none⟩)) ?_
    refine Ent.trans (AlO.closeS (v := { v with was := W, need := need }) (rt := rtOf W) ⟨4, { v with was := W, need := need }, t, gNone, false⟩ rfl rfl rfl rfl rfl rfl rfl) (Ent.cons ?_)
    exact ent
   ·dsimp only at h
    cases hask : v.asked with
    | true =>
      have e : alSeen (x.al slot gen n) S { v with was := W } t = alClose x.pool S { v with was := W, need := need, asked := true } t 6 Hd.zero := by
       unfold alSeen; rw [if_pos hlive]; dsimp only; rw [hneed, if_neg hnf, if_neg h, if_pos hask, hask]
      rw [hask] at e
      rw [e]
      refine go ?_
      refine Sx.ca rfl (alCloseC (b := b) (g := g) (u := u) (mp := mp) (pb := pb) (x := x) (slot := slot) (gen := gen) (n := n) (v := { v with was := W, need := need, asked := true }) (rt := rtOf W) (S := S) 6 Hd.zero t rfl hh (by omega) hm0 hm2 rfl) ?_
      rintro v' L' rfl
      refine go ?_
      refine Kr.none (.inl rfl) ?_ rfl
      exact ent
    | false =>
      obtain ⟨T, hT⟩ : ∃ T, takeInit x.ba S = T := ⟨_, rfl⟩
      have hst := supTake (u := u) (mp := mp) (pb := pb) (x := x) (s := S) hx hb (L := pt (some ⟨b, 0, none⟩) (Blk 152 (alF .nilFunc n1 n2 n3 g u slot gen n (v.cnt : Nat) { v with was := W, need := need, asked := true } (rtOf W) tp (.pointer none))) :: pt (some ⟨u, 0, none⟩) (SupO mp pb x S) :: pt (some ⟨mp, 0, none⟩) (MemO m.tick) :: pt (some ⟨pb, 0, none⟩) (SkO mp x.pool) :: pt (some ⟨g, 0, none⟩) (GrO mp x) :: G)
      have htok := takeInit_ok (ba := x.ba) (s := S)
      rw [hT] at hst htok
      refine go ?_
      refine Sx.ent ?_ (Sx.ca rfl hst ?_)
      ·exact ent
      rintro v' L' ⟨q, rfl, rfl⟩
      refine go ?_
      cases hd : T.2.done with
      | true =>
        have e : alSeen (x.al slot gen n) S { v with was := W } t = (T.1, alTaken { v with was := W, need := need, asked := true } T.2) := by
         unfold alSeen; rw [if_pos hlive]; dsimp only; rw [hneed, if_neg hnf, if_neg h, if_neg (by rw [hask]; decide), hT, if_pos hd]
        rw [hask] at e
        rw [e]
        refine Cx.orde rfl kr_ ?_
        refine ge ?_
        refine Ev.caH kr_ rfl rfl (machThrough (b := b) (machOnYes (b := b) kr_ ((takeDone (b := q) (u := u) (pb := pb) (k := x.pool) (t := T.2) htok).mono (by rintro v L' ⟨rfl, rfl⟩; exact ⟨by rw [hd], rfl⟩)) kr_
         (alTaken_ (b := b) (q := q) (g := g) (u := u) (pb := pb) (x := x) (slot := slot) (gen := gen) (n := n) (v := { v with was := W, need := need, asked := true }) (t := T.2) rfl htok))) (Pres.deps kr_) ?_
        rintro v' L' ⟨rfl, w, ⟨_, w2, rfl⟩⟩
        refine ge ?_
        refine go ?_
        refine Kr.none (.inl rfl) ?_ rfl
        exact ent
      | false =>
        have e : alSeen (x.al slot gen n) S { v with was := W } t = (T.1, ⟨2, { v with was := W, need := need, asked := true }, T.2, gNone, false⟩) := by
         unfold alSeen; rw [if_pos hlive]; dsimp only; rw [hneed, if_neg hnf, if_neg h, if_neg (by rw [hask]; decide), hT, if_neg (by rw [hd]; decide)]
        rw [hask] at e
        rw [e]
        refine Cx.orde rfl kr_ ?_
        refine ge ?_
        refine Ev.caH kr_ rfl rfl (machThrough (b := b) (machOnNo (b := b) kr_ ((takeDone (b := q) (u := u) (pb := pb) (k := x.pool) (t := T.2) htok).mono (by rintro v L' ⟨rfl, rfl⟩; exact ⟨by rw [hd], rfl⟩)))) (Pres.deps kr_) ?_
        rintro v' L' ⟨rfl, w, ⟨_, rfl⟩⟩
        refine ge ?_
        refine go ?_
        refine Kr.none (.inl rfl) ?_ rfl
        refine Ent.trans (Ent.take (a := some ⟨b, 0, none⟩)) ?_
        refine Ent.trans (Ent.cons (Ent.take (a := some ⟨q, 0, none⟩))) ?_
        refine Ent.trans (AlO.closeT (v := { v with was := W, need := need, asked := true }) (rt := rtOf W) ⟨2, { v with was := W, need := need, asked := true }, T.2, gNone, false⟩ rfl rfl rfl rfl rfl rfl) (Ent.cons ?_)
        exact ent
end
end Go.Proofs.YtflalhdofhobmaaGreat


namespace Go.Proofs.YtflalhdofhobmaaGreat
open Go
attribute [local irreducible] Sx Cx Rx Fx Krg Ksq Kbl Klp Kr
section
variable {L F G : St}
theorem word_lt {x : Cn} {k j : Nat} (hk : k < x.c) (hj : j < x.wd) : x.word + k * x.wd + j < x.len := by
 have h1 : (k + 1) * x.wd ≤ x.c * x.wd := Nat.mul_le_mul_right _ hk
 rw [Nat.succ_mul] at h1
 unfold Cn.word Cn.len; omega
theorem Rt.chunk_ge (r : Rt) : -1 ≤ r.chunk := by unfold Rt.chunk; split <;> omega
theorem Rt.chunk_lt {r : Rt} (h : r.mrk < 65536) : r.chunk < 65536 := by unfold Rt.chunk; split <;> omega
set_option maxHeartbeats 2000000 in
theorem alClear_ {b g u mp pb : Nat} {x : Cn} {slot : Nat} {gen : Int} {n : Nat} {v : AlV} {n1 n2 n3 tp : Value} {S : SupS} {m : Mm} {cnt : Int} (t : TakeS) (k : Nat) (hcnt : cnt = (v.cnt : Nat)) (hx : x.ok) (hl : x.len ≤ m.ws.length) (hk : v.hand = k) (hkc : k < x.c) (hz : v.zat < x.wd) :
  Fx Tryz.prog 221 [.pointer (some ⟨b, 0, none⟩)] (alB b .nilFunc n1 n2 n3 g u slot gen n cnt v (rtOf v.was) tp (.pointer none) :: pt (some ⟨u, 0, none⟩) (SupO mp pb x S) :: pt (some ⟨mp, 0, none⟩) (MemO m) :: pt (some ⟨pb, 0, none⟩) (SkO mp x.pool) :: pt (some ⟨g, 0, none⟩) (GrO mp x) :: G)
   (fun _ L' => L' = pt (some ⟨b, 0, none⟩) (AlO g u pb x slot gen n ⟨if v.zat + 1 < x.wd then 3 else 4, { v with zat := v.zat + 1 }, t, gNone, false⟩) :: pt (some ⟨u, 0, none⟩) (SupO mp pb x S) :: pt (some ⟨mp, 0, none⟩) (MemO (m.put (x.word + k * x.wd + v.zat) 0)) :: pt (some ⟨pb, 0, none⟩) (SkO mp x.pool) :: pt (some ⟨g, 0, none⟩) (GrO mp x) :: G) := by
 subst hcnt
 obtain ⟨cn, hand, zat, asked, ends, need, point, was, code, obj⟩ := v
 dsimp only at hk hz ⊢
 subst hk
 obtain ⟨b1, b2, b3, b4, b5, b6, b7⟩ := show MayC (x.w : Int) x.c x.wd x.sl x.ca x.ba from hx
 have hwlt := word_lt hkc hz
 refine Fx.mk Tryz.func221 k221 nb_ ?_
 dsimp only [c221, envOf, Nat.reduceAdd]
 refine Cx.sq ?_
 refine Cx.ordc rfl kr_ ?_
 refine ge ?_
 refine Ev.cakH kr_ rfl rfl (layWordN hx k zat hkc hz) ?_
 refine ge ?_
 refine Ev.caH kr_ rfl rfl (cellsStore (b := mp) (m := m) (x.word + k * x.wd + zat) 0 (by omega) (by omega)) (Pres.deps kr_) ?_
 rintro v' L' ⟨rfl, rfl⟩
 refine ge ?_
 refine go ?_
 rw [w64 (n := (zat : Int) + 1) (by omega) (by omega), show (zat : Int) + 1 = ((zat + 1 : Nat) : Int) by omega]
 refine go ?_
 refine Cx.ordc rfl kr_ ?_
 refine ge ?_
 refine Cx.ifp rfl (fun h => ?_) (fun h => ?_)
 ·rw [if_pos (show zat + 1 < x.wd by omega)]
  refine go ?_
  refine Sx.ca rfl (machGo (b := b)) ?_
  rintro v' L' ⟨rfl, rfl⟩
  refine go ?_
  refine Kr.none (.inl rfl) ?_ rfl
  refine Ent.trans (Ent.take (a := some ⟨b, 0, none⟩)) ?_
  refine Ent.trans (AlO.closeS (v := ⟨cn, k, zat + 1, asked, ends, need, point, was, code, obj⟩) (rt := rtOf was) ⟨3, ⟨cn, k, zat + 1, asked, ends, need, point, was, code, obj⟩, t, gNone, false⟩ rfl rfl rfl rfl rfl rfl rfl) (Ent.cons ?_)
  exact ent
 ·rw [if_neg (show ¬ zat + 1 < x.wd by omega)]
  refine go ?_
  refine Sx.ca rfl (machGo (b := b)) ?_
  rintro v' L' ⟨rfl, rfl⟩
  refine go ?_
  refine Kr.none (.inl rfl) ?_ rfl
  refine Ent.trans (Ent.take (a := some ⟨b, 0, none⟩)) ?_
  refine Ent.trans (AlO.closeS (v := ⟨cn, k, zat + 1, asked, ends, need, point, was, code, obj⟩) (rt := rtOf was) ⟨4, ⟨cn, k, zat + 1, asked, ends, need, point, was, code, obj⟩, t, gNone, false⟩ rfl rfl rfl rfl rfl rfl rfl) (Ent.cons ?_)
  exact ent
set_option maxHeartbeats 2000000 in
theorem alLink_ {b g u mp pb : Nat} {x : Cn} {slot : Nat} {gen : Int} {n : Nat} {v : AlV} {n1 n2 n3 tp : Value} {S : SupS} {m : Mm} {cnt : Int} (t : TakeS) (k : Nat) (hcnt : cnt = (v.cnt : Nat)) (hx : x.ok) (hl : x.len ≤ m.ws.length) (hk : v.hand = k) (hkc : k < x.c) :
  Fx Tryz.prog 157 [.pointer (some ⟨b, 0, none⟩)] (alB b .nilFunc n1 n2 n3 g u slot gen n cnt v (rtOf v.was) tp (.pointer none) :: pt (some ⟨u, 0, none⟩) (SupO mp pb x S) :: pt (some ⟨mp, 0, none⟩) (MemO m) :: pt (some ⟨pb, 0, none⟩) (SkO mp x.pool) :: pt (some ⟨g, 0, none⟩) (GrO mp x) :: G)
   (fun _ L' => L' = pt (some ⟨b, 0, none⟩) (AlO g u pb x slot gen n ⟨5, v, t, gNone, false⟩) :: pt (some ⟨u, 0, none⟩) (SupO mp pb x S) :: pt (some ⟨mp, 0, none⟩) (MemO (m.put (x.link + k) ((rtOf v.was).chunk + 1).toNat)) :: pt (some ⟨pb, 0, none⟩) (SkO mp x.pool) :: pt (some ⟨g, 0, none⟩) (GrO mp x) :: G) := by
 subst hcnt
 obtain ⟨cn, hand, zat, asked, ends, need, point, was, code, obj⟩ := v
 dsimp only at hk ⊢
 subst hk
 have hc1 := (rtOf was).chunk_ge
 have hc2 := Rt.chunk_lt (rtOf_mrk was)
 have hsz : x.link + x.c ≤ x.len := by unfold Cn.link Cn.len; omega
 refine Fx.mk Tryz.func157 k157 nb_ ?_
 dsimp only [c157, envOf, Nat.reduceAdd]
 refine Cx.sq ?_
 refine Cx.ordc rfl kr_ ?_
 refine ge ?_
 refine Ev.cakH kr_ rfl rfl (layLinkN hx k hkc) ?_
 refine ge ?_
 refine Ev.cakH kr_ rfl rfl (wordChunk (rtOf was) (rtOf_mrk _)) ?_
 refine ge ?_
 rw [wrapS (x := (rtOf was).chunk + 1) (by omega) (by omega)]
 refine Ev.caH kr_ rfl rfl (cellsStore (b := mp) (m := m) (x.link + k) ((rtOf was).chunk + 1).toNat (by omega) (by omega)) (Pres.deps kr_) ?_
 rintro v' L' ⟨rfl, rfl⟩
 refine ge ?_
 refine go ?_
 refine Sx.ca rfl (machGo (b := b)) ?_
 rintro v' L' ⟨rfl, rfl⟩
 refine go ?_
 refine Kr.none (.inl rfl) ?_ rfl
 refine Ent.trans (Ent.take (a := some ⟨b, 0, none⟩)) ?_
 refine Ent.trans (AlO.closeS (v := ⟨cn, k, zat, asked, ends, need, point, was, code, obj⟩) (rt := rtOf was) ⟨5, ⟨cn, k, zat, asked, ends, need, point, was, code, obj⟩, t, gNone, false⟩ rfl rfl rfl rfl rfl rfl rfl) (Ent.cons ?_)
 exact ent
theorem alExchange {b g u mp : Nat} {x : Cn} {slot : Nat} {gen : Int} {n : Nat} {v : AlV} {rt : Rt} {nx n1 n2 n3 tp gp : Value} {m : Mm} {cnt : Int} {F1 F2 : St} (R : Rt) (hR : R.ok) (hx : x.ok) (hl : x.len ≤ m.ws.length) (hs : slot < x.sl)
  [t1 : Take L (some ⟨mp, 0, none⟩) (MemO m) F] [t2 : Take F (some ⟨b, 0, none⟩) (Blk 152 (alF nx n1 n2 n3 g u slot gen n cnt v rt tp gp)) F1] [t3 : Take F1 (some ⟨g, 0, none⟩) (GrO mp x) F2] :
  Fx Tryz.prog 212 [.pointer (some ⟨b, 0, none⟩), rtV R] L (fun v' L' => v' = .bool (decide (m.at_ (x.root + slot) = v.was)) ∧ L' = pt (some ⟨mp, 0, none⟩) (MemO (m.cas (x.root + slot) v.was R.w)) :: F) := by
 have hsz : x.root + x.sl ≤ x.len := by unfold Cn.root Cn.len; omega
 refine Fx.mk Tryz.func212 k212 nb_ ?_
 dsimp only [c212, envOf, Nat.reduceAdd]
 refine Cx.ent (Ent.trans (Ent.of t1.out) (Ent.cons (Ent.trans (Ent.of t2.out) (Ent.cons (Ent.of t3.out))))) ?_
 refine Cx.sq ?_
 refine Cx.rg ?_
 refine Sx.bx rfl rfl fun q => ?_
 refine go ?_
 refine Sx.ca rfl (putRoot R hR) ?_
 rintro v' L' ⟨rfl, rfl⟩
 refine go ?_
 refine Cx.ordc rfl kr_ ?_
 refine ge ?_
 refine Ev.cakH kr_ rfl rfl (layRootN hx slot hs) ?_
 refine ge ?_
 refine Ev.caH kr_ rfl rfl (cellsCas (b := mp) (m := m) (x.root + slot) v.was R.w (by omega) (Rt.w_lt hR)) (Pres.deps kr_) ?_
 rintro v' L' ⟨rfl, rfl⟩
 refine ge ?_
 refine go ?_
 refine Kr.one (.inr rfl) rfl ?_ ⟨rfl, rfl⟩
 refine Ent.trans (Ent.take (a := some ⟨mp, 0, none⟩)) (Ent.cons ?_)
 refine Ent.trans ?_ (Ent.of t2.back)
 refine Ent.trans (Ent.take (a := some ⟨b, 0, none⟩)) (Ent.cons ?_)
 refine Ent.trans ?_ (Ent.of t3.back)
 exact ent
end
end Go.Proofs.YtflalhdofhobmaaGreat


namespace Go.Proofs.YtflalhdofhobmaaGreat
open Go
attribute [local irreducible] Sx Cx Rx Fx Krg Ksq Kbl Klp Kr
section
variable {L F G : St}
set_option maxHeartbeats 4000000 in
theorem alFit_ {b g u mp pb : Nat} {x : Cn} {slot : Nat} {gen : Int} {n : Nat} {v : AlV} {n1 n2 n3 tp : Value} {S : SupS} {m : Mm} {cnt : Int} (t : TakeS) (r : Mm × SupS × AlS) (hcnt : cnt = (v.cnt : Nat)) (hx : x.ok) (hl : x.len ≤ m.ws.length) (hs : slot < x.sl) (hh : -1 ≤ v.hand)
  (hok : (rtOf v.was).ok) (hoff : (rtOf v.was).off + v.need ≤ x.wd) (hb : S.xs.length ≤ 1000000) (hm0 : 0 ≤ S.most) (hm2 : S.most ≤ 64)
  (hr : r = if m.at_ (x.root + slot) = v.was then (m.put (x.root + slot) (Rt.w ⟨(rtOf v.was).gen, (rtOf v.was).mrk, (rtOf v.was).cl, (rtOf v.was).off + v.need⟩), alClose x.pool S v t 0 ⟨slot, gen, (rtOf v.was).chunk, (rtOf v.was).off, n⟩) else (m.tick, S, ⟨0, v, t, gNone, false⟩)) :
  Fx Tryz.prog 156 [.pointer (some ⟨b, 0, none⟩)] (alB b .nilFunc n1 n2 n3 g u slot gen n cnt v (rtOf v.was) tp (.pointer none) :: pt (some ⟨u, 0, none⟩) (SupO mp pb x S) :: pt (some ⟨mp, 0, none⟩) (MemO m) :: pt (some ⟨pb, 0, none⟩) (SkO mp x.pool) :: pt (some ⟨g, 0, none⟩) (GrO mp x) :: G)
   (fun _ L' => L' = pt (some ⟨b, 0, none⟩) (AlO g u pb x slot gen n r.2.2) :: pt (some ⟨u, 0, none⟩) (SupO mp pb x r.2.1) :: pt (some ⟨mp, 0, none⟩) (MemO r.1) :: pt (some ⟨pb, 0, none⟩) (SkO mp x.pool) :: pt (some ⟨g, 0, none⟩) (GrO mp x) :: G) := by
 subst hcnt
 obtain ⟨b1, b2, b3, b4, b5, b6, b7⟩ := show MayC (x.w : Int) x.c x.wd x.sl x.ca x.ba from hx
 obtain ⟨w, hw⟩ : ∃ w, rtOf v.was = w := ⟨_, rfl⟩
 rw [hw] at hok hoff hr ⊢
 have hR : Rt.ok ⟨w.gen, w.mrk, w.cl, w.off + v.need⟩ := ⟨hok.g, hok.m, hok.c, by show w.off + v.need ≤ 1024; omega⟩
 refine Fx.mk Tryz.func156 k156 nb_ ?_
 dsimp only [c156, envOf, Nat.reduceAdd]
 refine go ?_
 refine Sx.al fun q => ?_
 refine go ?_
 refine Sx.st (b := q) rfl rfl rfl rfl rfl rfl ?_
 refine Sx.re (rtL w) rfl ?_
 refine go ?_
 refine Cx.ordc rfl kr_ ?_
 refine ge ?_
 rw [w64 (n := (w.off : Int) + v.need) (by omega) (by omega), show (w.off : Int) + v.need = ((w.off + v.need : Nat) : Int) by omega]
 refine Ev.stbH (b := q) kr_ rfl rfl rfl rfl rfl (by rfl) rfl (Pres.deps kr_) ?_
 refine ge ?_
 refine go ?_
 refine Sx.ca rfl (alExchange (b := b) (g := g) (u := u) (mp := mp) (x := x) (slot := slot) (gen := gen) (n := n) (v := v) (rt := w) (m := m) ⟨w.gen, w.mrk, w.cl, w.off + v.need⟩ hR hx hl hs) ?_
 rintro v' L' ⟨rfl, rfl⟩
 by_cases he : m.at_ (x.root + slot) = v.was
 ·rw [decide_eq_true he]
  rw [if_pos he] at hr
  subst hr
  rw [show m.cas (x.root + slot) v.was (Rt.w ⟨w.gen, w.mrk, w.cl, w.off + v.need⟩) = m.put (x.root + slot) (Rt.w ⟨w.gen, w.mrk, w.cl, w.off + v.need⟩) by unfold Mm.cas; rw [if_pos he]]
  refine go ?_
  refine Cx.orde rfl kr_ ?_
  refine ge ?_
  refine Ev.cakH kr_ rfl rfl (wordChunk ⟨w.gen, w.mrk, w.cl, w.off + v.need⟩ (by have := hok.m; show w.mrk < _; omega)) ?_
  refine ge ?_
  refine Ev.caH kr_ rfl rfl (alCloseC (b := b) (g := g) (u := u) (mp := mp) (pb := pb) (x := x) (slot := slot) (gen := gen) (n := n) (v := v) (rt := w) (S := S) 0 ⟨slot, gen, w.chunk, w.off, n⟩ t rfl hh hb hm0 hm2 hw.symm) (Pres.deps kr_) ?_
  rintro v' L' rfl
  refine ge ?_
  refine Kr.none (.inl rfl) ?_ rfl
  exact ent
 ·rw [decide_eq_false he]
  rw [if_neg he] at hr
  subst hr
  rw [show m.cas (x.root + slot) v.was (Rt.w ⟨w.gen, w.mrk, w.cl, w.off + v.need⟩) = m.tick by unfold Mm.cas; rw [if_neg he]]
  refine go ?_
  refine Sx.ca rfl (machGo (b := b)) ?_
  rintro v' L' ⟨rfl, rfl⟩
  refine go ?_
  refine Kr.none (.inr rfl) ?_ rfl
  refine Ent.trans (Ent.take (a := some ⟨b, 0, none⟩)) ?_
  refine Ent.trans (AlO.closeS (v := v) (rt := w) ⟨0, v, t, gNone, false⟩ rfl rfl rfl rfl rfl rfl hw.symm) (Ent.cons ?_)
  exact ent
set_option maxHeartbeats 4000000 in
theorem alLead_ {b g u mp pb : Nat} {x : Cn} {slot : Nat} {gen : Int} {n : Nat} {v : AlV} {n1 n2 n3 tp : Value} {S : SupS} {m : Mm} {cnt : Int} (t : TakeS) (r : Mm × SupS × AlS) (k : Nat) (hcnt : cnt = (v.cnt : Nat)) (hx : x.ok) (hl : x.len ≤ m.ws.length) (hs : slot < x.sl) (hk : v.hand = k) (hkc : k < x.c)
  (hok : (rtOf v.was).ok) (hn1 : 1 ≤ v.need) (hn2 : v.need ≤ x.wd) (hb : S.xs.length ≤ 1000000) (hm0 : 0 ≤ S.most) (hm2 : S.most ≤ 64)
  (hr : r = if m.at_ (x.root + slot) = v.was then (m.put (x.root + slot) (Rt.w ⟨(rtOf v.was).gen, 2 + k, (rtOf v.was).cl, afterS x.wd v.need⟩), alClose x.pool S { v with hand := -1 } t 0 ⟨slot, gen, k, 0, n⟩) else (m.tick, S, ⟨0, v, t, gNone, false⟩)) :
  Fx Tryz.prog 215 [.pointer (some ⟨b, 0, none⟩)] (alB b .nilFunc n1 n2 n3 g u slot gen n cnt v (rtOf v.was) tp (.pointer none) :: pt (some ⟨u, 0, none⟩) (SupO mp pb x S) :: pt (some ⟨mp, 0, none⟩) (MemO m) :: pt (some ⟨pb, 0, none⟩) (SkO mp x.pool) :: pt (some ⟨g, 0, none⟩) (GrO mp x) :: G)
   (fun _ L' => L' = pt (some ⟨b, 0, none⟩) (AlO g u pb x slot gen n r.2.2) :: pt (some ⟨u, 0, none⟩) (SupO mp pb x r.2.1) :: pt (some ⟨mp, 0, none⟩) (MemO r.1) :: pt (some ⟨pb, 0, none⟩) (SkO mp x.pool) :: pt (some ⟨g, 0, none⟩) (GrO mp x) :: G) := by
 subst hcnt
 obtain ⟨b1, b2, b3, b4, b5, b6, b7⟩ := show MayC (x.w : Int) x.c x.wd x.sl x.ca x.ba from hx
 obtain ⟨cn, hand, zat, asked, ends, need, point, was, code, obj⟩ := v
 dsimp only at hk hok hn1 hn2 hr ⊢
 subst hk
 obtain ⟨w, hw⟩ : ∃ w, rtOf was = w := ⟨_, rfl⟩
 rw [hw] at hok hr ⊢
 have haf := afterS_le hn2
 obtain ⟨A, hA⟩ : ∃ A, afterS x.wd need = A := ⟨_, rfl⟩
 rw [hA] at haf hr
 have hR : Rt.ok ⟨w.gen, 2 + k, w.cl, A⟩ := ⟨hok.g, by show 2 + k ≤ 4097; omega, hok.c, by show A ≤ 1024; omega⟩
 refine Fx.mk Tryz.func215 k215 nb_ ?_
 dsimp only [c215, envOf, Nat.reduceAdd]
 refine go ?_
 refine Sx.al fun q => ?_
 refine go ?_
 refine Sx.st (b := q) rfl rfl rfl rfl rfl rfl ?_
 refine Sx.re (rtL w) rfl ?_
 refine go ?_
 refine Cx.ordc rfl kr_ ?_
 refine ge ?_
 rw [w64 (n := (2 : Int) + k) (by omega) (by omega), show (2 : Int) + k = ((2 + k : Nat) : Int) by omega]
 refine ge ?_
 refine Ev.cakH kr_ rfl rfl (sizeAfter x.wd need (by omega) (by omega) hn1 hn2) ?_
 rw [hA]
 refine ge ?_
 refine Ev.stbH (b := q) kr_ rfl rfl rfl rfl rfl (by rfl) rfl (Pres.deps kr_) ?_
 refine ge ?_
 refine Ev.stbH (b := q) kr_ rfl rfl rfl rfl rfl (by rfl) rfl (Pres.deps kr_) ?_
 refine ge ?_
 refine go ?_
 refine Sx.ca rfl (alExchange (b := b) (g := g) (u := u) (mp := mp) (x := x) (slot := slot) (gen := gen) (n := n) (v := ⟨cn, k, zat, asked, ends, need, point, was, code, obj⟩) (rt := w) (m := m) ⟨w.gen, 2 + k, w.cl, A⟩ hR hx hl hs) ?_
 rintro v' L' ⟨rfl, rfl⟩
 dsimp only
 by_cases he : m.at_ (x.root + slot) = was
 ·rw [decide_eq_true he]
  rw [if_pos he] at hr
  subst hr
  rw [show m.cas (x.root + slot) was (Rt.w ⟨w.gen, 2 + k, w.cl, A⟩) = m.put (x.root + slot) (Rt.w ⟨w.gen, 2 + k, w.cl, A⟩) by unfold Mm.cas; rw [if_pos he]]
  refine go ?_
  refine Cx.orde rfl kr_ ?_
  refine ge ?_
  refine Ev.caH kr_ rfl rfl (alCloseC (b := b) (g := g) (u := u) (mp := mp) (pb := pb) (x := x) (slot := slot) (gen := gen) (n := n) (v := ⟨cn, -1, zat, asked, ends, need, point, was, code, obj⟩) (rt := w) (S := S) 0 ⟨slot, gen, k, 0, n⟩ t rfl (by show (-1 : Int) ≤ -1; omega) hb hm0 hm2 hw.symm) (Pres.deps kr_) ?_
  rintro v' L' rfl
  refine ge ?_
  refine Kr.none (.inl rfl) ?_ rfl
  exact ent
 ·rw [decide_eq_false he]
  rw [if_neg he] at hr
  subst hr
  rw [show m.cas (x.root + slot) was (Rt.w ⟨w.gen, 2 + k, w.cl, A⟩) = m.tick by unfold Mm.cas; rw [if_neg he]]
  refine go ?_
  refine Sx.ca rfl (machGo (b := b)) ?_
  rintro v' L' ⟨rfl, rfl⟩
  refine go ?_
  refine Kr.none (.inr rfl) ?_ rfl
  refine Ent.trans (Ent.take (a := some ⟨b, 0, none⟩)) ?_
  refine Ent.trans (AlO.closeS (v := ⟨cn, k, zat, asked, ends, need, point, was, code, obj⟩) (rt := w) ⟨0, ⟨cn, k, zat, asked, ends, need, point, was, code, obj⟩, t, gNone, false⟩ rfl rfl rfl rfl rfl rfl hw.symm) (Ent.cons ?_)
  exact ent
end
end Go.Proofs.YtflalhdofhobmaaGreat


namespace Go.Proofs.YtflalhdofhobmaaGreat
open Go
attribute [local irreducible] Sx Cx Rx Fx Krg Ksq Kbl Klp Kr
structure AlOk (x : Cn) (a : AlS) : Prop where
 o0 : a.at_ ≤ 6
 o1 : a.v.cnt ≤ 1000000
 o2 : -1 ≤ a.v.hand
 o3 : a.v.hand < x.c
 o4 : (rtOf a.v.was).ok
 o5 : a.at_ = 1 → (rtOf a.v.was).off + a.v.need ≤ x.wd
 o6 : a.at_ = 5 → 1 ≤ a.v.need ∧ a.v.need ≤ x.wd
 o7 : a.at_ = 3 ∨ a.at_ = 4 ∨ a.at_ = 5 → 0 ≤ a.v.hand
 o8 : a.at_ = 3 → a.v.zat < x.wd
 o9 : a.at_ = 2 → a.t.ok
section
variable {L F G : St}
set_option maxHeartbeats 4000000 in
theorem alStepC {b g u mp pb : Nat} {x : Cn} {slot : Nat} {gen : Int} {n : Nat} {S : SupS} {m : Mm} {a : AlS} {F1 F2 F3 F4 : St} (hx : x.ok) (hl : x.len ≤ m.ws.length) (hs : slot < x.sl) (hn : 1 ≤ n) (hn2 : n ≤ x.wd) (hw8 : x.wd % 8 = 0)
  (hok : (rtOf (m.at_ (x.root + slot))).ok) (hb : S.xs.length + S.lm.size ≤ 1000000) (hm0 : 0 ≤ S.most) (hm2 : S.most ≤ 64) (ha : a.done = false → AlOk x a)
  [t1 : Take L (some ⟨b, 0, none⟩) (AlO g u pb x slot gen n a) F1] [t2 : Take F1 (some ⟨u, 0, none⟩) (SupO mp pb x S) F2] [t3 : Take F2 (some ⟨mp, 0, none⟩) (MemO m) F3] [t4 : Take F3 (some ⟨pb, 0, none⟩) (SkO mp x.pool) F4] [t5 : Take F4 (some ⟨g, 0, none⟩) (GrO mp x) G] :
  Fx Tryz.prog 26 [.pointer (some ⟨b, 0, none⟩)] L
   (fun v L' => v = .bool (!a.done) ∧ L' = pt (some ⟨b, 0, none⟩) (AlO g u pb x slot gen n (alStep (x.al slot gen n) m S a).2.2) :: pt (some ⟨u, 0, none⟩) (SupO mp pb x (alStep (x.al slot gen n) m S a).2.1) :: pt (some ⟨mp, 0, none⟩) (MemO (alStep (x.al slot gen n) m S a).1) :: F3) := by
 have hback : Ent (pt (some ⟨pb, 0, none⟩) (SkO mp x.pool) :: pt (some ⟨g, 0, none⟩) (GrO mp x) :: G) F3 := Ent.trans (Ent.cons (Ent.of t5.back)) (Ent.of t4.back)
 refine Fx.mk Tryz.func26 k26 nb_ ?_
 dsimp only [c26, envOf, Nat.reduceAdd]
 refine Cx.ent (Ent.trans (Ent.of t1.out) (Ent.cons (Ent.trans (Ent.of t2.out) (Ent.cons (Ent.trans (Ent.of t3.out) (Ent.cons (Ent.trans (Ent.of t4.out) (Ent.cons (Ent.of t5.out))))))))) ?_
 refine Cx.pure (memKey (b := mp) (m := m)) fun hm => ?_
 cases hd : a.done with
 | true =>
   have e1 : alStep (x.al slot gen n) m S a = (m, S, a) := by unfold alStep; rw [hd]; rfl
   rw [e1]
   refine Cx.openp (a := some ⟨b, 0, none⟩) (AlO.dd_ hd) ?_
   rintro ⟨q, n1, n2, n3, tp⟩
   simp only [alDL, List.cons_append, List.nil_append]
   refine go ?_
   refine Sx.ca rfl (machStepDone (b := b)) ?_
   rintro v' L' ⟨rfl, rfl⟩
   refine go ?_
   exact Kr.one (.inr rfl) rfl (Ent.trans (AlO.closeD (v := a.v) (rt := rtOf a.v.was) a hd rfl rfl rfl rfl) (Ent.cons (Ent.cons (Ent.cons hback)))) ⟨rfl, rfl⟩
 | false =>
   obtain ⟨k0, k1, k2, k3, k4, k5, k6, k7, k8, k9⟩ := ha hd
   rcases (show a.at_ = 0 ∨ a.at_ = 1 ∨ a.at_ = 2 ∨ a.at_ = 3 ∨ a.at_ = 4 ∨ a.at_ = 5 ∨ a.at_ = 6 by omega) with h0 | h0 | h0 | h0 | h0 | h0 | h0
   ·refine Cx.openp (a := some ⟨b, 0, none⟩) (AlO.ss_ hd (by omega) (by omega)) ?_
    rintro ⟨n1, n2, n3, tp⟩
    simp only [alSL, List.cons_append, List.nil_append]
    rw [show alFn a.at_ = 80 by rw [h0]; rfl]
    have e1 : alStep (x.al slot gen n) m S a = (m.tick, alSeen (x.al slot gen n) S { a.v with cnt := a.v.cnt + 1, was := m.at_ (x.root + slot) } a.t) := by unfold alStep; rw [hd, h0]; rfl
    rw [e1]
    refine go ?_
    refine Sx.ca rfl (machStep (b := b) kr_ (alLook_ (b := b) (g := g) (u := u) (mp := mp) (pb := pb) (x := x) (slot := slot) (gen := gen) (n := n) (v := { a.v with cnt := a.v.cnt + 1 }) (S := S) (m := m) a.t (cntW k1) hx hm.1 hl hs hn hn2 hw8 k2 hok hb hm0 hm2)) ?_
    rintro v' L' ⟨rfl, w, rfl⟩
    refine go ?_
    exact Kr.one (.inr rfl) rfl (Ent.cons (Ent.cons (Ent.cons hback))) ⟨rfl, rfl⟩
   ·refine Cx.openp (a := some ⟨b, 0, none⟩) (AlO.ss_ hd (by omega) (by omega)) ?_
    rintro ⟨n1, n2, n3, tp⟩
    simp only [alSL, List.cons_append, List.nil_append]
    rw [show alFn a.at_ = 156 by rw [h0]; rfl]
    refine go ?_
    refine Sx.ca rfl (machStep (b := b) kr_ (alFit_ (b := b) (g := g) (u := u) (mp := mp) (pb := pb) (x := x) (slot := slot) (gen := gen) (n := n) (v := { a.v with cnt := a.v.cnt + 1 }) (S := S) (m := m) a.t (alStep (x.al slot gen n) m S a) (cntW k1) hx hl hs k2 k4 (k5 h0) (by omega) hm0 hm2
     (by unfold alStep; rw [hd, h0]; simp only [Bool.false_eq_true, if_false]))) ?_
    rintro v' L' ⟨rfl, w, rfl⟩
    refine go ?_
    exact Kr.one (.inr rfl) rfl (Ent.cons (Ent.cons (Ent.cons hback))) ⟨rfl, rfl⟩
   ·refine Cx.openp (a := some ⟨b, 0, none⟩) (AlO.tt_ hd h0) ?_
    intro q
    simp only [alTL, List.cons_append, List.nil_append]
    obtain ⟨T, hT⟩ : ∃ T, takeStep x.pool x.ba m S a.t = T := ⟨_, rfl⟩
    have htok := takeStep_ok (k := x.pool) (ba := x.ba) (m := m) (s := S) (k9 h0)
    have hts := takeStepC (b := q) (u := u) (mp := mp) (pb := pb) (x := x) (s := S) (m := m) (t := a.t) hx hl (k9 h0) hb
     (L := pt (some ⟨b, 0, none⟩) (Blk 152 (alF .nilFunc (mth 159 q) (mth 160 q) (mth 161 b) g u slot gen n (IntKind.i64.wrap ((a.v.cnt : Int) + 1)) a.v (rtOf a.v.was) (.pointer (some ⟨q, 0, none⟩)) (.pointer none))) :: pt (some ⟨q, 0, none⟩) (TakeO u pb x.pool a.t) :: pt (some ⟨u, 0, none⟩) (SupO mp pb x S) :: pt (some ⟨mp, 0, none⟩) (MemO m) :: pt (some ⟨pb, 0, none⟩) (SkO mp x.pool) :: pt (some ⟨g, 0, none⟩) (GrO mp x) :: G)
    rw [hT] at hts htok
    cases hq : T.2.2.done with
    | true =>
      have e1 : alStep (x.al slot gen n) m S a = (T.1, T.2.1, alTaken { a.v with cnt := a.v.cnt + 1 } T.2.2) := by unfold alStep; rw [hd, h0]; simp only [Bool.false_eq_true, if_false, hT, hq, if_true]
      rw [e1]
      refine go ?_
      refine Sx.ca rfl (machStep (b := b) kr_ (machGoes (b := b) kr_ hts
       (R2 := fun v L' => v = .tuple #[] ∧ ∃ w : Value, L' = pt (some ⟨b, 0, none⟩) (AlO g u pb x slot gen n (alTaken { a.v with cnt := a.v.cnt + 1 } T.2.2)) :: pt (some ⟨u, 0, none⟩) (SupO mp pb x T.2.1) :: pt (some ⟨mp, 0, none⟩) (MemO T.1) :: pt (some ⟨pb, 0, none⟩) (SkO mp x.pool) :: pt (some ⟨g, 0, none⟩) (GrO mp x) :: G) ?_)) ?_
      ·rintro v L1 ⟨rfl, rfl⟩
       have hon := machOnYes (b := b) kr_ (fd := 160) (ft := 161) (w := .pointer (some ⟨q, 0, none⟩)) (u := .pointer (some ⟨b, 0, none⟩))
        (L := pt (some ⟨q, 0, none⟩) (TakeO u pb x.pool T.2.2) :: pt (some ⟨u, 0, none⟩) (SupO mp pb x T.2.1) :: pt (some ⟨mp, 0, none⟩) (MemO T.1) :: pt (some ⟨b, 0, none⟩) (Blk 152 (alF .nilFunc (mth 159 q) (mth 160 q) (mth 161 b) g u slot gen n (IntKind.i64.wrap ((a.v.cnt : Int) + 1)) a.v (rtOf a.v.was) (.pointer (some ⟨q, 0, none⟩)) (.pointer none))) :: pt (some ⟨pb, 0, none⟩) (SkO mp x.pool) :: pt (some ⟨g, 0, none⟩) (GrO mp x) :: G)
        ((takeDone (b := q) (u := u) (pb := pb) (k := x.pool) (t := T.2.2) htok).mono (by rintro v L' ⟨rfl, rfl⟩; exact ⟨by rw [hq], rfl⟩)) kr_
        (Fx.ent (M := alB b .nilFunc (mth 159 q) (mth 160 q) (mth 161 b) g u slot gen n (IntKind.i64.wrap ((a.v.cnt : Int) + 1)) { a.v with cnt := a.v.cnt + 1 } (rtOf a.v.was) (.pointer (some ⟨q, 0, none⟩)) (.pointer none) :: pt (some ⟨q, 0, none⟩) (TakeO u pb x.pool T.2.2) :: pt (some ⟨u, 0, none⟩) (SupO mp pb x T.2.1) :: pt (some ⟨mp, 0, none⟩) (MemO T.1) :: pt (some ⟨pb, 0, none⟩) (SkO mp x.pool) :: pt (some ⟨g, 0, none⟩) (GrO mp x) :: G) (by exact ent)
         (alTaken_ (b := b) (q := q) (g := g) (u := u) (pb := pb) (x := x) (slot := slot) (gen := gen) (n := n) (v := { a.v with cnt := a.v.cnt + 1 }) (t := T.2.2) (cntW k1) htok))
       refine hon.mono ?_
       rintro v L' ⟨rfl, w, rfl⟩
       exact ⟨rfl, .tuple #[], rfl⟩
      ·rintro v L' ⟨rfl, w, _, w2, _, w3, rfl⟩
       refine go ?_
       exact Kr.one (.inr rfl) rfl (Ent.cons (Ent.cons (Ent.cons hback))) ⟨rfl, rfl⟩
    | false =>
      have e1 : alStep (x.al slot gen n) m S a = (T.1, T.2.1, ⟨2, { a.v with cnt := a.v.cnt + 1 }, T.2.2, gNone, false⟩) := by unfold alStep; rw [hd, h0]; simp only [Bool.false_eq_true, if_false, hT, hq]
      rw [e1]
      refine go ?_
      refine Sx.ca rfl (machStep (b := b) kr_ (machGoes (b := b) kr_ hts
       (R2 := fun v L' => v = .tuple #[] ∧ L' = alB b (mth 232 b) (mth 159 q) (mth 160 q) (mth 161 b) g u slot gen n (IntKind.i64.wrap ((a.v.cnt : Int) + 1)) a.v (rtOf a.v.was) (.pointer (some ⟨q, 0, none⟩)) (.pointer none) :: pt (some ⟨q, 0, none⟩) (TakeO u pb x.pool T.2.2) :: pt (some ⟨u, 0, none⟩) (SupO mp pb x T.2.1) :: pt (some ⟨mp, 0, none⟩) (MemO T.1) :: pt (some ⟨pb, 0, none⟩) (SkO mp x.pool) :: pt (some ⟨g, 0, none⟩) (GrO mp x) :: G) ?_)) ?_
      ·rintro v L1 ⟨rfl, rfl⟩
       refine (machOnNo (b := b) kr_ ((takeDone (b := q) (u := u) (pb := pb) (k := x.pool) (t := T.2.2) htok).mono (by rintro v L' ⟨rfl, rfl⟩; exact ⟨by rw [hq], rfl⟩))).mono ?_
       rintro v L' ⟨rfl, rfl⟩
       exact ⟨rfl, rfl⟩
      ·rintro v L' ⟨rfl, w, _, w2, _, rfl⟩
       refine go ?_
       refine Kr.one (.inr rfl) rfl ?_ ⟨rfl, rfl⟩
       refine Ent.trans (AlO.closeT (v := a.v) (rt := rtOf a.v.was) ⟨2, { a.v with cnt := a.v.cnt + 1 }, T.2.2, gNone, false⟩ rfl rfl (cntW k1) rfl rfl rfl) (Ent.cons ?_)
       exact Ent.cons (Ent.cons hback)
   ·refine Cx.openp (a := some ⟨b, 0, none⟩) (AlO.ss_ hd (by omega) (by omega)) ?_
    rintro ⟨n1, n2, n3, tp⟩
    simp only [alSL, List.cons_append, List.nil_append]
    rw [show alFn a.at_ = 221 by rw [h0]; rfl]
    obtain ⟨k, hk⟩ : ∃ k : Nat, a.v.hand = k := ⟨a.v.hand.toNat, by have := k7 (.inl h0); omega⟩
    have e1 : alStep (x.al slot gen n) m S a = (m.put (x.word + k * x.wd + a.v.zat) 0, S, ⟨if a.v.zat + 1 < x.wd then 3 else 4, { a.v with cnt := a.v.cnt + 1, zat := a.v.zat + 1 }, a.t, gNone, false⟩) := by unfold alStep; rw [hd, h0]; simp only [Bool.false_eq_true, if_false, hk, Int.toNat_natCast]
    rw [e1]
    refine go ?_
    refine Sx.ca rfl (machStep (b := b) kr_ (alClear_ (b := b) (g := g) (u := u) (mp := mp) (pb := pb) (x := x) (slot := slot) (gen := gen) (n := n) (v := { a.v with cnt := a.v.cnt + 1 }) (S := S) (m := m) a.t k (cntW k1) hx hl hk (by omega) (k8 h0))) ?_
    rintro v' L' ⟨rfl, w, rfl⟩
    refine go ?_
    exact Kr.one (.inr rfl) rfl (Ent.cons (Ent.cons (Ent.cons hback))) ⟨rfl, rfl⟩
   ·refine Cx.openp (a := some ⟨b, 0, none⟩) (AlO.ss_ hd (by omega) (by omega)) ?_
    rintro ⟨n1, n2, n3, tp⟩
    simp only [alSL, List.cons_append, List.nil_append]
    rw [show alFn a.at_ = 157 by rw [h0]; rfl]
    obtain ⟨k, hk⟩ : ∃ k : Nat, a.v.hand = k := ⟨a.v.hand.toNat, by have := k7 (.inr (.inl h0)); omega⟩
    have e1 : alStep (x.al slot gen n) m S a = (m.put (x.link + k) ((rtOf a.v.was).chunk + 1).toNat, S, ⟨5, { a.v with cnt := a.v.cnt + 1 }, a.t, gNone, false⟩) := by unfold alStep; rw [hd, h0]; simp only [Bool.false_eq_true, if_false, hk, Int.toNat_natCast]; rfl
    rw [e1]
    refine go ?_
    refine Sx.ca rfl (machStep (b := b) kr_ (alLink_ (b := b) (g := g) (u := u) (mp := mp) (pb := pb) (x := x) (slot := slot) (gen := gen) (n := n) (v := { a.v with cnt := a.v.cnt + 1 }) (S := S) (m := m) a.t k (cntW k1) hx hl hk (by omega))) ?_
    rintro v' L' ⟨rfl, w, rfl⟩
    refine go ?_
    exact Kr.one (.inr rfl) rfl (Ent.cons (Ent.cons (Ent.cons hback))) ⟨rfl, rfl⟩
   ·refine Cx.openp (a := some ⟨b, 0, none⟩) (AlO.ss_ hd (by omega) (by omega)) ?_
    rintro ⟨n1, n2, n3, tp⟩
    simp only [alSL, List.cons_append, List.nil_append]
    rw [show alFn a.at_ = 215 by rw [h0]; rfl]
    obtain ⟨k, hk⟩ : ∃ k : Nat, a.v.hand = k := ⟨a.v.hand.toNat, by have := k7 (.inr (.inr h0)); omega⟩
    refine go ?_
    refine Sx.ca rfl (machStep (b := b) kr_ (alLead_ (b := b) (g := g) (u := u) (mp := mp) (pb := pb) (x := x) (slot := slot) (gen := gen) (n := n) (v := { a.v with cnt := a.v.cnt + 1 }) (S := S) (m := m) a.t (alStep (x.al slot gen n) m S a) k (cntW k1) hx hl hs hk (by omega) k4 (k6 h0).1 (k6 h0).2 (by omega) hm0 hm2
     (by unfold alStep; rw [hd, h0]; simp only [Bool.false_eq_true, if_false, hk, Int.toNat_natCast]))) ?_
    rintro v' L' ⟨rfl, w, rfl⟩
    refine go ?_
    exact Kr.one (.inr rfl) rfl (Ent.cons (Ent.cons (Ent.cons hback))) ⟨rfl, rfl⟩
   ·refine Cx.openp (a := some ⟨b, 0, none⟩) (AlO.gg_ hd h0) ?_
    rintro ⟨q, tp⟩
    simp only [alGL, List.cons_append, List.nil_append]
    have hk := hx.pool (n := m.ws.length) hl hm.2
    obtain ⟨T, hT⟩ : ∃ T, pushStep x.pool m a.g = T := ⟨_, rfl⟩
    have hts := giveStep (b := q) (mp := mp) (pb := pb) (k := x.pool) (m := m) (p := a.g) hk
     (L := pt (some ⟨b, 0, none⟩) (Blk 152 (alF .nilFunc (mth 208 q) (mth 188 q) (mth 209 b) g u slot gen n (IntKind.i64.wrap ((a.v.cnt : Int) + 1)) a.v (rtOf a.v.was) tp (.pointer (some ⟨q, 0, none⟩)))) :: pt (some ⟨q, 0, none⟩) (GiveO pb x.pool a.g) :: pt (some ⟨u, 0, none⟩) (SupO mp pb x S) :: pt (some ⟨mp, 0, none⟩) (MemO m) :: pt (some ⟨pb, 0, none⟩) (SkO mp x.pool) :: pt (some ⟨g, 0, none⟩) (GrO mp x) :: G)
    have e1 : alStep (x.al slot gen n) m S a = (T.2, S, ⟨6, { a.v with cnt := a.v.cnt + 1 }, a.t, T.1, T.1.done⟩) := by unfold alStep; rw [hd, h0]; simp only [Bool.false_eq_true, if_false, hT]
    rw [hT] at hts
    rw [e1]
    refine go ?_
    cases hq : T.1.done with
    | true =>
      refine Sx.ca rfl (machStep (b := b) kr_ (machGoes (b := b) kr_ hts
       (R2 := fun v L' => v = .tuple #[] ∧ ∃ w : Value, w = .tuple #[] ∧ pt (some ⟨q, 0, none⟩) (GiveO pb x.pool T.1) :: pt (some ⟨mp, 0, none⟩) (MemO T.2) :: pt (some ⟨b, 0, none⟩) (Blk 152 (alF .nilFunc (mth 208 q) (mth 188 q) (mth 209 b) g u slot gen n (IntKind.i64.wrap ((a.v.cnt : Int) + 1)) a.v (rtOf a.v.was) tp (.pointer (some ⟨q, 0, none⟩)))) :: pt (some ⟨u, 0, none⟩) (SupO mp pb x S) :: pt (some ⟨pb, 0, none⟩) (SkO mp x.pool) :: pt (some ⟨g, 0, none⟩) (GrO mp x) :: G = L') ?_)) ?_
      ·rintro v L1 ⟨rfl, rfl⟩
       exact machOnYes (b := b) kr_ ((giveDone (b := q) (pb := pb) (k := x.pool) (p := T.1)).mono (by rintro v L' ⟨rfl, rfl⟩; exact ⟨by rw [hq], rfl⟩)) kr_ alEnd
      ·rintro v L' ⟨rfl, w, _, w2, _, w3, _, rfl⟩
       refine go ?_
       refine Kr.one (.inr rfl) rfl ?_ ⟨rfl, rfl⟩
       refine Ent.trans (Ent.take (a := some ⟨b, 0, none⟩)) ?_
       refine Ent.trans (AlO.closeD (v := a.v) (rt := rtOf a.v.was) ⟨6, { a.v with cnt := a.v.cnt + 1 }, a.t, T.1, true⟩ rfl (cntW k1) rfl rfl rfl) (Ent.cons ?_)
       exact Ent.trans Ent.swap (Ent.cons (Ent.cons hback))
    | false =>
      refine Sx.ca rfl (machStep (b := b) kr_ (machGoes (b := b) kr_ hts
       (R2 := fun v L' => v = .tuple #[] ∧ L' = alB b (mth 232 b) (mth 208 q) (mth 188 q) (mth 209 b) g u slot gen n (IntKind.i64.wrap ((a.v.cnt : Int) + 1)) a.v (rtOf a.v.was) tp (.pointer (some ⟨q, 0, none⟩)) :: pt (some ⟨q, 0, none⟩) (GiveO pb x.pool T.1) :: pt (some ⟨mp, 0, none⟩) (MemO T.2) :: pt (some ⟨u, 0, none⟩) (SupO mp pb x S) :: pt (some ⟨pb, 0, none⟩) (SkO mp x.pool) :: pt (some ⟨g, 0, none⟩) (GrO mp x) :: G) ?_)) ?_
      ·rintro v L1 ⟨rfl, rfl⟩
       refine (machOnNo (b := b) kr_ ((giveDone (b := q) (pb := pb) (k := x.pool) (p := T.1)).mono (by rintro v L' ⟨rfl, rfl⟩; exact ⟨by rw [hq], rfl⟩))).mono ?_
       rintro v L' ⟨rfl, rfl⟩
       exact ⟨rfl, rfl⟩
      ·rintro v L' ⟨rfl, w, _, w2, _, rfl⟩
       refine go ?_
       refine Kr.one (.inr rfl) rfl ?_ ⟨rfl, rfl⟩
       refine Ent.trans (AlO.closeG (v := a.v) (rt := rtOf a.v.was) ⟨6, { a.v with cnt := a.v.cnt + 1 }, a.t, T.1, false⟩ rfl rfl (cntW k1) rfl rfl rfl) (Ent.cons ?_)
       exact Ent.trans Ent.swap (Ent.cons (Ent.cons hback))
end
end Go.Proofs.YtflalhdofhobmaaGreat


namespace Go.Proofs.YtflalhdofhobmaaGreat
open Go
attribute [local irreducible] Sx Cx Rx Fx Krg Ksq Kbl Klp Kr
def tkIt (k : Sk) (ba : Int) : Nat → Mm × SupS × TakeS → Mm × SupS × TakeS
 | 0, r => r
 | n + 1, r => takeStep k ba (tkIt k ba n r).1 (tkIt k ba n r).2.1 (tkIt k ba n r).2.2
theorem takeStep_len {k : Sk} {ba : Int} {m : Mm} {s : SupS} {t : TakeS} : (takeStep k ba m s t).1.ws.length = m.ws.length := by
 unfold takeStep
 split
 ·rfl
 ·split
  ·dsimp only
   split <;> rfl
  ·dsimp only
   have : (popStep k m t.q).2.ws.length = m.ws.length := by
    unfold popStep
    split
    ·rfl
    ·split
     ·split <;> rfl
     ·split <;> rfl
     ·exact Mm.len_cas
   split <;> exact this
section
variable {L F G : St}
end
end Go.Proofs.YtflalhdofhobmaaGreat


namespace Go.Proofs.YtflalhdofhobmaaGreat
structure ColS where
 at_ : Nat
 a : AdvS
 g : PushS
 done : Bool
def ColS.init : ColS := ⟨0, AdvS.init, ⟨[], 0, 0, true⟩, false⟩
end Go.Proofs.YtflalhdofhobmaaGreat


namespace Go.Proofs.YtflalhdofhobmaaGreat
open Go
attribute [local irreducible] Sx Cx Rx Fx Krg Ksq Kbl Klp Kr
def TakeR (ba : Int) (s : SupS) (l : List Int) (ch : Int) (is_ : Bool) (N : Nat) (s' : SupS) (l' : List Int) : Prop :=
 (s.xs ≠ [] ∧ ch = lastI s.xs ∧ is_ = true ∧ N = 0 ∧ s' = s.kept ∧ l' = l) ∨
 (s.xs = [] ∧ l ≠ [] ∧ ∃ c : Nat, (c : Int) = min ba l.length ∧ ch = l.headD 0 ∧ is_ = true ∧ N = c + 2 ∧ s' = s.give (l.take c).tail ∧ l' = l.drop c) ∨
 (s.xs = [] ∧ l = [] ∧ ch = 0 ∧ is_ = false ∧ N = 1 ∧ s' = s ∧ l' = [])
theorem TakeR.size {ba : Int} {s s' : SupS} {l l' : List Int} {ch : Int} {is_ : Bool} {N : Nat} (h8 : ba ≤ 8) (h : TakeR ba s l ch is_ N s' l') : s'.xs.length ≤ s.xs.length + 8 ∧ s'.lm = s.lm ∧ s'.most = s.most := by
 rcases h with ⟨_, _, _, _, rfl, _⟩ | ⟨h0, _, c, hc, _, _, _, rfl, _⟩ | ⟨_, _, _, _, _, rfl, _⟩
 ·exact ⟨by simp [SupS.kept]; omega, rfl, rfl⟩
 ·refine ⟨?_, rfl, rfl⟩
  simp only [SupS.give, List.length_append, List.length_tail, List.length_take]
  omega
 ·exact ⟨by omega, rfl, rfl⟩
section
variable {L F G : St}
end
end Go.Proofs.YtflalhdofhobmaaGreat


namespace Go.Proofs.YtflalhdofhobmaaGreat
theorem Pool.congr {k : Sk} {m m' : Mm} {l : List Int} (h : Pool k m l) (h0 : m'.at_ k.head = m.at_ k.head) (hl : ∀ i, i < k.n → m'.at_ (k.links + i) = m.at_ (k.links + i)) : Pool k m' l := by
 refine ⟨?_, h.nd⟩
 rw [h0]
 refine h.c.congr fun x hx => hl _ ?_
 have := h.c.mem x hx
 omega
end Go.Proofs.YtflalhdofhobmaaGreat


namespace Go.Proofs.YtflalhdofhobmaaGreat
structure Agree (A : Nat → Prop) (m m2 : Mm) : Prop where
 len : m2.ws.length = m.ws.length
 n : m2.n = m.n
 at_ : ∀ a, A a → m2.at_ a = m.at_ a
theorem Agree.refl (A : Nat → Prop) (m : Mm) : Agree A m m := ⟨rfl, rfl, fun _ _ => rfl⟩
theorem Agree.tick {A : Nat → Prop} {m m2 : Mm} (h : Agree A m m2) : Agree A m.tick m2.tick := ⟨h.len, congrArg (· + 1) h.n, h.at_⟩
theorem Agree.put {A : Nat → Prop} {m m2 : Mm} (h : Agree A m m2) {i v : Nat} (hi : i < m.ws.length) : Agree A (m.put i v) (m2.put i v) := by
 refine ⟨by rw [Mm.len_put, Mm.len_put, h.len], congrArg (· + 1) h.n, fun a ha => ?_⟩
 rw [Mm.at_put _ (by rw [h.len]; exact hi), Mm.at_put _ hi, h.at_ a ha]
theorem Agree.cas {A : Nat → Prop} {m m2 : Mm} (h : Agree A m m2) {i o v : Nat} (hi : i < m.ws.length) (ha : A i) : Agree A (m.cas i o v) (m2.cas i o v) := by
 unfold Mm.cas
 rw [h.at_ i ha]
 split
 ·exact h.put hi
 ·exact h.tick
structure Covers (A : Nat → Prop) (k : Sk) : Prop where
 h : A k.head
 l : ∀ i, i < k.n → A (k.links + i)
structure TkOk (k : Sk) (len : Nat) (r : Mm × SupS × TakeS) : Prop where
 m : r.1.ok
 l : r.1.ws.length = len
 t : r.2.2.ok
 q : r.2.2.done = false → r.2.2.at_ = 1 → r.2.2.q.ok k
theorem popStep_mok {k : Sk} {m : Mm} {q : PopS} (hm : m.ok) (hq : q.ok k) (hn : k.n ≤ 4096) : (popStep k m q).2.ok := by
 have hu := hq.u2
 unfold popStep
 (repeat' split) <;> first | exact hm | exact Mm.ok_tick hm | exact Mm.ok_cas hm (nextW_lt hq.w (by omega))
theorem TkOk.step {k : Sk} {ba : Int} {len : Nat} {r : Mm × SupS × TakeS} (hk : k.ok len) (h : TkOk k len r) : TkOk k len (takeStep k ba r.1 r.2.1 r.2.2) := by
 obtain ⟨m, s, t⟩ := r
 have hm := h.m
 have hl := h.l
 simp only at hm hl ⊢
 refine ⟨?_, by rw [takeStep_len]; exact hl, takeStep_ok h.t, ?_⟩
 ·unfold takeStep
  split
  ·exact hm
  ·rename_i hd
   split
   ·dsimp only; split <;> exact hm
   ·rename_i hne
    have ha := h.t.a
    have := popStep_mok (k := k) (q := t.q) hm (h.q (by simpa using hd) (by simp only at ha; have : t.at_ ≠ 0 := hne; simp only; omega)) hk.n2
    dsimp only; split <;> exact this
 ·unfold takeStep
  split
  ·exact h.q
  ·rename_i hd
   split
   ·dsimp only
    split
    ·rename_i r' hr
     unfold keepT at hr
     split at hr
     ·cases hr
     ·cases hr; intro h; cases h
    ·exact fun _ _ => PopS.ok_init hk.n1 ba
   ·rename_i hne
    have ha := h.t.a
    have hq := popStep_ok (m := m) hk hm (h.q (by simpa using hd) (by simp only at ha; have : t.at_ ≠ 0 := hne; simp only; omega))
    dsimp only
    split
    ·intro h
     unfold popped at h
     split at h <;> cases h
    ·exact fun _ _ => hq
theorem TkOk.init {k : Sk} {ba : Int} {m : Mm} {s : SupS} (hk : k.ok m.ws.length) (hm : m.ok) : TkOk k m.ws.length (m, takeInit ba s) := by
 refine ⟨hm, rfl, takeInit_ok, ?_⟩
 unfold takeInit keepT
 split
 ·rename_i r hr
  split at hr
  ·cases hr
  ·cases hr; intro h; cases h
 ·split
  ·intro _ h; cases h
  ·exact fun _ _ => PopS.ok_init hk.n1 ba
theorem TkOk.it {k : Sk} {ba : Int} {len : Nat} {r : Mm × SupS × TakeS} (hk : k.ok len) (h : TkOk k len r) : ∀ j, TkOk k len (tkIt k ba j r)
 | 0 => h
 | j + 1 => (TkOk.it hk h j).step hk
def SupS.size (s : SupS) : Nat := s.xs.length + s.lm.size
end Go.Proofs.YtflalhdofhobmaaGreat


namespace Go.Proofs.YtflalhdofhobmaaGreat
theorem alIt_idle {p : AlP} {r : Mm × SupS × AlS} {j : Nat} (h : (alIt p j r).2.2.done = true) : ∀ i, alIt p (j + i) r = alIt p j r
 | 0 => rfl
 | i + 1 => by
   show alStep p (alIt p (j + i) r).1 (alIt p (j + i) r).2.1 (alIt p (j + i) r).2.2 = _
   rw [alIt_idle h i]
   unfold alStep
   rw [if_pos h]
structure AlGood (x : Cn) (slot : Nat) (r : Mm × SupS × AlS) : Prop where
 l : r.1.ws.length = x.len
 m : r.1.ok
 k : (rtOf (r.1.at_ (x.root + slot))).ok
 s : r.2.1.xs.length + r.2.1.lm.size ≤ 1000
 m0 : 0 ≤ r.2.1.most
 m2 : r.2.1.most ≤ 64
 a : r.2.2.done = false → AlOk x r.2.2
structure AlRun (x : Cn) (p : AlP) (r : Mm × SupS × AlS) (N : Nat) : Prop where
 good : ∀ j, j ≤ N → AlGood x p.slot (alIt p j r)
 nd : ∀ j, j < N → (alIt p j r).2.2.done = false
 d : (alIt p N r).2.2.done = true
structure RefOk (k : Sk) (a : AlS) : Prop where
 code : a.v.code = 0
 obj : a.v.obj = Hd.zero
 hd : a.at_ ≤ 2 → a.v.hand = -1
 z : a.at_ ≤ 2 → a.v.zat = 0
 a5 : a.at_ ≤ 5
 ask : a.at_ = 2 → a.v.asked = true
 q : a.at_ = 2 → a.t.q.ok k
 t1 : a.at_ = 2 → a.t.at_ = 1 ∧ a.t.done = false
 n1 : a.at_ ≠ 1
 ti : a.at_ = 2 → a.t.is_ = false
theorem giveInit_nil (k : Sk) : giveInit k [] = PushS.init [] := giveInit_yes ⟨List.nodup_nil, fun _ h => (by cases h)⟩
theorem alClose_none {k : Sk} {S : SupS} {v : AlV} {t : TakeS} {code : Nat} {o : Hd} (hh : v.hand = -1) (hs : (S.xs.length : Int) ≤ S.most) :
  alClose k S v t code o = (S, ⟨6, { v with code := code, obj := o, point := v.cnt, ends := true, hand := -1 }, t, PushS.init [], true⟩) := by
 unfold alClose
 rw [if_neg (by omega)]
 have h0 : overK S.most S.xs = 0 := by unfold overK; omega
 simp only [h0, List.take_zero, List.drop_zero, giveInit_nil]
 simp [PushS.init]
section
variable {x : Cn} {slot : Nat} {gen : Int} {n : Nat} {m : Mm} {S : SupS}
abbrev alR (m : Mm) (S : SupS) : Mm × SupS × AlS := (m, S, AlS.init)
theorem good0 (hl : m.ws.length = x.len) (hm : m.ok) (hk : (rtOf (m.at_ (x.root + slot))).ok) (hs : S.xs.length + S.lm.size ≤ 1000) (hm0 : 0 ≤ S.most) (hm2 : S.most ≤ 64) : AlGood x slot (alR m S) :=
 ⟨hl, hm, hk, hs, hm0, hm2, fun _ => ⟨by show 0 ≤ 6; omega, by show 0 ≤ 1000000; omega, by show (-1 : Int) ≤ -1; omega, by show (-1 : Int) < x.c; omega, rt_zero_ok, (fun h => by cases h), (fun h => by cases h), (fun h => by rcases h with h | h | h <;> cases h), (fun h => by cases h), (fun h => by cases h)⟩⟩
theorem al_fit (hl : m.ws.length = x.len) (hm : m.ok) (hsl : slot < x.sl) (hk : (rtOf (m.at_ (x.root + slot))).ok) (hs : S.xs.length + S.lm.size ≤ 1000) (hm0 : 0 ≤ S.most) (hm2 : S.most ≤ 64) (hx0 : (S.xs.length : Int) ≤ S.most) (hwd : x.wd ≤ 1024) (hlv : (rtOf (m.at_ (x.root + slot))).live gen)
  (need : Nat) (hneed : roundS (rtOf (m.at_ (x.root + slot))).cl n = need) (hmk : 2 ≤ (rtOf (m.at_ (x.root + slot))).mrk) (hf : fitsS x.wd (rtOf (m.at_ (x.root + slot))).off need) :
  alIt (x.al slot gen n) 2 (alR m S) = (m.tick.put (x.root + slot) (Rt.w ⟨(rtOf (m.at_ (x.root + slot))).gen, (rtOf (m.at_ (x.root + slot))).mrk, (rtOf (m.at_ (x.root + slot))).cl, (rtOf (m.at_ (x.root + slot))).off + need⟩), S,
   ⟨6, ⟨2, -1, 0, false, true, need, 2, m.at_ (x.root + slot), 0, ⟨slot, gen, (rtOf (m.at_ (x.root + slot))).chunk, (rtOf (m.at_ (x.root + slot))).off, n⟩⟩, TakeS.zero, PushS.init [], true⟩) ∧ AlRun x (x.al slot gen n) (alR m S) 2 := by
 have hsz : x.root + x.sl ≤ x.len := by unfold Cn.root Cn.len; omega
 obtain ⟨W, hW⟩ : ∃ W, m.at_ (x.root + slot) = W := ⟨_, rfl⟩
 have hk' := hk
 rw [hW] at hk hlv hneed hmk hf ⊢
 have e1 : alIt (x.al slot gen n) 1 (alR m S) = (m.tick, S, ⟨1, ⟨1, -1, 0, false, false, need, 0, W, 0, Hd.zero⟩, TakeS.zero, gNone, false⟩) := by
  show (m.tick, alSeen (x.al slot gen n) S { AlV.init with cnt := 1, was := m.at_ (x.root + slot) } TakeS.zero) = _
  rw [hW]
  unfold alSeen
  rw [if_pos hlv]
  dsimp only
  rw [hneed, if_pos ⟨hmk, hf⟩]
  rfl
 have hat : m.tick.at_ (x.root + slot) = W := hW
 have hR : Rt.ok ⟨(rtOf W).gen, (rtOf W).mrk, (rtOf W).cl, (rtOf W).off + need⟩ := ⟨hk.g, hk.m, hk.c, by have := hf.2; show (rtOf W).off + need ≤ 1024; omega⟩
 have e2 : alIt (x.al slot gen n) 2 (alR m S) = (m.tick.put (x.root + slot) (Rt.w ⟨(rtOf W).gen, (rtOf W).mrk, (rtOf W).cl, (rtOf W).off + need⟩), S,
   ⟨6, ⟨2, -1, 0, false, true, need, 2, W, 0, ⟨slot, gen, (rtOf W).chunk, (rtOf W).off, n⟩⟩, TakeS.zero, PushS.init [], true⟩) := by
  show alStep (x.al slot gen n) (alIt (x.al slot gen n) 1 (alR m S)).1 (alIt (x.al slot gen n) 1 (alR m S)).2.1 (alIt (x.al slot gen n) 1 (alR m S)).2.2 = _
  rw [e1]
  unfold alStep
  simp only [Bool.false_eq_true, if_false]
  rw [if_pos hat, alClose_none rfl hx0]
 refine ⟨e2, fun j hj => ?_, fun j hj => ?_, by rw [e2]⟩
 ·rcases (show j = 0 ∨ j = 1 ∨ j = 2 by omega) with rfl | rfl | rfl
  ·exact good0 hl hm hk' hs hm0 hm2
  ·rw [e1]
   exact ⟨hl, hm, by show (rtOf (m.at_ (x.root + slot))).ok; rw [hW]; exact hk, hs, hm0, hm2, fun _ => ⟨by show 1 ≤ 6; omega, by show 1 ≤ 1000000; omega, by show (-1 : Int) ≤ -1; omega, by show (-1 : Int) < x.c; omega, hk, fun _ => hf.2, (fun h => by cases h), (fun h => by rcases h with h | h | h <;> cases h), (fun h => by cases h), (fun h => by cases h)⟩⟩
  ·rw [e2]
   refine ⟨by rw [Mm.len_put]; exact hl, Mm.ok_put (Mm.ok_tick hm) (Rt.w_lt hR), ?_, hs, hm0, hm2, (fun h => by cases h)⟩
   show (rtOf ((m.tick.put (x.root + slot) _).at_ (x.root + slot))).ok
   rw [Mm.at_put _ (by show _ < m.ws.length; omega), if_pos rfl, rtOf_w hR]
   exact hR
 ·rcases (show j = 0 ∨ j = 1 by omega) with rfl | rfl
  ·rfl
  ·rw [e1]
end
end Go.Proofs.YtflalhdofhobmaaGreat


namespace Go.Proofs.YtflalhdofhobmaaGreat
structure Wk where
 s : SupS
 a : AlS
 n : Nat
def ownH (a : AlS) : List Int := if 0 ≤ a.v.hand then [a.v.hand] else []
def ownG (a : AlS) : List Int := if a.g.done then [] else a.g.l
def Wk.own (w : Wk) : List Int := w.s.xs ++ (ownH w.a ++ ownG w.a)
def Wk.pend (w : Wk) : List Hd := if w.a.at_ = 6 ∧ w.a.v.code = 0 then [w.a.v.obj] else []
structure RootI (x : Cn) (cl gen : Nat) (w : Nat) : Prop where
 ok : (rtOf w).ok
 g : (rtOf w).gen = gen
 c : (rtOf w).cl = cl
 m : 1 ≤ (rtOf w).mrk
 o : (rtOf w).off ≤ x.wd
 d : (rtOf w).off % 2 ^ cl = 0
def Apt (o u : Hd) : Prop := o.chunk = u.chunk → o.off + o.len ≤ u.off ∨ u.off + u.len ≤ o.off
theorem Apt.symm {o u : Hd} (h : Apt o u) : Apt u o := fun e => (h e.symm).symm
structure ObjI (x : Cn) (slot cl gen : Nat) (w : Nat) (R : List Int) (o : Hd) : Prop where
 s : o.slot = slot
 g : o.gen = gen
 c : o.chunk ∈ R
 l : 1 ≤ o.len
 f : 0 ≤ o.off
 d : o.off % (2 ^ cl : Nat) = 0
 e : o.off + o.len ≤ x.wd
 b : o.chunk = (rtOf w).chunk → o.off + o.len ≤ (rtOf w).off
structure RunI (x : Cn) (cl gen : Nat) (m : Mm) (P : List Int) (w : Wk) : Prop where
 h0 : -1 ≤ w.a.v.hand
 wok : (rtOf w.a.v.was).ok
 was : w.a.at_ ≠ 0 → w.a.at_ ≠ 6 → RootI x cl gen w.a.v.was
 need : w.a.at_ ≠ 0 → w.a.at_ ≠ 6 → w.a.v.need = roundS cl w.n
 fit : w.a.at_ = 1 → 2 ≤ (rtOf w.a.v.was).mrk ∧ (rtOf w.a.v.was).off + w.a.v.need ≤ x.wd
 hand : w.a.at_ = 3 ∨ w.a.at_ = 4 ∨ w.a.at_ = 5 → 0 ≤ w.a.v.hand
 zlt : w.a.at_ = 3 → w.a.v.zat < x.wd
 zz : 0 ≤ w.a.v.hand → ∀ j, j < w.a.v.zat → m.at_ (x.word + w.a.v.hand.toNat * x.wd + j) = 0
 zw : w.a.at_ ≠ 3 → 0 ≤ w.a.v.hand → w.a.v.zat = x.wd
 z0 : w.a.at_ ≠ 6 → w.a.v.hand < 0 → w.a.v.zat = 0
 noh : w.a.at_ = 2 → w.a.v.hand = -1
 tk : w.a.at_ = 2 → w.a.t.at_ = 1 ∧ w.a.t.done = false ∧ w.a.t.chunk = 0 ∧ w.a.t.is_ = false ∧ w.a.t.q.ok x.pool ∧ w.a.t.q.done = false ∧ PopH x.pool m P w.a.t.q
 ps : w.a.at_ = 6 → w.a.g.ok x.pool ∧ w.a.g.done = false ∧ PushH x.pool m w.a.g
structure WkI (x : Cn) (cl gen T : Nat) (m : Mm) (P : List Int) (w : Wk) : Prop where
 n1 : 1 ≤ w.n
 n2 : w.n ≤ x.wd
 lm : w.s.lm.size = 0
 m0 : 0 ≤ w.s.most
 m2 : w.s.most ≤ 64
 a6 : w.a.at_ ≤ 6
 h6 : w.a.done = true ∨ w.a.at_ = 6 → w.a.v.hand = -1
 gd : w.a.done = true ∨ w.a.at_ ≠ 6 → w.a.g.done = true
 cnt : w.a.v.cnt ≤ T
 cd : w.a.at_ = 6 → w.a.v.code = 0 ∨ w.a.v.code = 6
 run : w.a.done = false → RunI x cl gen m P w
structure ApI (x : Cn) (slot cl gen : Nat) (m : Mm) (ws : List Wk) (has : List Hd) (P R : List Int) (T : Nat) : Prop where
 len : m.ws.length = x.len
 ok : m.ok
 root : RootI x cl gen (m.at_ (x.root + slot))
 hd : 2 ≤ (rtOf (m.at_ (x.root + slot))).mrk → (rtOf (m.at_ (x.root + slot))).chunk ∈ R
 pool : Pool x.pool m P
 tag : hdT (m.at_ x.pool.head) ≤ T + 10
 one : ∀ y, P.count y + R.count y + (ws.flatMap Wk.own).count y ≤ 1
 rng : ∀ y, 0 < P.count y + R.count y + (ws.flatMap Wk.own).count y → 0 ≤ y ∧ y < (x.c : Int)
 wk : ∀ w ∈ ws, WkI x cl gen T m P w
 zr : ∀ y ∈ R, ∀ j, j < x.wd → m.at_ (x.word + y.toNat * x.wd + j) = 0
 obj : ∀ o ∈ has ++ ws.flatMap Wk.pend, ObjI x slot cl gen (m.at_ (x.root + slot)) R o
 dj : (has ++ ws.flatMap Wk.pend).Pairwise Apt
theorem word_ne {a b w i j : Nat} (h : a ≠ b) (hi : i < w) (hj : j < w) : a * w + i ≠ b * w + j := by
 intro e
 have h1 : (a * w + i) / w = a := by rw [Nat.mul_comm, Nat.mul_add_div (by omega), Nat.div_eq_of_lt hi]; rfl
 have h2 : (b * w + j) / w = b := by rw [Nat.mul_comm, Nat.mul_add_div (by omega), Nat.div_eq_of_lt hj]; rfl
 rw [e, h2] at h1
 exact h h1.symm
def FrA (x : Cn) (slot : Nat) (own : List Int) (m m' : Mm) : Prop :=
 ∀ a, a ≠ x.pool.head → a ≠ x.root + slot → (∀ y ∈ own, a ≠ x.link + y.toNat) → (∀ y ∈ own, ∀ j, j < x.wd → a ≠ x.word + y.toNat * x.wd + j) → m'.at_ a = m.at_ a
theorem WkI.frame {x : Cn} {slot cl gen T : Nat} {m m' : Mm} {P P' own : List Int} {w : Wk} (h : WkI x cl gen T m P w) (hs : slot < x.sl) (hg : HeadGoes x.pool m m' P P') (hf : FrA x slot own m m') (hr : ∀ y ∈ w.own, 0 ≤ y ∧ y < (x.c : Int)) (hro : ∀ y ∈ own, 0 ≤ y ∧ y < (x.c : Int)) (hd : ∀ y ∈ w.own, y ∉ own) : WkI x cl gen (T + 1) m' P' w := by
 have g1 : x.root + x.sl ≤ x.link := by unfold Cn.root Cn.link; omega
 have g2 : x.link + x.c = x.word := by unfold Cn.link Cn.word; omega
 have g3 : 3 ≤ x.root := by unfold Cn.root; omega
 have g0 : x.pool.head = 0 := rfl
 have hlink : ∀ y ∈ w.own, m'.at_ (x.link + y.toNat) = m.at_ (x.link + y.toNat) := fun y hy => by
  have h1 := hr y hy
  refine hf _ (by omega) (by omega) (fun z hz => ?_) (fun z hz j hj => by omega)
  have h2 := hro z hz
  have : y ≠ z := fun e => hd y hy (by rw [e]; exact hz)
  omega
 have hword : ∀ y ∈ w.own, ∀ j, j < x.wd → m'.at_ (x.word + y.toNat * x.wd + j) = m.at_ (x.word + y.toNat * x.wd + j) := fun y hy j hj => by
  have h1 := hr y hy
  refine hf _ (by omega) (by omega) (fun z hz => ?_) (fun z hz i hi => ?_)
  ·have h2 := hro z hz; omega
  ·have h2 := hro z hz
   have : y ≠ z := fun e => hd y hy (by rw [e]; exact hz)
   have := word_ne (a := y.toNat) (b := z.toNat) (by omega) hj hi
   omega
 refine ⟨h.n1, h.n2, h.lm, h.m0, h.m2, h.a6, h.h6, h.gd, Nat.le_succ_of_le h.cnt, h.cd, fun hdn => ?_⟩
 have r := h.run hdn
 have hz : 0 ≤ w.a.v.hand → w.a.v.hand ∈ w.own := fun h0 => by
  unfold Wk.own ownH; rw [if_pos h0]; simp
 refine ⟨r.h0, r.wok, r.was, r.need, r.fit, r.hand, r.zlt, fun h0 j hj => ?_, r.zw, r.z0, r.noh, fun h2 => ?_, fun h6 => ?_⟩
 ·by_cases h3 : w.a.at_ = 3
  ·rw [hword _ (hz h0) j (by have := r.zlt h3; omega)]; exact r.zz h0 j hj
  ·rw [hword _ (hz h0) j (by have := r.zw h3 h0; omega)]; exact r.zz h0 j hj
 ·obtain ⟨t1, t2, t3, t4, t5, t6, t7⟩ := r.tk h2
  exact ⟨t1, t2, t3, t4, t5, t6, t7.frame hg⟩
 ·obtain ⟨t1, t2, t3⟩ := r.ps h6
  refine ⟨t1, t2, t3.frame hg (fun y hy => hlink y ?_) t1.ne⟩
  unfold Wk.own ownG; rw [t2]
  exact List.mem_append_right _ (List.mem_append_right _ hy)
theorem ApI.updI {x : Cn} {slot cl gen T : Nat} {m m' : Mm} {A B : List Wk} {w w' : Wk} {has : List Hd} {P P' R R' : List Int} (h : ApI x slot cl gen m (A ++ w :: B) has P R T) (hs : slot < x.sl)
  (hlen : m'.ws.length = x.len) (hok : m'.ok) (hroot : RootI x cl gen (m'.at_ (x.root + slot))) (hhd : 2 ≤ (rtOf (m'.at_ (x.root + slot))).mrk → (rtOf (m'.at_ (x.root + slot))).chunk ∈ R') (hpool : Pool x.pool m' P')
  (hgo : HeadGoes x.pool m m' P P') (htag : hdT (m'.at_ x.pool.head) ≤ hdT (m.at_ x.pool.head) + 1)
  (hcnt : ∀ y, P'.count y + R'.count y + w'.own.count y = P.count y + R.count y + w.own.count y) (hfr : FrA x slot w.own m m') (hwk : WkI x cl gen (T + 1) m' P' w')
  (hzr : ∀ y ∈ R', y ∉ R → ∀ j, j < x.wd → m'.at_ (x.word + y.toNat * x.wd + j) = 0) (hR : ∀ y ∈ R, y ∈ R')
  (hup : ∀ o, ObjI x slot cl gen (m.at_ (x.root + slot)) R o → ObjI x slot cl gen (m'.at_ (x.root + slot)) R' o)
  (hpend : w'.pend = w.pend ∨ (w.pend = [] ∧ ∃ o, w'.pend = [o] ∧ ObjI x slot cl gen (m'.at_ (x.root + slot)) R' o ∧ ∀ u, ObjI x slot cl gen (m.at_ (x.root + slot)) R u → Apt o u)) :
  ApI x slot cl gen m' (A ++ w' :: B) has P' R' (T + 1) := by
 have g1 : x.root + x.sl ≤ x.link := by unfold Cn.root Cn.link; omega
 have g2 : x.link + x.c = x.word := by unfold Cn.link Cn.word; omega
 have g3 : 3 ≤ x.root := by unfold Cn.root; omega
 have g0 : x.pool.head = 0 := rfl
 have hc : ∀ (v : Wk) (y : Int), ((A ++ v :: B).flatMap Wk.own).count y = (A.flatMap Wk.own).count y + v.own.count y + (B.flatMap Wk.own).count y := fun v y => by
  simp only [List.flatMap_append, List.flatMap_cons, List.count_append]; omega
 have hcall : ∀ y, P'.count y + R'.count y + ((A ++ w' :: B).flatMap Wk.own).count y = P.count y + R.count y + ((A ++ w :: B).flatMap Wk.own).count y := fun y => by
  rw [hc, hc]; have := hcnt y; omega
 have hown : ∀ y ∈ w.own, 0 ≤ y ∧ y < (x.c : Int) := fun y hy => h.rng y (by rw [hc]; have := List.count_pos_iff.2 hy; omega)
 have hoth : ∀ v, v ∈ A ∨ v ∈ B → WkI x cl gen (T + 1) m' P' v := fun v hv => by
  have hle : ∀ y ∈ v.own, 0 < (A.flatMap Wk.own).count y + (B.flatMap Wk.own).count y := fun y hy => by
   rcases hv with hv | hv
   ·have := List.count_pos_iff.2 (List.mem_flatMap.2 ⟨v, hv, hy⟩); omega
   ·have := List.count_pos_iff.2 (List.mem_flatMap.2 ⟨v, hv, hy⟩); omega
  refine (h.wk v (by rcases hv with hv | hv <;> simp [hv])).frame hs hgo hfr (fun y hy => h.rng y (by rw [hc]; have := hle y hy; omega)) hown (fun y hy hy2 => ?_)
  have h1 := hle y hy
  have h2 := List.count_pos_iff.2 hy2
  have h3 := h.one y
  rw [hc] at h3
  omega
 have hpe : ∀ v : Wk, (A ++ v :: B).flatMap Wk.pend = A.flatMap Wk.pend ++ (v.pend ++ B.flatMap Wk.pend) := fun v => by simp only [List.flatMap_append, List.flatMap_cons]
 refine ⟨hlen, hok, hroot, hhd, hpool, by have := h.tag; omega, fun y => by rw [hcall]; exact h.one y, fun y hy => h.rng y (by rw [← hcall]; exact hy), fun v hv => ?_, fun y hy j hj => ?_, ?_, ?_⟩
 ·rcases List.mem_append.1 hv with hv | hv
  ·exact hoth v (.inl hv)
  ·rcases List.mem_cons.1 hv with rfl | hv
   ·exact hwk
   ·exact hoth v (.inr hv)
 ·by_cases hyR : y ∈ R
  ·have hy1 := List.count_pos_iff.2 hyR
   have hyr := h.rng y (by omega)
   have hno : y ∉ w.own := fun hy2 => by
    have h2 := List.count_pos_iff.2 hy2
    have h3 := h.one y
    rw [hc] at h3
    omega
   rw [hfr _ (by omega) (by omega) (fun z hz => by have := hown z hz; omega) (fun z hz i hi => by
    have h2 := hown z hz
    have : y ≠ z := fun e => hno (by rw [e]; exact hz)
    have := word_ne (a := y.toNat) (b := z.toNat) (by omega) hj hi
    omega)]
   exact h.zr y hyR j hj
  ·exact hzr y hy hyR j hj
 ·rcases hpend with e | ⟨e, o, e2, ho, _⟩
  ·rw [hpe, e, ← hpe]; exact fun o ho => hup o (h.obj o ho)
  ·rw [hpe, e2]
   intro u hu
   by_cases huo : u = o
   ·rw [huo]; exact ho
   ·refine hup u (h.obj u ?_)
    rw [hpe, e]
    simp only [List.mem_append, List.mem_cons, List.not_mem_nil, or_false] at hu ⊢
    rcases hu with hu | hu | hu | hu
    ·exact .inl hu
    ·exact .inr (.inl hu)
    ·exact absurd hu huo
    ·exact .inr (.inr (.inr hu))
 ·rcases hpend with e | ⟨e, o, e2, ho, hap⟩
  ·rw [hpe, e, ← hpe]; exact h.dj
  ·have hd := h.dj
   have ho2 := h.obj
   rw [hpe, e] at hd ho2
   rw [hpe, e2]
   simp only [List.nil_append] at hd ho2
   have hpm : (o :: (has ++ (A.flatMap Wk.pend ++ B.flatMap Wk.pend))).Perm (has ++ (A.flatMap Wk.pend ++ ([o] ++ B.flatMap Wk.pend))) := by
    rw [← List.append_assoc, ← List.append_assoc]
    exact List.perm_middle.symm
   refine (List.Perm.pairwise_iff (fun h => h.symm) hpm).1 ?_
   exact List.pairwise_cons.2 ⟨fun u hu => hap u (ho2 u hu), hd⟩
end Go.Proofs.YtflalhdofhobmaaGreat


namespace Go.Proofs.YtflalhdofhobmaaGreat
theorem Pool.put_other {k : Sk} {m : Mm} {l : List Int} {a v : Nat} (h : Pool k m l) (ha : a < m.ws.length) (h1 : a ≠ k.head) (h2 : ∀ y ∈ l, a ≠ k.links + y.toNat) : Pool k (m.put a v) l := by
 have hput : ∀ b, (m.put a v).at_ b = if a = b then v else m.at_ b := fun b => Mm.at_put b ha
 refine ⟨?_, h.nd⟩
 rw [hput, if_neg h1]
 exact h.c.congr fun y hy => by rw [hput, if_neg (h2 y hy)]
theorem lastI_count {l : List Int} (h : l ≠ []) (y : Int) : l.dropLast.count y + [lastI l].count y = l.count y := by
 have e : l.dropLast ++ [lastI l] = l := by
  unfold lastI
  rw [List.getLastD_eq_getLast?, List.getLast?_eq_some_getLast h]
  exact List.dropLast_concat_getLast h
 rw [← List.count_append, e]
section
variable {x : Cn} {slot cl gen T : Nat} {m : Mm} {A B : List Wk} {w : Wk} {has : List Hd} {P R : List Int}
theorem ApI.cnt_mid (v : Wk) (y : Int) : ((A ++ v :: B).flatMap Wk.own).count y = (A.flatMap Wk.own).count y + v.own.count y + (B.flatMap Wk.own).count y := by
 simp only [List.flatMap_append, List.flatMap_cons, List.count_append]; omega
theorem ApI.mid (h : ApI x slot cl gen m (A ++ w :: B) has P R T) : WkI x cl gen T m P w := h.wk w (by simp)
theorem ApI.own_rng (h : ApI x slot cl gen m (A ++ w :: B) has P R T) : ∀ y ∈ w.own, 0 ≤ y ∧ y < (x.c : Int) := fun y hy => h.rng y (by rw [ApI.cnt_mid]; have := List.count_pos_iff.2 hy; omega)
theorem ApI.own_one (h : ApI x slot cl gen m (A ++ w :: B) has P R T) (y : Int) : P.count y + R.count y + w.own.count y ≤ 1 := by
 have := h.one y; rw [ApI.cnt_mid] at this; omega
theorem ApI.own_nd (h : ApI x slot cl gen m (A ++ w :: B) has P R T) : w.own.Nodup := List.nodup_iff_count.2 fun y => by have := h.own_one y; omega
theorem ApI.own_P (h : ApI x slot cl gen m (A ++ w :: B) has P R T) {y : Int} (hy : y ∈ w.own) : y ∉ P := fun h2 => by
 have h1 := h.own_one y
 have := List.count_pos_iff.2 hy; have := List.count_pos_iff.2 h2; omega
theorem ApI.xs_le (h : ApI x slot cl gen m (A ++ w :: B) has P R T) : w.s.xs.length ≤ x.c := by
 refine length_nodup x.c w.s.xs ?_ fun y hy => ?_
 ·have := h.own_nd; unfold Wk.own at this; exact (List.nodup_append.1 this).1
 ·exact h.own_rng y (by unfold Wk.own; exact List.mem_append_left _ hy)
theorem ApI.still {w' : Wk} (h : ApI x slot cl gen m (A ++ w :: B) has P R T) (hs : slot < x.sl) (hcnt : ∀ y, w'.own.count y = w.own.count y) (hwk : WkI x cl gen (T + 1) m.tick P w') (hp : w'.pend = w.pend) :
  ApI x slot cl gen m.tick (A ++ w' :: B) has P R (T + 1) :=
 h.updI hs h.len (Mm.ok_tick h.ok) h.root h.hd h.pool.tick (.inl ⟨rfl, rfl⟩) (Nat.le_succ _) (fun y => by rw [hcnt]) (fun _ _ _ _ _ => rfl) hwk (fun y h1 h2 => absurd h1 h2) (fun _ h => h) (fun _ h => h) (.inl hp)
end
end Go.Proofs.YtflalhdofhobmaaGreat


namespace Go.Proofs.YtflalhdofhobmaaGreat
section
variable {x : Cn} {slot cl gen T : Nat} {m : Mm} {A B : List Wk} {w : Wk} {has : List Hd} {P R : List Int}
theorem own_n {s : SupS} {n i : Nat} {v : AlV} {t : TakeS} : Wk.own ⟨s, ⟨i, v, t, gNone, false⟩, n⟩ = s.xs ++ (if 0 ≤ v.hand then [v.hand] else []) := by
 show s.xs ++ ((if 0 ≤ v.hand then [v.hand] else []) ++ []) = _
 rw [List.append_nil]
end
end Go.Proofs.YtflalhdofhobmaaGreat


namespace Go.Proofs.YtflalhdofhobmaaGreat
section
variable {x : Cn} {slot cl gen T : Nat} {m : Mm} {A B : List Wk} {w : Wk} {has : List Hd} {P R : List Int}
end
end Go.Proofs.YtflalhdofhobmaaGreat


namespace Go.Proofs.YtflalhdofhobmaaGreat
section
variable {x : Cn} {slot cl gen T : Nat} {m : Mm} {A B : List Wk} {w : Wk} {has : List Hd} {P R : List Int}
theorem alStep_done {p : AlP} {s : SupS} {a : AlS} (ha : a.at_ ≤ 6) (hd : a.done = false) (h : (alStep p m s a).2.2.done = true) : (alStep p m s a).2.2.at_ = 6 := by
 have hcl : ∀ (k : Sk) (s : SupS) (v : AlV) (t : TakeS) (c : Nat) (o : Hd), (alClose k s v t c o).2.at_ = 6 := fun _ _ _ _ _ _ => rfl
 have htk : ∀ (v : AlV) (t : TakeS), (alTaken v t).done = false := fun v t => by unfold alTaken; split <;> rfl
 have hse : ∀ (v : AlV) (t : TakeS), (alSeen p s v t).2.done = true → (alSeen p s v t).2.at_ = 6 := fun v t => by
  unfold alSeen
  split
  ·dsimp only
   split
   ·intro h; cases h
   ·split
    ·intro h; cases h
    ·split
     ·intro _; exact hcl _ _ _ _ _ _
     ·split
      ·intro h; rw [htk] at h; cases h
      ·intro h; cases h
  ·intro _; exact hcl _ _ _ _ _ _
 revert h
 rcases (show a.at_ = 0 ∨ a.at_ = 1 ∨ a.at_ = 2 ∨ a.at_ = 3 ∨ a.at_ = 4 ∨ a.at_ = 5 ∨ a.at_ = 6 by omega) with h0 | h0 | h0 | h0 | h0 | h0 | h0 <;> (unfold alStep; rw [hd, h0]; simp only [Bool.false_eq_true, if_false])
 ·exact hse _ _
 ·split
  ·intro _; exact hcl _ _ _ _ _ _
  ·intro h; cases h
 ·split
  ·intro h; rw [htk] at h; cases h
  ·intro h; cases h
 ·intro h; cases h
 ·intro h; cases h
 ·split
  ·intro _; exact hcl _ _ _ _ _ _
  ·intro h; cases h
 ·intro _; trivial
end
end Go.Proofs.YtflalhdofhobmaaGreat
